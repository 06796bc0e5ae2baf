/- Texts joined by merge.py: CrcPlain, WiPlain, WiRecs, WiCmd, WiSteps, WiStream, WiTurn. -/
import Derived.Test.YtioohhekamjljaaProg
/- Sums of records over lists of bytes: a sum is linear, and bytes turned within four neighbours are told; no program in sight. No conditions beside those written out. -/
set_option linter.unusedSimpArgs false
set_option linter.unusedVariables false
namespace Go.Proofs.Ytioohhekamjljaa.Crc

/-- One bit more. -/
def T (x : Nat) : Nat := (x / 2) ^^^ (if x % 2 = 1 then 2197175160 else 0)
def Tn : Nat → Nat → Nat
  | 0, x => x
  | n + 1, x => Tn n (T x)
def runC (x : Nat) (l : List UInt8) : Nat := l.foldl (fun x b => Tn 8 (x ^^^ b.toNat)) x
def sumC (l : List UInt8) : Nat := runC 4294967295 l ^^^ 4294967295

theorem div2_xor (x y : Nat) : (x ^^^ y) / 2 = x / 2 ^^^ y / 2 := by
  have := Nat.shiftRight_xor_distrib (a := x) (b := y) (i := 1)
  simpa [Nat.shiftRight_eq_div_pow] using this
theorem mod2_xor (x y : Nat) : (x ^^^ y) % 2 = (x + y) % 2 := by
  have h := Nat.testBit_xor x y 0
  rw [Nat.testBit_zero, Nat.testBit_zero, Nat.testBit_zero] at h
  have hx := Nat.mod_two_eq_zero_or_one x
  have hy := Nat.mod_two_eq_zero_or_one y
  have hz := Nat.mod_two_eq_zero_or_one (x ^^^ y)
  rcases hx with hx | hx <;> rcases hy with hy | hy <;> rcases hz with hz | hz <;> first
    | omega
    | (exfalso; rw [hx, hy, hz] at h; revert h; decide)
theorem T_lin (x y : Nat) : T (x ^^^ y) = T x ^^^ T y := by
  unfold T
  rw [div2_xor, mod2_xor]
  have hx := Nat.mod_two_eq_zero_or_one x
  have hy := Nat.mod_two_eq_zero_or_one y
  rcases hx with hx | hx <;> rcases hy with hy | hy
  · rw [if_neg (by omega), if_neg (by omega), if_neg (by omega)]; simp
  · rw [if_pos (by omega), if_neg (by omega), if_pos (by omega)]; simp [Nat.xor_assoc]
  · rw [if_pos (by omega), if_pos (by omega), if_neg (by omega)]
    simp only [Nat.xor_zero]
    rw [Nat.xor_assoc, Nat.xor_assoc, Nat.xor_comm (y / 2)]
  · rw [if_neg (by omega), if_pos (by omega), if_pos (by omega)]
    rw [Nat.xor_zero, Nat.xor_assoc, ← Nat.xor_assoc 2197175160, Nat.xor_comm 2197175160, Nat.xor_assoc (y / 2), Nat.xor_self, Nat.xor_zero]
theorem T_zero : T 0 = 0 := by decide
theorem T_two (y : Nat) : T (2 * y) = y := by
  unfold T
  rw [if_neg (by omega), Nat.xor_zero]
  omega
theorem T_lt {x : Nat} (h : x < 4294967296) : T x < 4294967296 := by
  unfold T
  exact Nat.xor_lt_two_pow (n := 32) (by omega) (by split <;> omega)
/-- Nothing but nought goes to nought. -/
theorem T_inj {x : Nat} (h : x < 4294967296) (h0 : T x = 0) : x = 0 := by
  unfold T at h0
  have hx := Nat.mod_two_eq_zero_or_one x
  rcases hx with hx | hx
  · rw [if_neg (by omega), Nat.xor_zero] at h0
    omega
  · rw [if_pos hx] at h0
    have h1 : x / 2 = 2197175160 := by
      have := congrArg (· ^^^ 2197175160) h0
      simpa [Nat.xor_assoc] using this
    omega
theorem Tn_add : ∀ (a b x : Nat), Tn (a + b) x = Tn b (Tn a x)
  | 0, b, x => by rw [Nat.zero_add]; rfl
  | a + 1, b, x => by
    rw [show a + 1 + b = (a + b) + 1 by omega]
    exact Tn_add a b (T x)
theorem Tn_lin : ∀ (n x y : Nat), Tn n (x ^^^ y) = Tn n x ^^^ Tn n y
  | 0, _, _ => rfl
  | n + 1, x, y => by
    show Tn n (T (x ^^^ y)) = _
    rw [T_lin, Tn_lin n]
    rfl
theorem Tn_zero : ∀ n, Tn n 0 = 0
  | 0 => rfl
  | n + 1 => by
    show Tn n (T 0) = 0
    rw [T_zero]; exact Tn_zero n
theorem Tn_lt : ∀ (n : Nat) {x : Nat}, x < 4294967296 → Tn n x < 4294967296
  | 0, _, h => h
  | n + 1, _, h => Tn_lt n (T_lt h)
theorem Tn_inj : ∀ (n : Nat) {x : Nat}, x < 4294967296 → Tn n x = 0 → x = 0
  | 0, _, _, h0 => h0
  | n + 1, x, h, h0 => T_inj h (Tn_inj n (T_lt h) h0)
theorem Tn_shift : ∀ (n y : Nat), Tn n (2 ^ n * y) = y
  | 0, y => by simp [Tn]
  | n + 1, y => by
    show Tn n (T (2 ^ (n + 1) * y)) = y
    rw [show 2 ^ (n + 1) * y = 2 * (2 ^ n * y) by rw [Nat.pow_succ, Nat.mul_comm (2 ^ n) 2, Nat.mul_assoc], T_two]
    exact Tn_shift n y

/-- Bytes, and which of their bits are turned. -/
def xorL (a e : List UInt8) : List UInt8 := List.zipWith (· ^^^ ·) a e
theorem run_lin : ∀ (a e : List UInt8) (x y : Nat), a.length = e.length → runC (x ^^^ y) (xorL a e) = runC x a ^^^ runC y e
  | [], [], x, y, _ => rfl
  | p :: a, q :: e, x, y, h => by
    have h1 : (p ^^^ q).toNat = p.toNat ^^^ q.toNat := UInt8.toNat_xor p q
    show runC (Tn 8 ((x ^^^ y) ^^^ (p ^^^ q).toNat)) (xorL a e) = runC (Tn 8 (x ^^^ p.toNat)) a ^^^ runC (Tn 8 (y ^^^ q.toNat)) e
    have h2 : (x ^^^ y) ^^^ (p ^^^ q).toNat = (x ^^^ p.toNat) ^^^ (y ^^^ q.toNat) := by
      rw [h1, Nat.xor_assoc, Nat.xor_assoc, ← Nat.xor_assoc y, Nat.xor_comm y p.toNat, Nat.xor_assoc p.toNat]
    rw [h2, Tn_lin]
    exact run_lin a e _ _ (by simpa using h)
  | [], _ :: _, _, _, h => by simp at h
  | _ :: _, [], _, _, h => by simp at h
theorem run_lt : ∀ (l : List UInt8) {x : Nat}, x < 4294967296 → runC x l < 4294967296
  | [], _, h => h
  | b :: l, x, h => run_lt l (Tn_lt 8 (Nat.xor_lt_two_pow (n := 32) h (by have := b.toNat_lt; omega)))
theorem run_append (a b : List UInt8) (x : Nat) : runC x (a ++ b) = runC (runC x a) b := by simp [runC]
theorem run_zeros : ∀ (n x : Nat), runC x (List.replicate n 0) = Tn (8 * n) x
  | 0, _ => rfl
  | n + 1, x => by
    rw [List.replicate_succ]
    show runC (Tn 8 (x ^^^ 0)) (List.replicate n 0) = _
    rw [Nat.xor_zero, run_zeros n, show 8 * (n + 1) = 8 + 8 * n by omega, Tn_add]
/-- Bytes' number, the lowest first. -/
def leN : List UInt8 → Nat
  | [] => 0
  | b :: l => b.toNat ^^^ (256 * leN l)
theorem leN_lt : ∀ (l : List UInt8), leN l < 2 ^ (8 * l.length)
  | [] => by simp [leN]
  | b :: l => by
    have h := leN_lt l
    have hb := b.toNat_lt
    rw [List.length_cons, show 8 * (l.length + 1) = 8 * l.length + 8 by omega]
    refine Nat.xor_lt_two_pow ?_ ?_
    · exact Nat.lt_of_lt_of_le (by omega : b.toNat < 2 ^ 8) (Nat.pow_le_pow_right (by decide) (by omega))
    · rw [Nat.pow_add]
      omega
/-- Few bytes into a sum. -/
theorem run_few : ∀ (l : List UInt8) (x : Nat), runC x l = Tn (8 * l.length) (x ^^^ leN l)
  | [], x => by simp [runC, leN, Tn]
  | b :: l, x => by
    show runC (Tn 8 (x ^^^ b.toNat)) l = _
    rw [run_few l, List.length_cons, show 8 * (l.length + 1) = 8 + 8 * l.length by omega, Tn_add, leN, ← Nat.xor_assoc, Tn_lin 8 (x ^^^ b.toNat)]
    have := Tn_shift 8 (leN l)
    rw [show (2 : Nat) ^ 8 = 256 by decide] at this
    rw [this]
theorem leN_zero : ∀ (l : List UInt8), leN l = 0 → ∀ b ∈ l, b = 0
  | [], _, _, h => by cases h
  | b :: l, h, c, hc => by
    have hb := b.toNat_lt
    have h1 : b.toNat = 256 * leN l := by
      have h := congrArg (· ^^^ (256 * leN l)) h
      simpa [leN, Nat.xor_assoc] using h
    have h2 : leN l = 0 := by omega
    have h3 : b.toNat = 0 := by omega
    rcases List.mem_cons.1 hc with e | e
    · subst e
      exact UInt8.toNat_inj.1 (by rw [h3]; rfl)
    · exact leN_zero l h2 c e
/-- A sum's four bytes. -/
def le4 (x : Nat) : List UInt8 := [UInt8.ofNat x, UInt8.ofNat (x / 256), UInt8.ofNat (x / 65536), UInt8.ofNat (x / 16777216)]
def sealC (l : List UInt8) : List UInt8 := l ++ le4 (sumC l)
theorem or_low (b y : Nat) (hb : b < 256) : b ^^^ (256 * y) = b + 256 * y := by
  have h1 := Nat.shiftLeft_add_eq_or_of_lt (i := 8) (b := b) (by omega) y
  have h2 : b ^^^ (y <<< 8) = (y <<< 8) ||| b := by
    apply Nat.eq_of_testBit_eq
    intro i
    rw [Nat.testBit_xor, Nat.testBit_or, Nat.testBit_shiftLeft]
    by_cases hi : 8 ≤ i
    · have : b.testBit i = false := Nat.testBit_lt_two_pow (Nat.lt_of_lt_of_le (by omega : b < 2 ^ 8) (Nat.pow_le_pow_right (by decide) hi))
      simp [this]
    · have : ¬ i ≥ 8 := hi
      simp [this]
  have h3 : y <<< 8 = 256 * y := by rw [Nat.shiftLeft_eq]; omega
  rw [h3] at h1 h2
  rw [h2, ← h1]
  omega
theorem ofNat_toNat (x : Nat) : (UInt8.ofNat x).toNat = x % 256 := by
  show x % 2 ^ 8 = x % 256
  rfl
theorem leN_le4 {x : Nat} (h : x < 4294967296) : leN (le4 x) = x := by
  simp only [le4, leN, ofNat_toNat, Nat.mul_zero, Nat.xor_zero]
  rw [or_low _ _ (Nat.mod_lt _ (by decide)), or_low _ _ (Nat.mod_lt _ (by decide)), or_low _ _ (Nat.mod_lt _ (by decide))]
  omega
theorem run_bij (n : Nat) {x y : Nat} (hx : x < 4294967296) (hy : y < 4294967296) (h : Tn n x = Tn n y) : x = y := by
  have h1 : Tn n (x ^^^ y) = 0 := by rw [Tn_lin, h, Nat.xor_self]
  have h2 := Tn_inj n (Nat.xor_lt_two_pow (n := 32) hx hy) h1
  have := congrArg (· ^^^ y) h2
  simpa [Nat.xor_assoc] using this
theorem leN_inj4 {a c : List UInt8} (ha : a.length = 4) (hc : c.length = 4) (h : leN a = leN c) : a = c := by
  match a, c, ha, hc with
  | [a0, a1, a2, a3], [c0, c1, c2, c3], _, _ =>
    simp only [leN, Nat.mul_zero, Nat.xor_zero] at h
    have e : ∀ (b : UInt8) (y : Nat), b.toNat ^^^ (256 * y) = b.toNat + 256 * y := fun b y => or_low _ _ b.toNat_lt
    simp only [e] at h
    have l0 := a0.toNat_lt; have l1 := a1.toNat_lt; have l2 := a2.toNat_lt; have l3 := a3.toNat_lt
    have m0 := c0.toNat_lt; have m1 := c1.toNat_lt; have m2 := c2.toNat_lt; have m3 := c3.toNat_lt
    rw [UInt8.toNat_inj.1 (by omega : a0.toNat = c0.toNat), UInt8.toNat_inj.1 (by omega : a1.toNat = c1.toNat), UInt8.toNat_inj.1 (by omega : a2.toNat = c2.toNat), UInt8.toNat_inj.1 (by omega : a3.toNat = c3.toNat)]
/-- Bytes bear their sum just if the sum over all of them is that of a sum's own bytes. -/
theorem bears_iff (l c : List UInt8) (hc : c.length = 4) : c = le4 (sumC l) ↔ runC 4294967295 (l ++ c) = Tn 32 4294967295 := by
  have hx : runC 4294967295 l < 4294967296 := run_lt l (by decide)
  have hs : sumC l < 4294967296 := Nat.xor_lt_two_pow (n := 32) hx (by decide)
  have hl : leN c < 4294967296 := by have := leN_lt c; rw [hc] at this; simpa using this
  rw [run_append, run_few c, hc, show 8 * 4 = 32 by decide]
  constructor
  · intro h
    rw [h, leN_le4 hs]
    unfold sumC
    rw [← Nat.xor_assoc, Nat.xor_self, Nat.zero_xor]
  · intro h
    have h1 := run_bij 32 (Nat.xor_lt_two_pow (n := 32) hx hl) (by decide) h
    have h2 : leN c = sumC l := by
      have := congrArg (runC 4294967295 l ^^^ ·) h1
      simp only [← Nat.xor_assoc, Nat.xor_self, Nat.zero_xor] at this
      exact this
    exact leN_inj4 hc rfl (by rw [h2, leN_le4 hs])
/-- Bytes turned, four neighbours at most: noughts, the turned ones, noughts. -/
theorem burst {e : List UInt8} {p r : Nat} {d : List UInt8} (he : e = List.replicate p 0 ++ d ++ List.replicate r 0) (hd : d.length ≤ 4) (h : runC 0 e = 0) : ∀ b ∈ d, b = 0 := by
  have hl : leN d < 4294967296 := by
    have h1 := leN_lt d
    exact Nat.lt_of_lt_of_le h1 (Nat.pow_le_pow_right (n := 2) (by decide) (by omega : 8 * d.length ≤ 32))
  have h0 : runC 0 (List.replicate p 0) = 0 := by rw [run_zeros, Tn_zero]
  rw [he, run_append, run_append, h0, run_zeros, run_few d, Nat.zero_xor] at h
  exact leN_zero d (Tn_inj _ hl (Tn_inj _ (Tn_lt _ hl) h))
/-- A record's bytes turned within four neighbours do not bear their sum. -/
theorem turned_told (l e c : List UInt8) (hc : c.length = 4) (he : e.length = l.length + 4) (hb : c = le4 (sumC l)) {p r : Nat} {d : List UInt8} (hs : e = List.replicate p 0 ++ d ++ List.replicate r 0) (hd : d.length ≤ 4) (hne : ∃ b ∈ d, b ≠ 0) :
    ∀ l' c' : List UInt8, l'.length = l.length → l' ++ c' = xorL (l ++ c) e → c' ≠ le4 (sumC l') := by
  intro l' c' hl hx hb'
  have hc' : c'.length = 4 := by rw [hb']; rfl
  have h1 := (bears_iff l c hc).1 hb
  have h2 := (bears_iff l' c' hc').1 hb'
  have h3 := run_lin (l ++ c) e 4294967295 0 (by rw [List.length_append, hc, he])
  rw [Nat.xor_zero, ← hx, h2, h1] at h3
  have h4 : runC 0 e = 0 := by
    have := congrArg (Tn 32 4294967295 ^^^ ·) h3
    simp only [← Nat.xor_assoc, Nat.xor_self, Nat.zero_xor] at this
    exact this.symm
  obtain ⟨b, hb, hn⟩ := hne
  exact hn (burst hs hd h4 b hb)
end Go.Proofs.Ytioohhekamjljaa.Crc

/- Records of a stream as plain bytes: what is printed is parsed, what is parsed was printed; no program in sight. No conditions beside those written out. -/
set_option linter.unusedSimpArgs false
set_option linter.unusedVariables false
namespace Go.Proofs.Ytioohhekamjljaa.Wi
open Go.Proofs.Ytioohhekamjljaa.Crc

abbrev B := List UInt8
/-- Four bytes of a number, the highest first, and back. -/
def be4 (n : Nat) : B := [UInt8.ofNat (n / 16777216), UInt8.ofNat (n / 65536), UInt8.ofNat (n / 256), UInt8.ofNat n]
def beN (l : B) : Nat := l.foldl (fun a b => a * 256 + b.toNat) 0
theorem be4_len (n : Nat) : (be4 n).length = 4 := rfl
theorem beN_be4 {n : Nat} (h : n < 4294967296) : beN (be4 n) = n := by
  simp only [be4, beN, List.foldl_cons, List.foldl_nil, ofNat_toNat]
  omega
theorem ofNat_eq {x : Nat} {b : UInt8} (h : x % 256 = b.toNat) : UInt8.ofNat x = b := UInt8.toNat_inj.1 (by rw [ofNat_toNat, h])
theorem be4_beN : ∀ {l : B}, l.length = 4 → be4 (beN l) = l
  | [a, b, c, d], _ => by
    have ha := a.toNat_lt; have hb := b.toNat_lt; have hc := c.toNat_lt; have hd := d.toNat_lt
    simp only [be4, beN, List.foldl_cons, List.foldl_nil]
    rw [ofNat_eq (b := a) (by omega), ofNat_eq (b := b) (by omega), ofNat_eq (b := c) (by omega), ofNat_eq (b := d) (by omega)]
theorem beN_lt : ∀ {l : B}, l.length = 4 → beN l < 4294967296
  | [a, b, c, d], _ => by
    have ha := a.toNat_lt; have hb := b.toNat_lt; have hc := c.toNat_lt; have hd := d.toNat_lt
    simp only [beN, List.foldl_cons, List.foldl_nil]
    omega
/-- A record: its kind, its number, its payload. -/
structure Rc where
  kind : Nat
  seq : Nat
  pay : B
/-- A record's bytes without their sum, and with it. -/
def bodyR (x : Rc) : B := UInt8.ofNat x.kind :: (be4 x.seq ++ [UInt8.ofNat (x.pay.length / 256), UInt8.ofNat x.pay.length] ++ x.pay)
def recB (x : Rc) : B := sealC (bodyR x)
structure OkR (x : Rc) : Prop where
  k0 : 1 ≤ x.kind
  k1 : x.kind ≤ 255
  q1 : x.seq ≤ 2147483647
  p1 : x.pay.length ≤ 8192
theorem body_len (x : Rc) : (bodyR x).length = 7 + x.pay.length := by simp [bodyR, be4]; omega
theorem seal_len (l : B) : (sealC l).length = l.length + 4 := by simp [sealC, le4]
theorem rec_len (x : Rc) : (recB x).length = 11 + x.pay.length := by rw [recB, seal_len, body_len]; omega
/-- What parsing finds. -/
inductive Pa
  | none
  | err (e : Nat)
  | got (x : Rc) (rest : B)
/-- How long a payload is said to be. -/
def lenS (s : B) : Nat := (s[5]?.getD 0).toNat * 256 + (s[6]?.getD 0).toNat
def recS (s : B) : Rc := ⟨(s[0]?.getD 0).toNat, beN ((s.drop 1).take 4), (s.drop 7).take (lenS s)⟩
def parseT (s : B) : Pa :=
  if s.length < 7 then .none
  else if 8192 < lenS s then .err 3
  else if s.length < lenS s + 11 then .none
  else if sealC (s.take (lenS s + 7)) ≠ s.take (lenS s + 11) then .err 8
  else if (recS s).kind = 0 then .err 16
  else if 2147483647 < (recS s).seq then .err 1
  else .got (recS s) (s.drop (lenS s + 11))
theorem lenS_append {s : B} (t : B) (h : 7 ≤ s.length) : lenS (s ++ t) = lenS s := by
  unfold lenS
  rw [List.getElem?_append_left (by omega), List.getElem?_append_left (by omega)]
theorem recS_append {s : B} (t : B) (h : lenS s + 11 ≤ s.length) : recS (s ++ t) = recS s := by
  unfold recS
  rw [lenS_append t (by omega), List.getElem?_append_left (by omega), List.drop_append_of_le_length (by omega), List.take_append_of_le_length (by simp; omega),
    List.drop_append_of_le_length (by omega), List.take_append_of_le_length (by simp; omega)]
/-- More bytes behind change nothing of what is told. -/
theorem parse_more {s : B} (t : B) : parseT s ≠ .none → parseT (s ++ t) = match parseT s with | .got x r => .got x (r ++ t) | y => y := by
  intro h
  unfold parseT at h ⊢
  by_cases h1 : s.length < 7
  · rw [if_pos h1] at h
    exact absurd rfl h
  rw [if_neg h1] at h ⊢
  have h1' : ¬ (s ++ t).length < 7 := by rw [List.length_append]; omega
  rw [if_neg h1', lenS_append t (by omega)]
  by_cases h2 : 8192 < lenS s
  · rw [if_pos h2, if_pos h2]
  rw [if_neg h2] at h ⊢
  rw [if_neg h2]
  by_cases h3 : s.length < lenS s + 11
  · rw [if_pos h3] at h
    exact absurd rfl h
  have h3' : ¬ (s ++ t).length < lenS s + 11 := by rw [List.length_append]; omega
  rw [if_neg h3, if_neg h3', List.take_append_of_le_length (by omega), List.take_append_of_le_length (by omega), recS_append t (by omega), List.drop_append_of_le_length (by omega)]
  by_cases h4 : sealC (s.take (lenS s + 7)) ≠ s.take (lenS s + 11)
  · rw [if_pos h4, if_pos h4]
  rw [if_neg h4, if_neg h4]
  by_cases h5 : (recS s).kind = 0
  · rw [if_pos h5, if_pos h5]
  rw [if_neg h5, if_neg h5]
  by_cases h6 : 2147483647 < (recS s).seq
  · rw [if_pos h6, if_pos h6]
  rw [if_neg h6, if_neg h6]
/-- A record's own bytes. -/
theorem lenS_rec (x : Rc) (h : x.pay.length ≤ 8192) : lenS (recB x) = x.pay.length := by
  have e : recB x = UInt8.ofNat x.kind :: UInt8.ofNat (x.seq / 16777216) :: UInt8.ofNat (x.seq / 65536) :: UInt8.ofNat (x.seq / 256) :: UInt8.ofNat x.seq ::
      UInt8.ofNat (x.pay.length / 256) :: UInt8.ofNat x.pay.length :: (x.pay ++ le4 (sumC (bodyR x))) := by
    unfold recB sealC
    rw [show bodyR x = UInt8.ofNat x.kind :: UInt8.ofNat (x.seq / 16777216) :: UInt8.ofNat (x.seq / 65536) :: UInt8.ofNat (x.seq / 256) :: UInt8.ofNat x.seq ::
      UInt8.ofNat (x.pay.length / 256) :: UInt8.ofNat x.pay.length :: x.pay from rfl]
    rfl
  unfold lenS
  rw [e]
  show (UInt8.ofNat (x.pay.length / 256)).toNat * 256 + (UInt8.ofNat x.pay.length).toNat = _
  rw [ofNat_toNat, ofNat_toNat]
  omega
theorem recS_rec (x : Rc) (h : OkR x) : recS (recB x) = x := by
  have hl := lenS_rec x h.p1
  have e : recB x = UInt8.ofNat x.kind :: (be4 x.seq ++ (UInt8.ofNat (x.pay.length / 256) :: UInt8.ofNat x.pay.length :: (x.pay ++ le4 (sumC (bodyR x))))) := by
    unfold recB sealC
    rw [show bodyR x = UInt8.ofNat x.kind :: (be4 x.seq ++ (UInt8.ofNat (x.pay.length / 256) :: UInt8.ofNat x.pay.length :: x.pay)) from by simp [bodyR]]
    simp
  have h0 : ((recB x)[0]?.getD 0).toNat = x.kind := by
    rw [e]
    show (UInt8.ofNat x.kind).toNat = _
    rw [ofNat_toNat]
    have := h.k1
    omega
  have h1 : beN (((recB x).drop 1).take 4) = x.seq := by
    rw [e, List.drop_succ_cons, List.drop_zero, List.take_append_of_le_length (by rw [be4_len]; omega), List.take_of_length_le (by rw [be4_len]; omega), beN_be4 (by have := h.q1; omega)]
  have h2 : ((recB x).drop 7).take x.pay.length = x.pay := by
    rw [e]
    show (x.pay ++ le4 (sumC (bodyR x))).take x.pay.length = _
    rw [List.take_append_of_le_length (by omega), List.take_of_length_le (by omega)]
  unfold recS
  rw [hl, h0, h1, h2]
theorem parse_rec (x : Rc) (h : OkR x) (t : B) : parseT (recB x ++ t) = .got x t := by
  have hl := lenS_rec x h.p1
  have hn := rec_len x
  have hp := h.p1
  have h0 : parseT (recB x) = .got x [] := by
    unfold parseT
    rw [if_neg (by omega), hl, if_neg (by omega), if_neg (by omega), recS_rec x h, if_neg, if_neg (by have := h.k0; omega), if_neg (by have := h.q1; omega), List.drop_of_length_le (by omega)]
    intro hne
    apply hne
    have e1 : (recB x).take (x.pay.length + 7) = bodyR x := by
      unfold recB sealC
      rw [List.take_append_of_le_length (by rw [body_len]; omega), List.take_of_length_le (by rw [body_len]; omega)]
    rw [e1, List.take_of_length_le (by omega)]
    rfl
  rw [parse_more t (by rw [h0]; intro h; cases h), h0]
  rfl
theorem seven : ∀ {s : B}, ¬ s.length < 7 → ∃ a0 a1 a2 a3 a4 a5 a6 t, s = a0 :: a1 :: a2 :: a3 :: a4 :: a5 :: a6 :: t
  | a0 :: a1 :: a2 :: a3 :: a4 :: a5 :: a6 :: t, _ => ⟨a0, a1, a2, a3, a4, a5, a6, t, rfl⟩
  | [], h => absurd (Nat.succ_pos 6) h
  | [_], h => absurd (by simp) h
  | [_, _], h => absurd (by simp) h
  | [_, _, _], h => absurd (by simp) h
  | [_, _, _, _], h => absurd (by simp) h
  | [_, _, _, _, _], h => absurd (by simp) h
  | [_, _, _, _, _, _], h => absurd (by simp) h
/-- What is parsed was printed. -/
theorem rec_parse {s : B} {x : Rc} {t : B} (h : parseT s = .got x t) : OkR x ∧ s = recB x ++ t := by
  unfold parseT at h
  by_cases h1 : s.length < 7
  · rw [if_pos h1] at h; cases h
  rw [if_neg h1] at h
  by_cases h2 : 8192 < lenS s
  · rw [if_pos h2] at h; cases h
  rw [if_neg h2] at h
  by_cases h3 : s.length < lenS s + 11
  · rw [if_pos h3] at h; cases h
  rw [if_neg h3] at h
  by_cases h4 : sealC (s.take (lenS s + 7)) ≠ s.take (lenS s + 11)
  · rw [if_pos h4] at h; cases h
  rw [if_neg h4] at h
  by_cases h5 : (recS s).kind = 0
  · rw [if_pos h5] at h; cases h
  rw [if_neg h5] at h
  by_cases h6 : 2147483647 < (recS s).seq
  · rw [if_pos h6] at h; cases h
  rw [if_neg h6] at h
  injection h with hx ht
  have hp : (recS s).pay.length = lenS s := by simp [recS]; omega
  have hk := (s[0]?.getD 0).toNat_lt
  refine ⟨hx ▸ ⟨by omega, ?_, by omega, by omega⟩, ?_⟩
  · show (s[0]?.getD 0).toNat ≤ 255
    omega
  have hb : s.take (lenS s + 7) = bodyR x := by
    rw [← hx]
    obtain ⟨a0, a1, a2, a3, a4, a5, a6, s, rfl⟩ := seven h1
    generalize hn : lenS (a0 :: a1 :: a2 :: a3 :: a4 :: a5 :: a6 :: s) = n at hp h3 h2 ⊢
    have hn' : a5.toNat * 256 + a6.toNat = n := hn
    have b6 := a6.toNat_lt
    have b5 := a5.toNat_lt
    have hr : recS (a0 :: a1 :: a2 :: a3 :: a4 :: a5 :: a6 :: s) = ⟨a0.toNat, beN [a1, a2, a3, a4], s.take n⟩ := by
      unfold recS
      rw [hn]
      rfl
    rw [hr] at hp ⊢
    have hp' : (s.take n).length = n := hp
    show _ = UInt8.ofNat a0.toNat :: (be4 (beN [a1, a2, a3, a4]) ++ [UInt8.ofNat ((s.take n).length / 256), UInt8.ofNat (s.take n).length] ++ s.take n)
    rw [hp', be4_beN rfl, ofNat_eq (b := a0) (x := a0.toNat) (by have := a0.toNat_lt; omega), ofNat_eq (b := a5) (x := n / 256) (by omega), ofNat_eq (b := a6) (x := n) (by omega)]
    simp only [List.take_succ_cons, List.cons_append, List.nil_append]
  have h4' : sealC (s.take (lenS s + 7)) = s.take (lenS s + 11) := Classical.byContradiction h4
  rw [← ht]
  unfold recB
  rw [← hb, h4', List.take_append_drop]
end Go.Proofs.Ytioohhekamjljaa.Wi

/- All records that bytes begin with, piece by piece or at once; no program in sight. No conditions beside those written out. -/
set_option linter.unusedSimpArgs false
set_option linter.unusedVariables false
namespace Go.Proofs.Ytioohhekamjljaa.Wi
open Go.Proofs.Ytioohhekamjljaa.Crc

theorem got_shorter {s : B} {x : Rc} {t : B} (h : parseT s = .got x t) : t.length < s.length := by
  have h1 := (rec_parse h).2
  have h2 := rec_len x
  have h3 := congrArg List.length h1
  rw [List.length_append] at h3
  omega
/-- A record of another number is an error; so is one whose number is too great. -/
def seqE (e : Nat) : Nat := if e = 1 then 18 else e
/-- The records that bytes begin with, their first number n; what waits; the error, nought if there is none. -/
def recs (n : Nat) (s : B) : List Rc × B × Nat :=
  match h : parseT s with
  | .none => ([], s, 0)
  | .err e => ([], [], seqE e)
  | .got x t => if x.seq = n then (x :: (recs (n + 1) t).1, (recs (n + 1) t).2) else ([], [], 18)
termination_by s.length
decreasing_by all_goals exact got_shorter h
theorem recs_none {n : Nat} {s : B} (h : parseT s = .none) : recs n s = ([], s, 0) := by
  rw [recs]
  split
  · rfl
  · rename_i h1; rw [h] at h1; cases h1
  · rename_i h1; rw [h] at h1; cases h1
theorem recs_err {n : Nat} {s : B} {e : Nat} (h : parseT s = .err e) : recs n s = ([], [], seqE e) := by
  rw [recs]
  split
  · rename_i h1; rw [h] at h1; cases h1
  · rename_i h1; rw [h] at h1; cases h1; rfl
  · rename_i h1; rw [h] at h1; cases h1
theorem recs_other {n : Nat} {s t : B} {x : Rc} (h : parseT s = .got x t) (hn : x.seq ≠ n) : recs n s = ([], [], 18) := by
  rw [recs]
  split
  · rename_i h1; rw [h] at h1; cases h1
  · rename_i h1; rw [h] at h1; cases h1
  · rename_i h1; rw [h] at h1; cases h1
    rw [if_neg hn]
theorem recs_got {n : Nat} {s t : B} {x : Rc} (h : parseT s = .got x t) (hn : x.seq = n) : recs n s = (x :: (recs (n + 1) t).1, (recs (n + 1) t).2) := by
  rw [recs]
  split
  · rename_i h1; rw [h] at h1; cases h1
  · rename_i h1; rw [h] at h1; cases h1
  · rename_i h1; rw [h] at h1; cases h1
    rw [if_pos hn]
theorem parse_err {s : B} {e : Nat} (h : parseT s = .err e) : e = 3 ∨ e = 8 ∨ e = 16 ∨ e = 1 := by
  unfold parseT at h
  repeat' split at h
  all_goals cases h
  all_goals decide
theorem seqE_ne {s : B} {e : Nat} (h : parseT s = .err e) : seqE e ≠ 0 := by
  have := parse_err h
  unfold seqE
  split <;> omega
/-- Rows of records as bytes. -/
def flatR (l : List Rc) : B := l.flatMap recB
/-- What was told is what stands there. -/
theorem recs_flat : ∀ (k n : Nat) (s : B), s.length ≤ k → (recs n s).2.2 = 0 → s = flatR (recs n s).1 ++ (recs n s).2.1
  | k, n, s, hk, h => by
    cases hp : parseT s with
    | none => rw [recs_none hp]; rfl
    | err e =>
      rw [recs_err hp] at h
      exact absurd h (seqE_ne hp)
    | got x t =>
      by_cases hn : x.seq = n
      · have hs := got_shorter hp
        rw [recs_got hp hn] at h ⊢
        match k, hk with
        | 0, hk => exact absurd hk (by omega)
        | k + 1, hk =>
          have ih := recs_flat k (n + 1) t (by omega) h
          have e := (rec_parse hp).2
          show s = recB x ++ flatR (recs (n + 1) t).1 ++ (recs (n + 1) t).2.1
          rw [List.append_assoc, ← ih]
          exact e
      · rw [recs_other hp hn] at h
        cases h
/-- What waits is no record. -/
theorem recs_wait : ∀ (k n : Nat) (s : B), s.length ≤ k → (recs n s).2.2 = 0 → parseT (recs n s).2.1 = .none
  | k, n, s, hk, h => by
    cases hp : parseT s with
    | none => rw [recs_none hp]; exact hp
    | err e =>
      rw [recs_err hp] at h
      exact absurd h (seqE_ne hp)
    | got x t =>
      by_cases hn : x.seq = n
      · have hs := got_shorter hp
        rw [recs_got hp hn] at h ⊢
        match k, hk with
        | 0, hk => exact absurd hk (by omega)
        | k + 1, hk => exact recs_wait k (n + 1) t (by omega) h
      · rw [recs_other hp hn] at h
        cases h
/-- Pieces. -/
theorem recs_piece : ∀ (k n : Nat) (s t : B), s.length ≤ k → (recs n s).2.2 = 0 →
    recs n (s ++ t) = ((recs n s).1 ++ (recs (n + (recs n s).1.length) ((recs n s).2.1 ++ t)).1, (recs (n + (recs n s).1.length) ((recs n s).2.1 ++ t)).2)
  | k, n, s, t, hk, h => by
    cases hp : parseT s with
    | none => rw [recs_none hp]; rfl
    | err e =>
      rw [recs_err hp] at h
      exact absurd h (seqE_ne hp)
    | got x r =>
      by_cases hn : x.seq = n
      · have hs := got_shorter hp
        have hm : parseT (s ++ t) = .got x (r ++ t) := by
          rw [parse_more t (by rw [hp]; intro h; cases h), hp]
        rw [recs_got hm hn]
        rw [recs_got hp hn] at h ⊢
        match k, hk with
        | 0, hk => exact absurd hk (by omega)
        | k + 1, hk =>
          rw [recs_piece k (n + 1) r t (by omega) h]
          simp only [List.length_cons, List.cons_append]
          rw [show n + 1 + (recs (n + 1) r).1.length = n + ((recs (n + 1) r).1.length + 1) by omega]
      · rw [recs_other hp hn] at h
        cases h
/-- An error stays. -/
theorem recs_stays : ∀ (k n : Nat) (s t : B), s.length ≤ k → (recs n s).2.2 ≠ 0 → recs n (s ++ t) = recs n s
  | k, n, s, t, hk, h => by
    cases hp : parseT s with
    | none => rw [recs_none hp] at h; exact absurd rfl h
    | err e =>
      have hm : parseT (s ++ t) = .err e := by
        rw [parse_more t (by rw [hp]; intro h; cases h), hp]
      rw [recs_err hp, recs_err hm]
    | got x r =>
      have hm : parseT (s ++ t) = .got x (r ++ t) := by
        rw [parse_more t (by rw [hp]; intro h; cases h), hp]
      by_cases hn : x.seq = n
      · have hs := got_shorter hp
        rw [recs_got hm hn]
        rw [recs_got hp hn] at h ⊢
        match k, hk with
        | 0, hk => exact absurd hk (by omega)
        | k + 1, hk => rw [recs_stays k (n + 1) r t (by omega) h]
      · rw [recs_other hp hn, recs_other hm hn]
/-- Rows of rising numbers. -/
inductive Rise : Nat → List Rc → Prop
  | nil (n : Nat) : Rise n []
  | cons {n : Nat} {x : Rc} {l : List Rc} : OkR x → x.seq = n → Rise (n + 1) l → Rise n (x :: l)
/-- What was printed is told. -/
theorem recs_enc : ∀ (n : Nat) (l : List Rc) (t : B), Rise n l → recs n (flatR l ++ t) = (l ++ (recs (n + l.length) t).1, (recs (n + l.length) t).2)
  | n, [], t, _ => rfl
  | n, x :: l, t, .cons hx hn h => by
    have hp : parseT (flatR (x :: l) ++ t) = .got x (flatR l ++ t) := by
      rw [show flatR (x :: l) = recB x ++ flatR l from rfl, List.append_assoc]
      exact parse_rec x hx _
    rw [recs_got hp hn, recs_enc (n + 1) l t h]
    simp only [List.length_cons, List.cons_append]
    rw [show n + 1 + l.length = n + (l.length + 1) by omega]
theorem recs_rise : ∀ (k n : Nat) (s : B), s.length ≤ k → Rise n (recs n s).1
  | k, n, s, hk => by
    cases hp : parseT s with
    | none => rw [recs_none hp]; exact .nil n
    | err e => rw [recs_err hp]; exact .nil n
    | got x r =>
      by_cases hn : x.seq = n
      · have hs := got_shorter hp
        rw [recs_got hp hn]
        match k, hk with
        | 0, hk => exact absurd hk (by omega)
        | k + 1, hk => exact .cons (rec_parse hp).1 hn (recs_rise k (n + 1) r (by omega))
      · rw [recs_other hp hn]; exact .nil n
theorem parse_nil : parseT [] = .none := rfl
theorem recs_nil (n : Nat) : recs n [] = ([], [], 0) := recs_none parse_nil
/-- A proper beginning of a record is none yet. -/
theorem parse_short (x : Rc) (h : OkR x) {a b : B} (e : a ++ b = recB x) (hb : b ≠ []) : parseT a = .none := by
  have hn := rec_len x
  have hl : a.length < (recB x).length := by
    rw [← e, List.length_append]
    have := List.length_pos_iff.2 hb
    omega
  cases hp : parseT a with
  | none => rfl
  | err c =>
    have h1 := parse_more b (s := a) (by rw [hp]; intro h; cases h)
    rw [hp, e] at h1
    have h2 := parse_rec x h []
    rw [List.append_nil, h1] at h2
    cases h2
  | got y r =>
    have h1 := parse_more b (s := a) (by rw [hp]; intro h; cases h)
    rw [hp, e] at h1
    have h2 := parse_rec x h []
    rw [List.append_nil, h1] at h2
    injection h2 with _ h3
    exact absurd (List.append_eq_nil_iff.1 h3).2 hb
end Go.Proofs.Ytioohhekamjljaa.Wi

/- Commands and heads of streams as plain bytes, there and back; no program in sight. No conditions beside those written out. -/
set_option linter.unusedSimpArgs false
set_option linter.unusedVariables false
namespace Go.Proofs.Ytioohhekamjljaa.Wi
open Go.Proofs.Ytioohhekamjljaa.Crc

/-- A command. -/
structure Cm where
  kind : Int
  ino : Int
  src : Int
  off : Int
  frm : Int
  n : Int
  name : B
  data : B
deriving DecidableEq
def hasI (k : Int) : Bool := decide (1 ≤ k ∧ k ≤ 10 ∧ k ≠ 5)
def hasS (k : Int) : Bool := decide (k = 4 ∨ k = 5 ∨ k = 9)
def hasO (k : Int) : Bool := decide (k = 8 ∨ k = 9)
def hasF (k : Int) : Bool := decide (k = 9)
def hasN (k : Int) : Bool := decide (k = 1 ∨ k = 2 ∨ k = 6 ∨ k = 7 ∨ k = 9)
def hasM (k : Int) : Bool := decide (k = 4 ∨ k = 5)
def hasD (k : Int) : Bool := decide (k = 3 ∨ k = 8)
def onlyC (c : Cm) : Cm :=
  ⟨c.kind, if hasI c.kind then c.ino else 0, if hasS c.kind then c.src else 0, if hasO c.kind then c.off else 0, if hasF c.kind then c.frm else 0, if hasN c.kind then c.n else 0,
    if hasM c.kind then c.name else [], if hasD c.kind then c.data else []⟩
def okN (n : Int) : Bool := decide (0 ≤ n ∧ n ≤ 2147483647)
def numsC (c : Cm) : List Int := [c.ino, c.src, c.off, c.frm, c.n]
def rightC (c : Cm) : Bool := decide (1 ≤ c.kind ∧ c.kind ≤ 10 ∧ c.name.length ≤ 16 ∧ c.data.length ≤ 4096 ∧ onlyC c = c) && (numsC c).all okN
def printC (c : Cm) : B := (numsC c).flatMap (fun n => be4 n.toNat) ++ UInt8.ofNat c.name.length :: (c.name ++ c.data)
def numAt (s : B) (i : Nat) : Int := beN ((s.drop (4 * i)).take 4)
def parseC (k : Int) (s : B) : Option Cm :=
  if s.length < 21 then none
  else
    let m := (s[20]?.getD 0).toNat
    if s.length < 21 + m then none
    else
      let c : Cm := ⟨k, numAt s 0, numAt s 1, numAt s 2, numAt s 3, numAt s 4, (s.drop 21).take m, s.drop (21 + m)⟩
      if rightC c then some c else none
structure RightC (c : Cm) : Prop where
  k0 : 1 ≤ c.kind
  k1 : c.kind ≤ 10
  nm : c.name.length ≤ 16
  dt : c.data.length ≤ 4096
  only : onlyC c = c
  nums : ∀ n ∈ numsC c, 0 ≤ n ∧ n ≤ 2147483647
theorem right_iff (c : Cm) : rightC c = true ↔ RightC c := by
  unfold rightC
  rw [Bool.and_eq_true, decide_eq_true_eq, List.all_eq_true]
  constructor
  · rintro ⟨⟨a, b, d, e, f⟩, g⟩
    exact ⟨a, b, d, e, f, fun n hn => of_decide_eq_true (g n hn)⟩
  · intro h
    exact ⟨⟨h.k0, h.k1, h.nm, h.dt, h.only⟩, fun n hn => decide_eq_true (h.nums n hn)⟩
theorem print_len (c : Cm) : (printC c).length = 21 + c.name.length + c.data.length := by simp [printC, numsC, be4]; omega
theorem parse_print {c : Cm} (h : rightC c = true) : parseC c.kind (printC c) = some c := by
  have hr := (right_iff c).1 h
  have hl := print_len c
  have e : printC c = be4 c.ino.toNat ++ (be4 c.src.toNat ++ (be4 c.off.toNat ++ (be4 c.frm.toNat ++ (be4 c.n.toNat ++ (UInt8.ofNat c.name.length :: (c.name ++ c.data)))))) := by
    simp [printC, numsC]
  have hm : ((printC c)[20]?.getD 0).toNat = c.name.length := by
    rw [e]
    show (UInt8.ofNat c.name.length).toNat = _
    rw [ofNat_toNat]
    have := hr.nm
    omega
  have hn : ∀ n ∈ numsC c, (beN (be4 n.toNat) : Int) = n := by
    intro n hn
    have := hr.nums n hn
    rw [beN_be4 (by omega)]
    omega
  have n0 : numAt (printC c) 0 = c.ino := by rw [e]; exact hn _ (by simp [numsC])
  have n1 : numAt (printC c) 1 = c.src := by rw [e]; exact hn _ (by simp [numsC])
  have n2 : numAt (printC c) 2 = c.off := by rw [e]; exact hn _ (by simp [numsC])
  have n3 : numAt (printC c) 3 = c.frm := by rw [e]; exact hn _ (by simp [numsC])
  have n4 : numAt (printC c) 4 = c.n := by rw [e]; exact hn _ (by simp [numsC])
  have d21 : (printC c).drop 21 = c.name ++ c.data := by rw [e]; rfl
  have hnm : ((printC c).drop 21).take c.name.length = c.name := by
    rw [d21, List.take_append_of_le_length (Nat.le_refl _), List.take_of_length_le (Nat.le_refl _)]
  have hdt : (printC c).drop (21 + c.name.length) = c.data := by
    rw [← List.drop_drop, d21, List.drop_append_of_le_length (Nat.le_refl _), List.drop_of_length_le (Nat.le_refl _), List.nil_append]
  unfold parseC
  rw [if_neg (by omega)]
  simp only [hm, n0, n1, n2, n3, n4, hnm, hdt]
  rw [if_neg (by omega), if_pos h]
theorem take4 {s : B} (i : Nat) (h : 4 * i + 4 ≤ s.length) : be4 (numAt s i).toNat = (s.drop (4 * i)).take 4 := by
  unfold numAt
  rw [Int.toNat_natCast, be4_beN (by simp; omega)]
theorem print_parse {k : Int} {s : B} {c : Cm} (h : parseC k s = some c) : rightC c = true ∧ c.kind = k ∧ printC c = s := by
  unfold parseC at h
  by_cases h1 : s.length < 21
  · rw [if_pos h1] at h; cases h
  rw [if_neg h1] at h
  dsimp only at h
  generalize hm : (s[20]?.getD 0).toNat = m at h
  by_cases h2 : s.length < 21 + m
  · rw [if_pos h2] at h; cases h
  rw [if_neg h2] at h
  split at h
  · rename_i hr
    injection h with h
    rw [← h]
    refine ⟨hr, rfl, ?_⟩
    have hb := (s[20]?.getD 0).toNat_lt
    have hlen : ((s.drop 21).take m).length = m := by simp; omega
    show (List.flatMap (fun n : Int => be4 n.toNat) [numAt s 0, numAt s 1, numAt s 2, numAt s 3, numAt s 4]) ++ UInt8.ofNat ((s.drop 21).take m).length :: ((s.drop 21).take m ++ s.drop (21 + m)) = s
    rw [hlen]
    simp only [List.flatMap_cons, List.flatMap_nil, List.append_nil]
    rw [take4 0 (by omega), take4 1 (by omega), take4 2 (by omega), take4 3 (by omega), take4 4 (by omega)]
    have e20 : UInt8.ofNat m :: s.drop 21 = s.drop 20 := by
      have h20 : 20 < s.length := by omega
      rw [List.drop_eq_getElem_cons h20]
      congr 1
      rw [List.getElem?_eq_getElem h20] at hm
      exact ofNat_eq (by rw [← hm]; simp)
    have e21 : (s.drop 21).take m ++ s.drop (21 + m) = s.drop 21 := by
      rw [← List.drop_drop, List.take_append_drop]
    rw [e21, e20]
    have t : ∀ i, (s.drop (4 * i)).take 4 ++ s.drop (4 * (i + 1)) = s.drop (4 * i) := by
      intro i
      rw [show 4 * (i + 1) = 4 * i + 4 by omega, ← List.drop_drop, List.take_append_drop]
    have t0 := t 0; have t1 := t 1; have t2 := t 2; have t3 := t 3; have t4 := t 4
    simp only [Nat.mul_zero, Nat.mul_one, Nat.reduceMul, Nat.reduceAdd, List.drop_zero, List.append_assoc] at t0 t1 t2 t3 t4 ⊢
    rw [t4, t3, t2, t1, t0]
  · cases h
/-- A stream's head. -/
structure Hd where
  parent : B
  child : B
  next : Int
deriving DecidableEq
def magic : B := [83, 78, 80, 49]
def okH (h : Hd) : Bool := decide (h.parent.length = 32 ∧ h.child.length = 32 ∧ 2 ≤ h.next ∧ h.next ≤ 2147483647)
def headB (h : Hd) : B := magic ++ (h.parent ++ (h.child ++ be4 h.next.toNat))
def parseH (s : B) : Option Hd :=
  if s.take 4 = magic ∧ s.length = 72 then
    let h : Hd := ⟨(s.drop 4).take 32, (s.drop 36).take 32, beN (s.drop 68)⟩
    if okH h then some h else none
  else none
theorem headB_len {h : Hd} (k : okH h = true) : (headB h).length = 72 := by
  have := of_decide_eq_true k
  simp [headB, magic, be4]
  omega
theorem parse_head {h : Hd} (k : okH h = true) : parseH (headB h) = some h := by
  have hk := of_decide_eq_true k
  obtain ⟨p, c, n⟩ := h
  dsimp only at hk
  have e4 : (headB ⟨p, c, n⟩).drop 4 = p ++ (c ++ be4 n.toNat) := rfl
  have e36 : (headB ⟨p, c, n⟩).drop 36 = c ++ be4 n.toNat := by
    rw [show 36 = 4 + 32 from rfl, ← List.drop_drop, e4, List.drop_append_of_le_length (by omega), List.drop_of_length_le (by omega), List.nil_append]
  have e68 : (headB ⟨p, c, n⟩).drop 68 = be4 n.toNat := by
    rw [show 68 = 36 + 32 from rfl, ← List.drop_drop, e36, List.drop_append_of_le_length (by omega), List.drop_of_length_le (by omega), List.nil_append]
  unfold parseH
  rw [if_pos ⟨rfl, headB_len k⟩, e4, e36, e68, List.take_append_of_le_length (by omega), List.take_of_length_le (by omega), List.take_append_of_le_length (by omega), List.take_of_length_le (by omega), beN_be4 (by omega)]
  have hn : ((n.toNat : Nat) : Int) = n := by omega
  dsimp only
  rw [hn, if_pos k]
theorem head_parse {s : B} {h : Hd} (k : parseH s = some h) : okH h = true ∧ headB h = s := by
  unfold parseH at k
  split at k
  · rename_i hs
    dsimp only at k
    split at k
    · rename_i ho
      injection k with k
      rw [← k]
      refine ⟨ho, ?_⟩
      show magic ++ ((s.drop 4).take 32 ++ ((s.drop 36).take 32 ++ be4 ((beN (s.drop 68) : Nat) : Int).toNat)) = s
      rw [Int.toNat_natCast, be4_beN (by simp; omega), show s.drop 68 = (s.drop 36).drop 32 by rw [List.drop_drop], List.take_append_drop,
        show s.drop 36 = (s.drop 4).drop 32 by rw [List.drop_drop], List.take_append_drop, ← hs.1, List.take_append_drop]
    · cases k
  · cases k
end Go.Proofs.Ytioohhekamjljaa.Wi

/- A reader of a stream, piece by piece, and all of a stream at once; no program in sight. No conditions beside those written out. -/
set_option linter.unusedSimpArgs false
set_option linter.unusedVariables false
namespace Go.Proofs.Ytioohhekamjljaa.Wi
open Go.Proofs.Ytioohhekamjljaa.Crc

/-- What a record says. -/
inductive St
  | head (h : Hd)
  | fin
  | cmd (c : Cm)
deriving DecidableEq
/-- What a record says behind these bytes, or what is wrong with it; dg: bytes' digest. -/
def stepP (dg : B → B) (ahead : B) (begun over : Bool) (x : Rc) : Except Nat St :=
  if over then .error 17
  else if (begun = decide (x.kind = 1)) ∨ (x.kind ≠ 1 ∧ x.kind ≠ 2 ∧ x.kind ≤ 10) ∨ 20 < x.kind then .error 16
  else if x.kind = 1 then
    match parseH x.pay with
    | some h => .ok (.head h)
    | none => .error 2
  else if x.kind = 2 then (if dg ahead = x.pay then .ok .fin else .error 8)
  else
    match parseC ((x.kind : Int) - 10) x.pay with
    | some c => .ok (.cmd c)
    | none => .error 2
/-- How far a reader's steps have come: how many bytes they had, has it begun, is it over, what is wrong. -/
structure Sd where
  at_ : Nat
  begun : Bool
  over : Bool
  wrong : Nat
deriving DecidableEq
def Sd.go (d : Sd) (x : Rc) (y : St) : Sd := ⟨d.at_ + (11 + x.pay.length), d.begun || decide (x.kind = 1), decide (y = .fin), 0⟩
/-- Steps of records, one behind the other, till one is wrong. -/
def stepsP (dg : B → B) (all : B) : Sd → List Rc → List St × Sd
  | d, [] => ([], d)
  | d, x :: l =>
    match stepP dg (all.take d.at_) d.begun d.over x with
    | .error e => ([], { d with wrong := e })
    | .ok y => (y :: (stepsP dg all (d.go x y) l).1, (stepsP dg all (d.go x y) l).2)
theorem stepP_err {dg : B → B} {a : B} {b o : Bool} {x : Rc} {e : Nat} (h : stepP dg a b o x = .error e) : e ≠ 0 := by
  unfold stepP at h
  repeat' split at h
  all_goals first
    | cases h
    | skip
  all_goals decide
theorem steps_err {dg : B → B} {all : B} {d : Sd} {x : Rc} {e : Nat} (h : stepP dg (all.take d.at_) d.begun d.over x = .error e) (l : List Rc) :
    stepsP dg all d (x :: l) = ([], { d with wrong := e }) := by
  rw [stepsP, h]
theorem steps_ok {dg : B → B} {all : B} {d : Sd} {x : Rc} {y : St} (h : stepP dg (all.take d.at_) d.begun d.over x = .ok y) (l : List Rc) :
    stepsP dg all d (x :: l) = (y :: (stepsP dg all (d.go x y) l).1, (stepsP dg all (d.go x y) l).2) := by
  rw [stepsP, h]
/-- Bytes behind those of the records change nothing. -/
theorem steps_more (dg : B → B) (all t : B) : ∀ (l : List Rc) (d : Sd), d.at_ + (flatR l).length ≤ all.length → stepsP dg (all ++ t) d l = stepsP dg all d l
  | [], d, _ => rfl
  | x :: l, d, h => by
    have hx : (flatR (x :: l)).length = (11 + x.pay.length) + (flatR l).length := by
      rw [show flatR (x :: l) = recB x ++ flatR l from rfl, List.length_append, rec_len]
    unfold stepsP
    rw [List.take_append_of_le_length (by omega)]
    cases hs : stepP dg (all.take d.at_) d.begun d.over x with
    | error e => rfl
    | ok y =>
      have ih := steps_more dg all t l (d.go x y) (by show d.at_ + (11 + x.pay.length) + _ ≤ _; omega)
      simp only [ih]
theorem steps_append (dg : B → B) (all : B) : ∀ (l m : List Rc) (d : Sd), (stepsP dg all d l).2.wrong = 0 →
    stepsP dg all d (l ++ m) = ((stepsP dg all d l).1 ++ (stepsP dg all (stepsP dg all d l).2 m).1, (stepsP dg all (stepsP dg all d l).2 m).2)
  | [], m, d, _ => rfl
  | x :: l, m, d, h => by
    rw [List.cons_append]
    cases hs : stepP dg (all.take d.at_) d.begun d.over x with
    | error e =>
      rw [steps_err hs] at h
      exact absurd h (stepP_err hs)
    | ok y =>
      rw [steps_ok hs] at h ⊢
      rw [steps_ok hs, steps_append dg all l m (d.go x y) h]
      rfl
theorem steps_stays (dg : B → B) (all : B) : ∀ (l m : List Rc) (d : Sd), d.wrong = 0 → (stepsP dg all d l).2.wrong ≠ 0 → stepsP dg all d (l ++ m) = stepsP dg all d l
  | [], m, d, h0, h => absurd h0 h
  | x :: l, m, d, h0, h => by
    rw [List.cons_append]
    unfold stepsP at h ⊢
    cases hs : stepP dg (all.take d.at_) d.begun d.over x with
    | error e => rfl
    | ok y =>
      rw [hs] at h
      have ih := steps_stays dg all l m (d.go x y) rfl h
      simp only [ih]
/-- How many bytes steps had. -/
theorem steps_at (dg : B → B) (all : B) : ∀ (l : List Rc) (d : Sd), (stepsP dg all d l).2.wrong = 0 → (stepsP dg all d l).2.at_ = d.at_ + (flatR l).length
  | [], d, _ => rfl
  | x :: l, d, h => by
    have hx : (flatR (x :: l)).length = (11 + x.pay.length) + (flatR l).length := by
      rw [show flatR (x :: l) = recB x ++ flatR l from rfl, List.length_append, rec_len]
    unfold stepsP at h ⊢
    cases hs : stepP dg (all.take d.at_) d.begun d.over x with
    | error e =>
      rw [hs] at h
      exact absurd h (stepP_err hs)
    | ok y =>
      rw [hs] at h
      have ih := steps_at dg all l (d.go x y) h
      show (stepsP dg all (d.go x y) l).2.at_ = _
      rw [ih, hx]
      show d.at_ + (11 + x.pay.length) + _ = _
      omega
def Sd0 : Sd := ⟨0, false, false, 0⟩
/-- Of bytes: the steps, how far they have come, the error. -/
def stepsT (dg : B → B) (s : B) : List St × Sd × Nat :=
  let r := recs 0 s
  let p := stepsP dg s Sd0 r.1
  (p.1, p.2, if p.2.wrong ≠ 0 then p.2.wrong else if p.2.over ∧ p.2.at_ < s.length then 17 else r.2.2)
/-- A reader: what was fed, what waits, the next number, how far its steps have come, the error. -/
structure Rd where
  all : B
  wait : B
  next : Nat
  d : Sd
  err : Nat
def Rd0 : Rd := ⟨[], [], 0, Sd0, 0⟩
def feedP (dg : B → B) (R : Rd) (s : B) : Rd × List St × Nat :=
  if R.err ≠ 0 then (R, [], R.err)
  else if 65536 < R.all.length + s.length then ({ R with err := 3 }, [], 3)
  else if R.d.over ∧ s ≠ [] then ({ R with err := 17 }, [], 17)
  else
    let r := recs R.next (R.wait ++ s)
    let p := stepsP dg (R.all ++ s) R.d r.1
    let e := if p.2.wrong ≠ 0 then p.2.wrong else if p.2.over ∧ p.2.at_ < (R.all ++ s).length then 17 else r.2.2
    (⟨R.all ++ s, r.2.1, R.next + r.1.length, p.2, e⟩, p.1, e)
/-- A reader that was fed bytes, all of them right so far. -/
structure FedR (dg : B → B) (R : Rd) : Prop where
  none : R.err = 0
  recs : (Wi.recs 0 R.all).2.2 = 0
  wait : R.wait = (Wi.recs 0 R.all).2.1
  next : R.next = (Wi.recs 0 R.all).1.length
  d : R.d = (stepsP dg R.all Sd0 (Wi.recs 0 R.all).1).2
  wrong : R.d.wrong = 0
  over : ¬ (R.d.over ∧ R.d.at_ < R.all.length)
theorem fed_new (dg : B → B) : FedR dg Rd0 := by
  have h := recs_nil 0
  exact ⟨rfl, by rw [show Rd0.all = [] from rfl, h], by rw [show Rd0.all = [] from rfl, h]; rfl, by rw [show Rd0.all = [] from rfl, h]; rfl, by rw [show Rd0.all = [] from rfl, h]; rfl, rfl, by intro hh; cases hh.1⟩
theorem steps_over (dg : B → B) (all : B) (d : Sd) (l : List Rc) (h : d.over = true) : stepsP dg all d l = ([], d) ∧ l = [] ∨ stepsP dg all d l = ([], { d with wrong := 17 }) := by
  cases l with
  | nil => exact .inl ⟨rfl, rfl⟩
  | cons x l => exact .inr (steps_err (by unfold stepP; rw [if_pos h]) l)
/-- A piece more: what a reader tells is what the bytes tell, but for what they told before. -/
theorem feed_fed {dg : B → B} {R : Rd} (F : FedR dg R) (s : B) (hl : R.all.length + s.length ≤ 65536) :
    (feedP dg R s).1.all = (if R.d.over ∧ s ≠ [] then R.all else R.all ++ s) ∧
    (feedP dg R s).2.2 = (stepsT dg (R.all ++ s)).2.2 ∧
    (stepsT dg (R.all ++ s)).1 = (stepsT dg R.all).1 ++ (feedP dg R s).2.1 ∧
    (feedP dg R s).1.err = (feedP dg R s).2.2 ∧
    ((feedP dg R s).2.2 = 0 → FedR dg (feedP dg R s).1) := by
  have hw : (stepsP dg R.all Sd0 (recs 0 R.all).1).2.wrong = 0 := by rw [← F.d]; exact F.wrong
  have hf := recs_flat _ 0 R.all (Nat.le_refl _) F.recs
  have hle : (flatR (recs 0 R.all).1).length ≤ R.all.length := by
    have := congrArg List.length hf
    rw [List.length_append] at this
    omega
  have hm := steps_more dg R.all s (recs 0 R.all).1 Sd0 (by show 0 + _ ≤ _; omega)
  have hp := recs_piece _ 0 R.all s (Nat.le_refl _) F.recs
  rw [← F.wait, Nat.zero_add, ← F.next] at hp
  have ha := steps_append dg (R.all ++ s) (recs 0 R.all).1 (recs R.next (R.wait ++ s)).1 Sd0 (by rw [hm]; exact hw)
  rw [hm, ← F.d] at ha
  have hT : stepsT dg (R.all ++ s) = ((stepsT dg R.all).1 ++ (stepsP dg (R.all ++ s) R.d (recs R.next (R.wait ++ s)).1).1,
      (stepsP dg (R.all ++ s) R.d (recs R.next (R.wait ++ s)).1).2,
      if (stepsP dg (R.all ++ s) R.d (recs R.next (R.wait ++ s)).1).2.wrong ≠ 0 then (stepsP dg (R.all ++ s) R.d (recs R.next (R.wait ++ s)).1).2.wrong
      else if (stepsP dg (R.all ++ s) R.d (recs R.next (R.wait ++ s)).1).2.over ∧ (stepsP dg (R.all ++ s) R.d (recs R.next (R.wait ++ s)).1).2.at_ < (R.all ++ s).length then 17
      else (recs R.next (R.wait ++ s)).2.2) := by
    unfold stepsT
    dsimp only
    rw [hp]
    dsimp only
    rw [ha]
  have hat : R.d.at_ ≤ R.all.length := by
    rw [F.d, steps_at dg R.all _ Sd0 hw]
    show 0 + _ ≤ _
    omega
  unfold feedP
  rw [if_neg (by rw [F.none]; exact fun h => h rfl), if_neg (by omega), hT]
  by_cases ho : R.d.over = true ∧ s ≠ []
  · rw [if_pos ho, if_pos ho]
    have hs : 0 < s.length := List.length_pos_iff.2 ho.2
    rcases steps_over dg (R.all ++ s) R.d (recs R.next (R.wait ++ s)).1 ho.1 with ⟨h1, _⟩ | h1
    · rw [h1]
      refine ⟨rfl, ?_, rfl, rfl, fun h => nomatch (show (17 : Nat) = 0 from h)⟩
      dsimp only
      rw [if_neg (by rw [F.wrong]; exact fun h => h rfl), if_pos ⟨ho.1, by rw [List.length_append]; omega⟩]
    · rw [h1]
      exact ⟨rfl, rfl, rfl, rfl, fun h => nomatch (show (17 : Nat) = 0 from h)⟩
  · rw [if_neg ho, if_neg ho]
    refine ⟨rfl, rfl, rfl, rfl, ?_⟩
    intro h0
    dsimp only at h0
    by_cases hw' : (stepsP dg (R.all ++ s) R.d (recs R.next (R.wait ++ s)).1).2.wrong ≠ 0
    · rw [if_pos hw'] at h0
      exact absurd h0 hw'
    rw [if_neg hw'] at h0
    by_cases ho' : (stepsP dg (R.all ++ s) R.d (recs R.next (R.wait ++ s)).1).2.over = true ∧ (stepsP dg (R.all ++ s) R.d (recs R.next (R.wait ++ s)).1).2.at_ < (R.all ++ s).length
    · rw [if_pos ho'] at h0
      cases h0
    rw [if_neg ho'] at h0
    have hw0 := Classical.not_not.1 hw'
    refine ⟨?_, ?_, ?_, ?_, ?_, hw0, ho'⟩
    · show (if _ then _ else _) = 0
      rw [if_neg hw', if_neg ho', h0]
    · show (recs 0 (R.all ++ s)).2.2 = 0
      rw [hp, h0]
    · show _ = (recs 0 (R.all ++ s)).2.1
      rw [hp]
    · show R.next + (recs R.next (R.wait ++ s)).1.length = (recs 0 (R.all ++ s)).1.length
      rw [hp]
      show _ = ((recs 0 R.all).1 ++ _).length
      rw [List.length_append, ← F.next]
    · show _ = (stepsP dg (R.all ++ s) Sd0 (recs 0 (R.all ++ s)).1).2
      rw [hp, ha]
end Go.Proofs.Ytioohhekamjljaa.Wi

/- Streams as plain bytes: what was encoded is told, no proper beginning is a stream, turned bytes are told; no program in sight. No conditions beside those written out. -/
set_option linter.unusedSimpArgs false
set_option linter.unusedVariables false
namespace Go.Proofs.Ytioohhekamjljaa.Wi
open Go.Proofs.Ytioohhekamjljaa.Crc

def headR (h : Hd) : Rc := ⟨1, 0, headB h⟩
def cmdR (i : Nat) (c : Cm) : Rc := ⟨(c.kind + 10).toNat, i, printC c⟩
def rowsC : Nat → List Cm → List Rc
  | _, [] => []
  | i, c :: l => cmdR i c :: rowsC (i + 1) l
theorem rowsC_len : ∀ (i : Nat) (l : List Cm), (rowsC i l).length = l.length
  | _, [] => rfl
  | i, _ :: l => by rw [rowsC, List.length_cons, rowsC_len (i + 1) l, List.length_cons]
/-- A stream but its last record. -/
def foreP (h : Hd) (l : List Cm) : B := flatR (headR h :: rowsC 1 l)
def lastR (dg : B → B) (h : Hd) (l : List Cm) : Rc := ⟨2, l.length + 1, dg (foreP h l)⟩
def allR (dg : B → B) (h : Hd) (l : List Cm) : List Rc := headR h :: (rowsC 1 l ++ [lastR dg h l])
def streamP (dg : B → B) (h : Hd) (l : List Cm) : B := flatR (allR dg h l)
theorem flat_append (a b : List Rc) : flatR (a ++ b) = flatR a ++ flatR b := by simp [flatR]
theorem streamP_eq (dg : B → B) (h : Hd) (l : List Cm) : streamP dg h l = foreP h l ++ recB (lastR dg h l) := by
  unfold streamP allR foreP
  rw [← List.cons_append, flat_append]
  simp [flatR]
structure OkS (dg : B → B) (h : Hd) (l : List Cm) : Prop where
  head : okH h = true
  cmds : ∀ c ∈ l, rightC c = true
  few : l.length + 1 ≤ 2147483647
  dig : (dg (foreP h l)).length ≤ 8192
theorem headR_ok {h : Hd} (k : okH h = true) : OkR (headR h) := ⟨Nat.le_refl 1, (by decide : 1 ≤ 255), (by decide : 0 ≤ 2147483647), by show (headB h).length ≤ _; rw [headB_len k]; decide⟩
theorem cmdR_kind {c : Cm} (k : rightC c = true) (i : Nat) : ((cmdR i c).kind : Int) - 10 = c.kind ∧ 11 ≤ (cmdR i c).kind ∧ (cmdR i c).kind ≤ 20 := by
  have r := (right_iff c).1 k
  have := r.k0
  have := r.k1
  show (((c.kind + 10).toNat : Nat) : Int) - 10 = c.kind ∧ 11 ≤ (c.kind + 10).toNat ∧ (c.kind + 10).toNat ≤ 20
  omega
theorem cmdR_ok {c : Cm} (k : rightC c = true) {i : Nat} (hi : i ≤ 2147483647) : OkR (cmdR i c) := by
  have r := (right_iff c).1 k
  have hk := cmdR_kind k i
  refine ⟨by omega, by omega, hi, ?_⟩
  show (printC c).length ≤ _
  rw [print_len]
  have := r.nm
  have := r.dt
  omega
theorem rows_rise : ∀ (l : List Cm) (i : Nat) (m : List Rc), (∀ c ∈ l, rightC c = true) → i + l.length ≤ 2147483647 → Rise (i + l.length) m → Rise i (rowsC i l ++ m)
  | [], i, m, _, _, h => h
  | c :: l, i, m, hc, hi, h => by
    rw [List.length_cons] at hi h
    refine .cons (cmdR_ok (hc c (List.mem_cons_self ..)) (by omega)) rfl ?_
    exact rows_rise l (i + 1) m (fun d hd => hc d (List.mem_cons_of_mem _ hd)) (by omega) (by rw [show i + 1 + l.length = i + (l.length + 1) by omega]; exact h)
theorem lastR_ok {dg : B → B} {h : Hd} {l : List Cm} (k : OkS dg h l) : OkR (lastR dg h l) := ⟨(by decide : 1 ≤ 2), (by decide : 2 ≤ 255), k.few, k.dig⟩
theorem all_rise {dg : B → B} {h : Hd} {l : List Cm} (k : OkS dg h l) : Rise 0 (allR dg h l) := by
  refine .cons (headR_ok k.head) rfl ?_
  exact rows_rise l 1 _ k.cmds (by have := k.few; omega) (.cons (lastR_ok k) (Nat.add_comm ..) (.nil _))
theorem all_len (dg : B → B) (h : Hd) (l : List Cm) : (allR dg h l).length = l.length + 2 := by simp [allR, rowsC_len]
theorem recs_stream {dg : B → B} {h : Hd} {l : List Cm} (k : OkS dg h l) (t : B) :
    recs 0 (streamP dg h l ++ t) = (allR dg h l ++ (recs (l.length + 2) t).1, (recs (l.length + 2) t).2) := by
  have := recs_enc 0 (allR dg h l) t (all_rise k)
  rw [all_len, Nat.zero_add] at this
  exact this
/-- What a record of a command says. -/
theorem step_cmd (dg : B → B) (a : B) {c : Cm} (k : rightC c = true) (i : Nat) : stepP dg a true false (cmdR i c) = .ok (.cmd c) := by
  have hk := cmdR_kind k i
  unfold stepP
  rw [if_neg (by decide), if_neg, if_neg (by omega), if_neg (by omega), hk.1, show (cmdR i c).pay = printC c from rfl, parse_print k]
  have : decide ((cmdR i c).kind = 1) = false := decide_eq_false (by omega)
  rw [this]
  intro h
  rcases h with h | h | h
  · cases h
  · omega
  · omega
theorem step_head (dg : B → B) (a : B) {h : Hd} (k : okH h = true) : stepP dg a false false (headR h) = .ok (.head h) := by
  have hk : (headR h).kind = 1 := rfl
  have hp : (headR h).pay = headB h := rfl
  unfold stepP
  rw [hk, hp, if_neg (by decide), if_neg (by decide), if_pos rfl, parse_head k]
theorem step_last (dg : B → B) {h : Hd} {l : List Cm} : stepP dg (foreP h l) true false (lastR dg h l) = .ok .fin := by
  have hk : (lastR dg h l).kind = 2 := rfl
  have hp : (lastR dg h l).pay = dg (foreP h l) := rfl
  unfold stepP
  rw [hk, hp, if_neg (by decide), if_neg (by decide), if_neg (by decide), if_pos rfl, if_pos rfl]
theorem steps_cmds (dg : B → B) (all : B) (m : List Rc) : ∀ (l : List Cm) (i n : Nat), (∀ c ∈ l, rightC c = true) →
    stepsP dg all ⟨n, true, false, 0⟩ (rowsC i l ++ m) =
      (l.map St.cmd ++ (stepsP dg all ⟨n + (flatR (rowsC i l)).length, true, false, 0⟩ m).1, (stepsP dg all ⟨n + (flatR (rowsC i l)).length, true, false, 0⟩ m).2)
  | [], i, n, _ => rfl
  | c :: l, i, n, hc => by
    have hs := step_cmd dg (all.take n) (hc c (List.mem_cons_self ..)) i
    have hg : (Sd.go ⟨n, true, false, 0⟩ (cmdR i c) (.cmd c)) = ⟨n + (11 + (printC c).length), true, false, 0⟩ := rfl
    have hx : (flatR (cmdR i c :: rowsC (i + 1) l)).length = (11 + (printC c).length) + (flatR (rowsC (i + 1) l)).length := by
      rw [show flatR (cmdR i c :: rowsC (i + 1) l) = recB (cmdR i c) ++ flatR (rowsC (i + 1) l) from rfl, List.length_append, rec_len]
      rfl
    show stepsP dg all ⟨n, true, false, 0⟩ (cmdR i c :: (rowsC (i + 1) l ++ m)) = _
    rw [steps_ok hs, hg, steps_cmds dg all m l (i + 1) _ (fun d hd => hc d (List.mem_cons_of_mem _ hd))]
    rw [show rowsC i (c :: l) = cmdR i c :: rowsC (i + 1) l from rfl, hx, Nat.add_assoc]
    rfl
/-- All that a stream tells, with anything behind it. -/
theorem steps_stream {dg : B → B} {h : Hd} {l : List Cm} (k : OkS dg h l) (t : B) (m : List Rc) :
    stepsP dg (streamP dg h l ++ t) Sd0 (allR dg h l ++ m) =
      (.head h :: (l.map St.cmd ++ (.fin :: (stepsP dg (streamP dg h l ++ t) ⟨(streamP dg h l).length, true, true, 0⟩ m).1)),
        (stepsP dg (streamP dg h l ++ t) ⟨(streamP dg h l).length, true, true, 0⟩ m).2) := by
  have h0 := step_head dg ((streamP dg h l ++ t).take Sd0.at_) k.head
  have hg : Sd.go Sd0 (headR h) (.head h) = ⟨0 + (11 + (headB h).length), true, false, 0⟩ := rfl
  have hf : (foreP h l).length = 0 + (11 + (headB h).length) + (flatR (rowsC 1 l)).length := by
    unfold foreP
    rw [show flatR (headR h :: rowsC 1 l) = recB (headR h) ++ flatR (rowsC 1 l) from rfl, List.length_append, rec_len, Nat.zero_add]
    rfl
  have ht : (streamP dg h l ++ t).take (foreP h l).length = foreP h l := by
    rw [streamP_eq, List.append_assoc, List.take_append_of_le_length (Nat.le_refl _), List.take_of_length_le (Nat.le_refl _)]
  have h1 : stepP dg ((streamP dg h l ++ t).take (foreP h l).length) true false (lastR dg h l) = .ok .fin := by
    rw [ht]
    exact step_last dg
  have hl : (streamP dg h l).length = (foreP h l).length + (11 + (lastR dg h l).pay.length) := by
    rw [streamP_eq, List.length_append, rec_len]
  show stepsP dg _ Sd0 (headR h :: ((rowsC 1 l ++ [lastR dg h l]) ++ m)) = _
  rw [steps_ok h0, hg, List.append_assoc, steps_cmds dg _ _ l 1 _ k.cmds, ← hf, List.singleton_append, steps_ok (d := ⟨(foreP h l).length, true, false, 0⟩) h1]
  rw [show Sd.go ⟨(foreP h l).length, true, false, 0⟩ (lastR dg h l) .fin = ⟨(streamP dg h l).length, true, true, 0⟩ by rw [hl]; rfl]
/-- What was encoded is told. -/
theorem tells_stream {dg : B → B} {h : Hd} {l : List Cm} (k : OkS dg h l) :
    stepsT dg (streamP dg h l) = (.head h :: (l.map St.cmd ++ [.fin]), ⟨(streamP dg h l).length, true, true, 0⟩, 0) := by
  have h1 := recs_stream k []
  rw [List.append_nil, recs_nil] at h1
  have h2 := steps_stream k [] []
  rw [List.append_nil] at h2
  unfold stepsT
  dsimp only
  rw [h1]
  dsimp only
  rw [h2]
  refine Prod.ext rfl (Prod.ext rfl ?_)
  show (if (0 : Nat) ≠ 0 then 0 else if true = true ∧ (streamP dg h l).length < (streamP dg h l).length then 17 else 0) = 0
  rw [if_neg (by decide), if_neg (fun h => Nat.lt_irrefl _ h.2)]
/-- With anything behind it is none. -/
theorem tells_behind {dg : B → B} {h : Hd} {l : List Cm} (k : OkS dg h l) {t : B} (ht : t ≠ []) : (stepsT dg (streamP dg h l ++ t)).2.2 = 17 := by
  have hp : 0 < t.length := List.length_pos_iff.2 ht
  have h1 := recs_stream k t
  have h2 := steps_stream k t (recs (l.length + 2) t).1
  unfold stepsT
  dsimp only
  rw [h1]
  dsimp only
  rw [h2]
  rcases steps_over dg (streamP dg h l ++ t) ⟨(streamP dg h l).length, true, true, 0⟩ (recs (l.length + 2) t).1 rfl with ⟨h3, _⟩ | h3
  · rw [h3]
    dsimp only
    rw [if_neg (by decide), if_pos ⟨rfl, by rw [List.length_append]; omega⟩]
  · rw [h3]
    rfl
/-- A proper beginning of rows: some of them, and a beginning of the next. -/
theorem recs_cut : ∀ (l : List Rc) (n : Nat) (a b : B), Rise n l → a ++ b = flatR l → b ≠ [] → ∃ l1 l2 w, l = l1 ++ l2 ∧ l2 ≠ [] ∧ recs n a = (l1, w, 0) ∧ a = flatR l1 ++ w
  | [], _, a, b, _, e, hb => absurd (List.append_eq_nil_iff.1 e).2 hb
  | x :: l, n, a, b, .cons hx hn hr, e, hb => by
    have e' : a ++ b = recB x ++ flatR l := e
    rcases List.append_eq_append_iff.1 e' with ⟨c, h1, h2⟩ | ⟨c, h1, h2⟩
    · by_cases hc : c = []
      · subst hc
        rw [List.append_nil] at h1
        rw [List.nil_append] at h2
        have hp : parseT a = .got x [] := by
          rw [← h1, ← List.append_nil (recB x)]
          exact parse_rec x hx []
        refine ⟨[x], l, [], rfl, ?_, ?_, ?_⟩
        · intro hl
          subst hl
          exact hb h2
        · rw [recs_got hp hn, recs_nil]
        · rw [← h1]
          simp [flatR]
      · exact ⟨[], x :: l, a, rfl, List.cons_ne_nil _ _, recs_none (parse_short x hx h1.symm hc), rfl⟩
    · obtain ⟨l1, l2, w, g1, g2, g3, g4⟩ := recs_cut l (n + 1) c b hr h2.symm hb
      have hp : parseT a = .got x c := by
        rw [h1]
        exact parse_rec x hx c
      refine ⟨x :: l1, l2, w, by rw [g1]; rfl, g2, ?_, ?_⟩
      · rw [recs_got hp hn, g3]
      · rw [h1, g4, ← List.append_assoc]
        rfl
/-- What a proper beginning of a stream tells: a beginning of its steps, right so far, and not to the end; so do its whole records alone. -/
theorem tells_cut {dg : B → B} {h : Hd} {l : List Cm} (k : OkS dg h l) {a b : B} (e : a ++ b = streamP dg h l) (hb : b ≠ []) :
    ∃ out d, stepsT dg a = (out, d, 0) ∧ d.wrong = 0 ∧ d.over = false ∧ d.at_ ≤ a.length ∧ stepsT dg (a.take d.at_) = (out, d, 0) ∧ (∃ out2, out ++ out2 = .head h :: (l.map St.cmd ++ [.fin])) := by
  obtain ⟨l1, l2, w, g1, g2, g3, g4⟩ := recs_cut _ 0 a b (all_rise k) e hb
  have hs := steps_stream k [] []
  rw [List.append_nil, List.append_nil, g1] at hs
  have hw1 : (stepsP dg (streamP dg h l) Sd0 l1).2.wrong = 0 := by
    apply Classical.byContradiction
    intro hne
    have := steps_stays dg (streamP dg h l) l1 l2 Sd0 rfl hne
    rw [hs] at this
    rw [← this] at hne
    exact hne rfl
  have ha := steps_append dg (streamP dg h l) l1 l2 Sd0 hw1
  rw [hs] at ha
  have hle : (flatR l1).length ≤ a.length := by
    rw [g4, List.length_append]
    omega
  have hm : stepsP dg (streamP dg h l) Sd0 l1 = stepsP dg a Sd0 l1 := by
    rw [← e]
    exact steps_more dg a b l1 Sd0 (by show 0 + _ ≤ _; omega)
  rw [hm] at hw1 ha
  have hat := steps_at dg a l1 Sd0 hw1
  have hat' : (stepsP dg a Sd0 l1).2.at_ = (flatR l1).length := by rw [hat]; exact Nat.zero_add _
  have hov : (stepsP dg a Sd0 l1).2.over = false := by
    cases ho : (stepsP dg a Sd0 l1).2.over with
    | false => rfl
    | true =>
      rcases steps_over dg (streamP dg h l) (stepsP dg a Sd0 l1).2 l2 ho with ⟨_, h3⟩ | h3
      · exact absurd h3 g2
      · rw [h3] at ha
        have := congrArg (fun z => z.2.wrong) ha
        cases this
  have hT : stepsT dg a = ((stepsP dg a Sd0 l1).1, (stepsP dg a Sd0 l1).2, 0) := by
    unfold stepsT
    dsimp only
    rw [g3]
    dsimp only
    rw [if_neg (by rw [hw1]; exact fun h => h rfl), if_neg (by rw [hov]; intro h; cases h.1)]
  have htk : a.take (stepsP dg a Sd0 l1).2.at_ = flatR l1 := by
    rw [hat', g4, List.take_append_of_le_length (Nat.le_refl _), List.take_of_length_le (Nat.le_refl _)]
  have hr1 : recs 0 (flatR l1) = (l1, [], 0) := by
    have hr : Rise 0 l1 := by
      have := recs_rise _ 0 a (Nat.le_refl _)
      rw [g3] at this
      exact this
    have := recs_enc 0 l1 [] hr
    rw [List.append_nil, recs_nil, List.append_nil] at this
    exact this
  have hm2 : stepsP dg a Sd0 l1 = stepsP dg (flatR l1) Sd0 l1 := by
    rw [g4]
    exact steps_more dg (flatR l1) w l1 Sd0 (by show 0 + _ ≤ _; omega)
  refine ⟨_, _, hT, hw1, hov, by rw [hat']; exact hle, ?_, ?_⟩
  · rw [htk]
    unfold stepsT
    dsimp only
    rw [hr1]
    dsimp only
    rw [← hm2, if_neg (by rw [hw1]; exact fun h => h rfl), if_neg (by rw [hov]; intro h; cases h.1)]
  · exact ⟨_, (congrArg Prod.fst ha).symm⟩
end Go.Proofs.Ytioohhekamjljaa.Wi

/- A stream of which bytes of one record were turned is told to be wrong; no program in sight. No conditions beside those written out. -/
set_option linter.unusedSimpArgs false
set_option linter.unusedVariables false
namespace Go.Proofs.Ytioohhekamjljaa.Wi
open Go.Proofs.Ytioohhekamjljaa.Crc

theorem xorL_len (a e : B) (h : a.length = e.length) : (xorL a e).length = a.length := by simp [xorL]; omega
theorem xorL_get (a e : B) (h : a.length = e.length) (i : Nat) (he : e[i]? = some 0 ∨ e.length ≤ i) : (xorL a e)[i]? = a[i]? := by
  unfold xorL
  rw [List.getElem?_zipWith]
  rcases he with he | he
  · rw [he]
    cases ha : a[i]? with
    | none => rfl
    | some x => simp
  · rw [List.getElem?_eq_none he, List.getElem?_eq_none (by omega)]
theorem parse_turned {x : Rc} (hx : OkR x) {e : B} (he : e.length = (recB x).length) (h5 : e[5]? = some 0) (h6 : e[6]? = some 0)
    {p r : Nat} {d : B} (hs : e = List.replicate p 0 ++ d ++ List.replicate r 0) (hd : d.length ≤ 4) (hne : ∃ b ∈ d, b ≠ 0) (t : B) :
    parseT (xorL (recB x) e ++ t) = .err 8 := by
  have hn := rec_len x
  have hp := hx.p1
  have hl := xorL_len (recB x) e he.symm
  have h0 : parseT (xorL (recB x) e) = .err 8 := by
    have hls : lenS (xorL (recB x) e) = x.pay.length := by
      rw [← lenS_rec x hp]
      unfold lenS
      rw [xorL_get _ _ he.symm 5 (.inl h5), xorL_get _ _ he.symm 6 (.inl h6)]
    unfold parseT
    rw [if_neg (by omega), hls, if_neg (by omega), if_neg (by omega), if_pos]
    intro h
    have hb := body_len x
    rw [List.take_of_length_le (i := x.pay.length + 11) (by omega)] at h
    have ht := turned_told (bodyR x) e (le4 (sumC (bodyR x))) rfl (by rw [he, hn, hb]; omega) rfl hs hd hne
      ((xorL (recB x) e).take (x.pay.length + 7)) (le4 (sumC ((xorL (recB x) e).take (x.pay.length + 7)))) (by rw [List.length_take, hl, hn, hb]; omega) h
    exact ht rfl
  rw [parse_more t (by rw [h0]; intro h; cases h), h0]
/-- The stream's other records stand as they are. -/
theorem tells_turned {dg : B → B} {h : Hd} {l : List Cm} (k : OkS dg h l) {l1 l2 : List Rc} {x : Rc} (hl : allR dg h l = l1 ++ x :: l2)
    {e : B} (he : e.length = (recB x).length) (h5 : e[5]? = some 0) (h6 : e[6]? = some 0)
    {p r : Nat} {d : B} (hs : e = List.replicate p 0 ++ d ++ List.replicate r 0) (hd : d.length ≤ 4) (hne : ∃ b ∈ d, b ≠ 0) :
    (stepsT dg (flatR l1 ++ (xorL (recB x) e ++ flatR l2))).2.2 = 8 := by
  have hr := all_rise k
  rw [hl] at hr
  have hr1 : ∀ (l1 : List Rc) (n : Nat), Rise n (l1 ++ x :: l2) → Rise n l1 ∧ OkR x := by
    intro l1
    induction l1 with
    | nil =>
      intro n h
      cases h with
      | cons hx _ _ => exact ⟨.nil n, hx⟩
    | cons y l1 ih =>
      intro n h
      cases h with
      | cons hy hn h => exact ⟨.cons hy hn (ih _ h).1, (ih _ h).2⟩
  obtain ⟨hr1, hx⟩ := hr1 l1 0 hr
  have hp := parse_turned hx he h5 h6 hs hd hne (flatR l2)
  have h1 := recs_enc 0 l1 (xorL (recB x) e ++ flatR l2) hr1
  rw [recs_err hp, List.append_nil] at h1
  have hf : flatR l1 ++ (recB x ++ flatR l2) = streamP dg h l := by
    unfold streamP
    rw [hl, flat_append]
    rfl
  have hb : recB x ++ flatR l2 ≠ [] := by
    intro h
    have := congrArg List.length h
    rw [List.length_append, rec_len] at this
    simp at this
  obtain ⟨out, g, c1, c2, c3, _, _, _⟩ := tells_cut k hf hb
  have h2 := recs_enc 0 l1 [] hr1
  rw [List.append_nil, recs_nil, List.append_nil] at h2
  have h3 : stepsP dg (flatR l1) Sd0 l1 = (out, g) := by
    unfold stepsT at c1
    dsimp only at c1
    rw [h2] at c1
    exact Prod.ext (show (stepsP dg (flatR l1) Sd0 l1).1 = out from congrArg (fun z => z.1) c1) (show (stepsP dg (flatR l1) Sd0 l1).2 = g from congrArg (fun z => z.2.1) c1)
  have h4 := steps_more dg (flatR l1) (xorL (recB x) e ++ flatR l2) l1 Sd0 (by show 0 + _ ≤ _; omega)
  rw [h3] at h4
  unfold stepsT
  dsimp only
  rw [h1]
  dsimp only
  rw [h4]
  dsimp only
  rw [if_neg (by rw [c2]; exact fun h => h rfl), if_neg (by rw [c3]; intro h; cases h.1)]
  rfl
end Go.Proofs.Ytioohhekamjljaa.Wi
