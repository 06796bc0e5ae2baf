/- Slices of the call's own: literals, appends, what they read as; a walk's steps. No conditions beside those written out. -/
import Derived.Test.YtioohhekamjljaaEv
import Derived.Test.YtioohhekamjljaaWMore
import Derived.Maps.AppendAt
import Derived.Lib.AppendStr
set_option linter.unusedSimpArgs false
set_option linter.unusedVariables false
namespace Go.Proofs.Ytioohhekamjljaa.Ev
open Go Go.RowKit Go.Proofs.Ytioohhekamjljaa.Sha Go.Proofs.YtioohhekamjljaaW.PrintWords

/-- The block in which a slice's row lies. -/
def Own (v : Value) : Nat → Prop := fun k => v.ownBlock = some k

section
variable {w w1 : World} {base : Nat} {e : TypeId} {size n : Nat} {v : Value} {cs : List Value} {S : Nat → Prop}
theorem own_keep (h : w.ownsRow base e size v n cs) (f : Fr S w w1) (hn : ∀ k, v.ownBlock = some k → ¬ S k) : w1.ownsRow base e size v n cs := by
  refine own_move h (fun k hk => ?_)
  obtain ⟨cells, hc⟩ := own_typed h k hk
  exact f.keep k (Array.getElem?_eq_some_iff.1 hc).1 (hn k hk)
theorem own_no (h : w.ownsRow base e size v n cs) (f : Fr No w w1) : w1.ownsRow base e size v n cs := own_keep h f (fun _ _ hh => hh)
theorem Fr.of_grown {row : Option Nat} (h : w.grownBy w1 row) : Fr (fun k => row = some k) w w1 := ⟨h.os, h.tape, h.output, h.size, fun k hk hn => h.block k hk (fun e => hn e.symm)⟩
theorem Blk.owns {g n : Nat} (h : Blk w g e cs) (hl : cs.length = n * size) (hm : n ≤ maxLen) (hb : base ≤ g) : w.ownsRow base e size (.slice (some ⟨g, 0, none⟩) n n) n cs :=
  ⟨hl, .inr ⟨g, n, cs.toArray, rfl, hb, h.out, Nat.le_refl _, hm, by simpa using hl, by rw [← hl]; simp⟩⟩
theorem own_new_base (h : w.ownsRow base e size v n cs) (k : Nat) (hk : v.ownBlock = some k) : base ≤ k := own_base h k hk
end

section
variable {P : Program} {ops : Array Oper} {rest : List Oper} {o : Oper} {a : Act} {Q : Exit → Act → World → Prop} {W : World}

/-- '[]T{..}': a new block. 'hrun' by '(by go_simp; rfl)'. -/
theorem ev_lit (hgd : o.guard = none) (e : TypeId) (cs : List Value) (n : Nat)
    (hrun : (execOp a.eval o).run P W = .ok (.value (.slice (some ⟨W.heap.size, 0, none⟩) n n)) (W.alloc (.cells cs.toArray e)))
    (h : ∀ g w1, W.heap.size ≤ g → Fr No W w1 → Blk w1 g e cs → wpList P ops Q rest (a.put o.dst (.slice (some ⟨g, 0, none⟩) n n)) w1) : wpList P ops Q (o :: rest) a W :=
  run_value hgd hrun (h _ _ (Nat.le_refl _) (Fr.alloc _ _) (Blk.new W e cs))

/-- 'append(v, x..)', v the call's own. -/
theorem ev_append (hgd : o.guard = none) (s x : Operand) (t e : TypeId) (z : Value) (size bytes : Nat)
    (ho : o.op = .call { callee := .builtin .append, args := #[s, x], argTypes := #[t, t] })
    (ht : P.underlying t = some (.slice e)) (hinfo : (P.info? e).map (fun i => (i.zero, i.size, i.bytes)) = some (some z, size, bytes)) (hz : z.cells.size = size) (hsz : 0 < size) (hb0 : 0 < bytes)
    (base : Nat) (v : Value) (n : Nat) (xs : List Value) (hs : a.eval s = v) (hown : W.ownsRow base e size v n xs) (hbase : base ≤ W.heap.size)
    (ad : Addr) (m c : Nat) (news : List Value) (hx : a.eval x = .slice (some ad) m c) (hl : news.length = m * size) (hnews : ∀ j u, news[j]? = some u → W.cell? (ad.add j) = some u) (h1 : ∀ u ∈ news, u.oneCell' = true)
    (hbytes : (n + m) * bytes ≤ 140737488355328)
    (h : ∀ A c w1, w1.ownsRow base e size (.slice A (n + m) c) (n + m) (xs ++ news) → Fr (Own v) W w1 → ((Value.slice A (n + m) c).ownBlock = v.ownBlock ∨ ∃ b, (Value.slice A (n + m) c).ownBlock = some b ∧ W.heap.size ≤ b) → wpList P ops Q rest (a.put o.dst (.slice A (n + m) c)) w1) : wpList P ops Q (o :: rest) a W := by
  obtain ⟨i0, hi, hzz⟩ := Option.map_eq_some_iff.1 hinfo
  simp only [Prod.mk.injEq] at hzz
  obtain ⟨hz0, hz1, hz2⟩ := hzz
  have hlen : n + m ≤ 140737488355328 := Nat.le_trans (Nat.le_mul_of_pos_right _ hb0) hbytes
  refine wpList_append_own_at W hgd s x t ho base e i0 z size bytes ht hi hz0 hz1 hz2 hz hsz v n xs hs hown ad m c news hx hl hnews h1 (by simp only [maxLen]; omega) hbytes hbase ?_
  intro v1 w1 hown1 hg _ hat
  obtain ⟨A, c, rfl⟩ := own_slice hown1
  refine h A c w1 hown1 (Fr.of_grown hg) ?_
  rcases hat with hat | hat
  · exact .inl hat
  · exact .inr ⟨_, hat, Nat.le_refl _⟩

/-- What is appended lies in a block of its own. -/
theorem news_blk {g : Nat} {e : TypeId} {cs : List Value} (h : Blk W g e cs) : ∀ j u, cs[j]? = some u → W.cell? ((⟨g, 0, none⟩ : Addr).add j) = some u := fun j u hu => by
  rw [Addr.add_lit, Nat.zero_add]
  exact h.at_ j hu
end

/-- Where a text's bytes put behind a row lie: in the row, or in a new block. -/
theorem append_str_at {P : Program} (w : World) (base : Nat) (t u ty e : TypeId) (i : TypeInfo) (ht : P.underlying t = some (.slice e)) (hu : P.underlying u = some .string) (hi : P.info? e = some i) (hz : i.zero = some (.int .u8 0))
    (hsize : i.size = 1) (hby : i.bytes = 1) (v : Value) (n : Nat) (xs : List Value) (hown : w.ownsRow base e 1 v n xs) (s : ByteArray)
    (hbytes : n + s.size ≤ 140737488355328) (v' : Value) (w' : World) (hr : (Builtin.append_ #[t, u] ty #[v, .string s]).run P w = .ok v' w') :
    v'.ownBlock = v.ownBlock ∨ v'.ownBlock = some w.heap.size := by
  have hxl : xs.length = n := by simpa using hown.1
  have fin : ∀ {a b : Value} {x y : World}, (Builtin.append_ #[t, u] ty #[v, .string s]).run P w = .ok a x → a.ownBlock = v.ownBlock ∨ a.ownBlock = some w.heap.size → v'.ownBlock = v.ownBlock ∨ v'.ownBlock = some w.heap.size := by
    intro a b x y h1 h2
    rw [hr] at h1
    injection h1 with h1 _
    rw [h1]; exact h2
  rcases hown.2 with ⟨rfl, rfl⟩ | ⟨g, cap, cur, rfl, hbg, hg, hnc, hcm, hcs, htake⟩
  · by_cases hm : s.size = 0
    · have hf := Lib.run_firstCells_string (P := P) w 1 s
      rw [hm] at hf
      refine fin (b := undef) (y := w) (a := .slice none 0 0) (x := w) ?_ (.inl rfl)
      have hn : Lib.strCells s = [] := List.eq_nil_of_length_eq_zero (by rw [Lib.strCells_length]; exact hm)
      simp [Builtin.append_, run_underlying ht, run_underlying hu, sizeOf, typeInfo, hi, hsize, Builtin.lenOf, hm, hf]
    · exact fin (b := undef) (y := w) (run_append_nil_string (P := P) w t u ty e i (.int .u8 0) ht hu hi hz s (by omega) (by omega) (by rw [hby]; omega)) (.inr rfl)
  · by_cases hroom : n + s.size ≤ cap
    · exact fin (b := undef) (y := w) (Lib.run_append_room_string (P := P) w t u ty e i ht hu hi hsize g n cap cur hg s hroom (by omega)) (.inl rfl)
    · have holds : ∀ j u, xs[j]? = some u → w.cell? ((⟨g, 0, none⟩ : Addr).add j) = some u := hown.cells (g := g) rfl
      exact fin (b := undef) (y := w) (Lib.run_append_grow_string (P := P) w t u ty e i (.int .u8 0) ht hu hi hz ⟨g, 0, none⟩ n cap xs (by rw [hsize]; simpa using hxl) holds s (by omega) (by omega) (by rw [hby]; exact growslice_fits (by omega) (by omega))) (.inr rfl)

/-- 'append(v, s...)', v bytes of the call's own, s a text. -/
theorem ev_append_str {P : Program} {ops : Array Oper} {rest : List Oper} {o : Oper} {a : Act} {Q : Exit → Act → World → Prop} {W : World} (hgd : o.guard = none) (s x : Operand) (t u e : TypeId)
    (ho : o.op = .call { callee := .builtin .append, args := #[s, x], argTypes := #[t, u] })
    (ht : P.underlying t = some (.slice e)) (hu : P.underlying u = some .string) (hinfo : (P.info? e).map (fun i => (i.zero, i.size, i.bytes)) = some (some (.int .u8 0), 1, 1))
    (base : Nat) (v : Value) (n : Nat) (xs : List Value) (y : ByteArray) (hs : a.eval s = v) (hx : a.eval x = .string y) (hown : W.ownsRow base e 1 v n xs) (hbase : base ≤ W.heap.size) (hl : n + y.size ≤ 140737488355328)
    (h : ∀ A c w1, w1.ownsRow base e 1 (.slice A (n + y.size) c) (n + y.size) (xs ++ Lib.strCells y) → Fr (Own v) W w1 → ((Value.slice A (n + y.size) c).ownBlock = v.ownBlock ∨ (Value.slice A (n + y.size) c).ownBlock = some W.heap.size) → wpList P ops Q rest (a.put o.dst (.slice A (n + y.size) c)) w1) : wpList P ops Q (o :: rest) a W := by
  obtain ⟨i0, hi, hzz⟩ := Option.map_eq_some_iff.1 hinfo
  simp only [Prod.mk.injEq] at hzz
  obtain ⟨hz0, hz1, hz2⟩ := hzz
  obtain ⟨v1, w1, hr, h1, h2, _⟩ := Lib.run_append_own_string (P := P) W base t u o.type e i0 ht hu hi hz0 hz1 hz2 v n xs hown y (by simp only [maxLen]; omega) hl hbase
  have hat := append_str_at (P := P) W base t u o.type e i0 ht hu hi hz0 hz1 hz2 v n xs hown y hl v1 w1 hr
  obtain ⟨A, c, rfl⟩ := own_slice h1
  refine run_value hgd ?_ (h A c w1 h1 (Fr.of_grown h2) hat)
  simp [execOp, ho, resolve, invoke, builtin, Sem.run_bind, Sem.run_pure, Result.andThen_ok, hs, hx, hr]

/-- Bytes as whole numbers, and back. -/
theorem byteCells_nums (l : List UInt8) : l.map (fun b => Value.int .u8 b.toNat) = nums .u8 (l.map fun b => (b.toNat : Int)) := by simp [nums]
theorem strOf_bytes (l : List UInt8) : strOfNums (l.map fun b => (b.toNat : Int)) = (⟨l.toArray⟩ : ByteArray) := by
  have h : ((fun n : Int => UInt8.ofNat n.toNat) ∘ fun b : UInt8 => (b.toNat : Int)) = id := by funext b; simp
  simp [strOfNums, h]

/-- 'string(b)', b bytes of the call's own. -/
theorem ev_str {P : Program} {ops : Array Oper} {rest : List Oper} {o : Oper} {a : Act} {Q : Exit → Act → World → Prop} {W : World} (hgd : o.guard = none) (src dst e : TypeId) (x : Operand) (ho : o.op = .convert src dst x)
    (hs : P.underlying src = some (.slice e)) (he : P.underlying e = some (.int .u8)) (hd : P.underlying dst = some .string)
    (base : Nat) (v : Value) (n : Nat) (e' : TypeId) (l : List UInt8) (hx : a.eval x = v) (hown : W.ownsRow base e' 1 v n (l.map fun b => Value.int .u8 b.toNat))
    (h : wpList P ops Q rest (a.put o.dst (.string ⟨l.toArray⟩)) W) : wpList P ops Q (o :: rest) a W := by
  rw [byteCells_nums] at hown
  have hr := own_string (P := P) hs he hd hown
  rw [strOf_bytes] at hr
  refine run_value hgd ?_ h
  simp [execOp, ho, hx, hr, Sem.run_bind, Result.andThen]

/-- Texts that a row of the call's own holds, read. -/
theorem own_strs {w : World} {base n : Nat} {e : TypeId} {v : Value} {xs : List ByteArray} (h : w.ownsRow base e 1 v n (xs.map Value.string)) (hn : n = xs.length) : ∃ A c, v = .slice A xs.length c ∧ xs.length ≤ c ∧ Kd.C Kd.string w A xs.length xs := by
  subst hn
  obtain ⟨A, c, h1, h2, h3⟩ := own_reads_of_le (enc := Value.string) (d := ByteArray.empty) (by simpa [encs] using h)
  exact ⟨A, c, h1, h2, Kd.C_of_reads h3⟩
end Go.Proofs.Ytioohhekamjljaa.Ev
