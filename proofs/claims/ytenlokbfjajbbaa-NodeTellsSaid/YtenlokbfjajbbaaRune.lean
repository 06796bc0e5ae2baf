/- strings.IndexAny and ContainsAny at the two bytes slash and nought, at every text. No conditions beside those written out. -/
import Derived.Test.YtenlokbfjajbbaaNodeDefs
import Derived.Test.YtenlokbfjajbbaaShelf
import Derived.Laws.RangeAny
import Derived.Laws.Runes
import Derived.Scope
import Derived.Lib.OthersKept
import Derived.Test.YtenlokbfjajbbaaReg
import Derived.Deep.QuietTactic
import Derived.BigQuiet
import Derived.Deep.LoopGhost
set_option linter.unusedSimpArgs false
set_option linter.unusedVariables false
namespace Go.Proofs.Ytenlokbfjajbbaa.Nm
open Go Go.RowKit Go.Proofs.YtenlokbfjajbbaaW.PrintWords Go.Proofs.Ytenlokbfjajbbaa.Ev Go.Proofs.Ytenlokbfjajbbaa.Reg

theorem Fr.iter (w : World) (s : ByteArray) (i : Nat) : Fr No w (w.iter s i) := Fr.alloc w _
/-- The two bytes that no name bears. -/
def cut : ByteArray := ⟨#[47, 0]⟩
/-- Where a rune is among them. -/
def cutAt (r : Int) : Int := if r = 47 then 0 else if r = 0 then 1 else -1

theorem rune_low (r : Int) (w : World) (h0 : 0 ≤ r) (h1 : r < 128) :
    Calls Try.prog 107 #[.string ⟨#[47, 0]⟩, .int .i32 r] w fun e w' => e = .returned (.int .i64 (cutAt r)) ∧ Fr No w w' := by
  refine (Try.strings_IndexRune_ascii ⟨#[47, 0]⟩ r w h0 h1).mono ?_
  rintro e w' ⟨rfl, rfl⟩
  refine ⟨?_, Fr.refl _ _⟩
  obtain ⟨n, rfl⟩ := Int.eq_ofNat_of_zero_le h0
  have hn : n < 128 := by omega
  clear h0 h1
  have : ∀ n : Nat, n < 128 → Lib.indexByte [47, 0] ((n : Int).toNat.toUInt8) = cutAt n := by decide +kernel
  have := this n hn
  exact congrArg (fun z => Ending.returned (.int .i64 z)) this

/-- The forms of a rune of two bytes and more. -/
theorem enc_forms (r : Int) (hv : Lib.validRune r = true) (h : 128 ≤ r) : (∃ x y : UInt8, Utf8.encode r = ⟨#[x, y]⟩ ∧ 128 ≤ y.toNat) ∨ (∃ x y z : UInt8, Utf8.encode r = ⟨#[x, y, z]⟩) ∨ (∃ x y z u : UInt8, Utf8.encode r = ⟨#[x, y, z, u]⟩) := by
  have hc : ¬ r.toNat < 128 := by omega
  have hv' : Utf8.valid r = true := by
    simp only [Lib.validRune, decide_eq_true_eq] at hv
    simp only [Utf8.valid, Bool.or_eq_true, Bool.and_eq_true, decide_eq_true_eq]
    omega
  unfold Utf8.encode
  simp only [hv', if_true, hc, if_false]
  split
  · exact .inl ⟨_, _, rfl, by simp; omega⟩
  · split
    · exact .inr (.inl ⟨_, _, _, rfl⟩)
    · exact .inr (.inr ⟨_, _, _, _, rfl⟩)

set_option maxHeartbeats 2000000 in
set_option maxRecDepth 1000000 in
theorem rune_error (w : World) :
    Calls Try.prog 107 #[.string ⟨#[47, 0]⟩, .int .i32 65533] w fun e w' => e = .returned (.int .i64 (-1)) ∧ Fr No w w' := by
  go_enter Try.func107, Try.ntmps107
  go_wp2_with fail
  go_loopg [5, 6, 176, 177, 178, 179, 180, 181] 2 (fun g _ _ _ _ _ _ _ _ wx => ∃ i : Nat, i + g = 2 ∧ wx = w.iter ⟨#[47, 0]⟩ i)
  case atStart => exact ⟨0, by omega, rfl⟩
  case round =>
    obtain ⟨i, hig, rfl⟩ := hrel
    match i, hig with
    | 0, hig =>
      have hnx := fun ty => run_next_ascii (P := Try.prog) w ⟨#[47, 0]⟩ 0 ty (by decide) (by decide)
      simp only [show ((⟨#[47, 0]⟩ : ByteArray)[0]'(by decide)).toNat = 47 from rfl] at hnx
      go_wp2
      go_roundg 1
      case measure => omega
      case rel => exact ⟨1, by omega, rfl⟩
    | 1, hig =>
      have hnx := fun ty => run_next_ascii (P := Try.prog) w ⟨#[47, 0]⟩ 1 ty (by decide) (by decide)
      simp only [show ((⟨#[47, 0]⟩ : ByteArray)[1]'(by decide)).toNat = 0 from rfl] at hnx
      go_wp2
      go_roundg 0
      case measure => omega
      case rel => exact ⟨2, by omega, rfl⟩
    | 2, hig =>
      have hnx := run_next_end (P := Try.prog) w ⟨#[47, 0]⟩ 2
      go_wp2
      go_ret
      exact ⟨rfl, Fr.iter _ _ _⟩
    | i + 3, hig => omega

set_option maxHeartbeats 2000000 in
set_option maxRecDepth 1000000 in
theorem rune_high (r : Int) (w : World) (h0 : 128 ≤ r) (h1 : r ≤ 2147483647) :
    Calls Try.prog 107 #[.string ⟨#[47, 0]⟩, .int .i32 r] w fun e w' => e = .returned (.int .i64 (-1)) ∧ Fr No w w' := by
  have hlo : (0 : Int) ≤ r := by omega
  have hnl : ¬ r < 128 := by omega
  by_cases he : r = 65533
  · subst he
    exact rune_error w
  · have heb : (r == 65533) = false := beq_eq_false_iff_ne.2 he
    clear he
    cases hv : Lib.validRune r
    · go_enter Try.func107, Try.ntmps107
      go_wp2_with (go_at_call 113; refine (Try.utf8_ValidRune _ _).mono ?_; rintro e w1 ⟨rfl, rfl⟩; rw [hv])
      go_ret
      exact ⟨rfl, Fr.refl _ _⟩
    · rcases enc_forms r hv h0 with ⟨x, y, hxy, hy⟩ | ⟨x, y, z, hxy⟩ | ⟨x, y, z, u, hxy⟩
      · have hy0 : ((0 : Int) != (y.toNat : Int)) = true := by rw [bne_iff_ne]; omega
        go_enter Try.func107, Try.ntmps107
        go_wp2_with (first | (refine wp_scope_straight ?_) | (go_at_call 113; refine (Try.utf8_ValidRune _ _).mono ?_; rintro e w1 ⟨rfl, hw⟩; rw [hw, hv]))
        go_loopg [9] 0 (fun _ v9 wr => v9 = .int .i64 1 ∧ wr = w)
        case atStart => exact ⟨rfl, rfl⟩
        case round =>
          obtain ⟨rfl, rfl⟩ := hrel
          have hib : ∀ W : World, Calls Try.prog 112 #[.string ⟨#[]⟩, .int .u8 (y.toNat : Int)] W fun e w' => e = .returned (.int .i64 (-1)) ∧ ∃ n, w' = W.drewN n := fun W => by
            refine (Try.strings_IndexByte ⟨#[]⟩ _ W).mono ?_
            rintro e w' ⟨rfl, rfl⟩
            exact ⟨rfl, 0, rfl⟩
          go_wp2_with (refine wp_scope_straight ?_)
          have hne : ((((⟨#[47, 0]⟩ : ByteArray)[1]'(by decide)).toNat : Int) != (((⟨#[x, y]⟩ : ByteArray)[1]'(by show 1 < 2; decide)).toNat : Int)) = true := hy0
          go_quiet (fail)
          go_wp2_with fail
          go_quiet ((first | (go_at_call 112; exact quiet1 hib) | (go_at_call 112; exact quiet2 hib)))
          go_wp2_with fail
          simp only [Exit.noGoto, Exit.inBlock, Exit.then]
          go_ret
          exact ⟨rfl, (Fr.refl _ _).drewN _⟩
      · go_enter Try.func107, Try.ntmps107
        go_wp2_with (first | (refine wp_scope_straight ?_) | (go_at_call 113; refine (Try.utf8_ValidRune _ _).mono ?_; rintro e w1 ⟨rfl, hw⟩; rw [hw, hv]))
        go_loopg [9] 0 (fun _ v9 wr => v9 = .int .i64 2 ∧ wr = w)
        case atStart => exact ⟨rfl, rfl⟩
        case round =>
          obtain ⟨rfl, rfl⟩ := hrel
          go_wp2_with (refine wp_scope_straight ?_)
          simp only [Exit.noGoto, Exit.inBlock]
          go_ret
          exact ⟨rfl, Fr.refl _ _⟩
      · go_enter Try.func107, Try.ntmps107
        go_wp2_with (first | (refine wp_scope_straight ?_) | (go_at_call 113; refine (Try.utf8_ValidRune _ _).mono ?_; rintro e w1 ⟨rfl, hw⟩; rw [hw, hv]))
        go_loopg [9] 0 (fun _ v9 wr => v9 = .int .i64 3 ∧ wr = w)
        case atStart => exact ⟨rfl, rfl⟩
        case round =>
          obtain ⟨rfl, rfl⟩ := hrel
          go_wp2_with (refine wp_scope_straight ?_)
          simp only [Exit.noGoto, Exit.inBlock]
          go_ret
          exact ⟨rfl, Fr.refl _ _⟩

theorem getb (s : ByteArray) (k : Nat) (h : k < s.size) : (s.get! k).toNat = (s[k]'h).toNat := by
  have := get_at s k h
  simpa using congrArg UInt8.toNat this
/-- What is decoded at a byte from 128 on. -/
theorem decode_far (s : ByteArray) (i : Nat) (h : i < s.size) (ha : 128 ≤ (s[i]'h).toNat) :
    i + (Utf8.decode s i).2 ≤ s.size ∧ ∀ j, i ≤ j → j < i + (Utf8.decode s i).2 → ∃ hj : j < s.size, 128 ≤ (s[j]'hj).toNat := by
  have hn : ¬ (s[i]'h).toNat < 128 := by omega
  have one : i + 1 ≤ s.size ∧ ∀ j, i ≤ j → j < i + 1 → ∃ hj : j < s.size, 128 ≤ (s[j]'hj).toNat :=
    ⟨by omega, fun j h1 h2 => by obtain rfl : j = i := by omega
                                 exact ⟨h, ha⟩⟩
  have cont : ∀ k, (decide (i + k < s.size) && (s.get! (i + k)).toNat / 64 == 2) = true → ∃ hj : i + k < s.size, 128 ≤ (s[i + k]'hj).toNat := fun k hk => by
    simp only [Bool.and_eq_true, decide_eq_true_eq, beq_iff_eq] at hk
    refine ⟨hk.1, ?_⟩
    rw [← getb s (i + k) hk.1]
    omega
  simp only [Utf8.decode, get_at s i h, hn, if_false]
  split
  · rename_i h1
    rw [Bool.and_eq_true] at h1
    obtain ⟨c1, c2⟩ := cont 1 h1.2
    split
    · refine ⟨by simp only; omega, fun j j1 j2 => ?_⟩
      simp only at j2
      by_cases e : j = i
      · subst e; exact ⟨h, ha⟩
      · obtain rfl : j = i + 1 := by omega
        exact ⟨c1, c2⟩
    · exact one
  · split
    · rename_i h1
      rw [Bool.and_eq_true, Bool.and_eq_true] at h1
      obtain ⟨c1, c2⟩ := cont 1 h1.1.2
      obtain ⟨d1, d2⟩ := cont 2 h1.2
      split
      · refine ⟨by simp only; omega, fun j j1 j2 => ?_⟩
        simp only at j2
        by_cases e : j = i
        · subst e; exact ⟨h, ha⟩
        · by_cases e : j = i + 1
          · subst e; exact ⟨c1, c2⟩
          · obtain rfl : j = i + 2 := by omega
            exact ⟨d1, d2⟩
      · exact one
    · split
      · rename_i h1
        rw [Bool.and_eq_true, Bool.and_eq_true, Bool.and_eq_true] at h1
        obtain ⟨c1, c2⟩ := cont 1 h1.1.1.2
        obtain ⟨d1, d2⟩ := cont 2 h1.1.2
        obtain ⟨e1, e2⟩ := cont 3 h1.2
        split
        · refine ⟨by simp only; omega, fun j j1 j2 => ?_⟩
          simp only at j2
          by_cases e : j = i
          · subst e; exact ⟨h, ha⟩
          · by_cases e : j = i + 1
            · subst e; exact ⟨c1, c2⟩
            · by_cases e : j = i + 2
              · subst e; exact ⟨d1, d2⟩
              · obtain rfl : j = i + 3 := by omega
                exact ⟨e1, e2⟩
        · exact one
      · exact one

def Bad (x : UInt8) : Prop := x = 47 ∨ x = 0
theorem badB_iff (x : UInt8) : Nd.badB x = true ↔ Bad x := by simp [Nd.badB, Bad]
/-- None of the first i bytes is bad. -/
def Clean (s : ByteArray) (i : Nat) : Prop := ∀ j (h : j < s.size), j < i → ¬ Bad (s[j]'h)
theorem clean_all {s : ByteArray} (h : Clean s s.size) : s.data.toList.any Nd.badB = false := by
  rw [List.any_eq_false]
  intro x hx
  obtain ⟨j, hj, rfl⟩ := List.getElem_of_mem hx
  have hj' : j < s.size := by rw [Array.length_toList] at hj; exact hj
  have := h j hj' hj'
  rw [badB_iff]
  exact this
theorem bad_any {s : ByteArray} {j : Nat} (h : j < s.size) (hb : Bad (s[j]'h)) : s.data.toList.any Nd.badB = true := by
  rw [List.any_eq_true]
  have hj : j < s.data.toList.length := by rw [Array.length_toList]; exact h
  refine ⟨s.data.toList[j], List.getElem_mem hj, ?_⟩
  rw [badB_iff]
  exact hb

theorem Fr.iterAt {w : World} {k : Nat} {s : ByteArray} {i : Nat} (p : Nat) : Fr (One k) w (w.iterAt k s p) :=
  ⟨rfl, rfl, rfl, by rw [Lib.iterAt_size]; exact Nat.le_refl _, fun j _ hn => Lib.iterAt_other w k j s p hn⟩
/-- The iterator stands at i. -/
structure At (w wx : World) (s : ByteArray) (i : Nat) : Prop where
  fr : Fr No w wx
  it : wx.heap[w.heap.size]? = some (.stringIter s i)
  clean : Clean s i
theorem At.on {w wx w1 : World} {s : ByteArray} {i p : Nat} (h : At w wx s i) (f : Fr No (wx.iterAt w.heap.size s p) w1) (hc : Clean s p) : At w w1 s p :=
  ⟨((h.fr.one (Fr.iterAt (i := i) p) (.inr (Nat.le_refl _)))).no f, (f.keep _ (by rw [Lib.iterAt_size]; exact (Array.getElem?_eq_some_iff.1 h.it).1) (fun hh => hh)).trans (Lib.iterAt_heap wx _ s i p h.it), hc⟩
theorem Clean.more {s : ByteArray} {i n : Nat} (h : Clean s i) (hn : ∀ j (hj : j < s.size), i ≤ j → j < n → ¬ Bad (s[j]'hj)) : Clean s n := fun j hj hjn => by
  by_cases hji : j < i
  · exact h j hj hji
  · exact hn j hj (by omega) hjn

set_option maxHeartbeats 8000000 in
set_option maxRecDepth 1000000 in
theorem index_short (s : ByteArray) (w : World) (h8 : s.size ≤ 8) :
    Calls Try.prog 104 #[.string s, .string ⟨#[47, 0]⟩] w fun e w' => ∃ z : Int, e = .returned (.int .i64 z) ∧ (s.data.toList.any Nd.badB = decide (0 ≤ z)) ∧ Fr No w w' := by
  have h8z : decide ((8 : Int) < (s.size : Int)) = false := decide_eq_false (by omega)
  go_enter Try.func104, Try.ntmps104
  go_wp2_with (go_at_call 108; refine (Try.strings_shouldUseASCIISet _ _).mono ?_; rintro e w1 ⟨rfl, hw⟩; rw [hw, h8z])
  go_loopg [9, 10] s.size (fun g _ _ wx => ∃ i : Nat, i ≤ s.size ∧ s.size - i ≤ g ∧ At w wx s i)
  case atStart => exact ⟨0, by omega, by omega, Fr.iter _ _ _, heap_alloc_new w _, fun j h hj => absurd hj (Nat.not_lt_zero _)⟩
  case round =>
    obtain ⟨i, hi, hig, hat⟩ := hrel
    by_cases hlt : i < s.size
    · by_cases ha : (s[i]'hlt).toNat < 128
      · have hnx := fun ty => Lib.run_next_ascii_at (P := Try.prog) wr w.heap.size s i ty hat.it hlt ha
        have HAT := Kp.mk hat
        clear hat
        obtain ⟨x, hx⟩ : ∃ x : UInt8, s[i]'hlt = x := ⟨_, rfl⟩
        rw [hx] at hnx ha
        have HX := Kp.mk hx
        clear hx
        have hx0 : (0 : Int) ≤ (x.toNat : Int) := by omega
        have hx1 : (x.toNat : Int) < 128 := by omega
        by_cases hb : Bad x
        · have hz : Kp (0 ≤ cutAt (x.toNat : Int)) := ⟨by rcases hb with rfl | rfl <;> decide⟩
          have hz1 := hz.out
          generalize hcz : cutAt (x.toNat : Int) = z at hz1
          have HB := Kp.mk hb
          clear hb
          go_wp2_with (go_at_call 107; refine (rune_low _ _ hx0 hx1).mono ?_; rintro e w1 ⟨rfl, f1⟩; rw [hcz])
          go_ret
          refine ⟨_, rfl, ?_, (HAT.out.fr.one (Fr.iterAt (i := i) _) (.inr (Nat.le_refl _))).no f1⟩
          rw [bad_any hlt (by rw [HX.out]; exact HB.out)]
          simp
        · have hcz : cutAt (x.toNat : Int) = -1 := by
            unfold cutAt
            rw [if_neg (fun h => hb (.inl (UInt8.toNat_inj.1 (by simpa using Int.ofNat_inj.1 h)))), if_neg (fun h => hb (.inr (UInt8.toNat_inj.1 (by simpa using Int.ofNat_inj.1 h))))]
          have HB := Kp.mk hb
          have HCZ := Kp.mk hcz
          clear hb hcz
          go_wp2_with (go_at_call 107; refine (rune_low _ _ hx0 hx1).mono ?_; rintro e w1 ⟨rfl, f1⟩; rw [HCZ.out])
          go_roundg (s.size - (i + 1))
          case measure => omega
          case rel =>
            refine ⟨i + 1, by omega, by omega, HAT.out.on f1 (HAT.out.clean.more fun j hj h1 h2 => ?_)⟩
            obtain rfl : j = i := by omega
            rw [HX.out]; exact HB.out
      · have ha' : 128 ≤ (s[i]'hlt).toNat := by omega
        have hnx := fun ty => Lib.run_next_any_at (P := Try.prog) wr w.heap.size s i ty hat.it hlt
        have HAT := Kp.mk hat
        have hd := decode_far s i hlt ha'
        have hh := decode_high s i hlt ha'
        have hle := decode_le s i
        clear hat ha ha'
        generalize Utf8.decode s i = D at hnx hd hh hle
        obtain ⟨r, n⟩ := D
        have hr0 : (128 : Int) ≤ (r : Int) := by have := hh.1; simp only at this; omega
        have hr1 : (r : Int) ≤ 2147483647 := by simp only at hle; omega
        have hn1 : 1 ≤ n := hh.2
        have hnl : i + n ≤ s.size := hd.1
        have HD := Kp.mk hd.2
        clear hd hh hle
        go_wp2_with (go_at_call 107; refine (rune_high _ _ hr0 hr1).mono ?_; rintro e w1 ⟨rfl, f1⟩)
        go_roundg (s.size - (i + n))
        case measure => omega
        case rel =>
          refine ⟨i + n, by omega, by omega, HAT.out.on f1 (HAT.out.clean.more fun j hj h1 h2 => ?_)⟩
          obtain ⟨_, h3⟩ := HD.out j h1 h2
          rintro (h4 | h4) <;> rw [h4] at h3 <;> simp at h3
    · obtain rfl : i = s.size := by omega
      have hnx := fun ty => Lib.run_next_end_at (P := Try.prog) wr w.heap.size s s.size ty hat.it hlt
      have HAT := Kp.mk hat
      clear hat
      go_wp2
      go_ret
      refine ⟨-1, rfl, ?_, HAT.out.fr⟩
      rw [clean_all HAT.out.clean]
      rfl

theorem indexAny_any : ∀ l : List UInt8, l.any Nd.badB = decide (0 ≤ Lib.indexAny l [47, 0])
  | [] => rfl
  | b :: l => by
    have ih := indexAny_any l
    have hge := Lib.indexAny_ge [47, 0] l
    have hb : ([47, 0] : List UInt8).contains b = Nd.badB b := by simp only [Nd.badB, List.contains_cons, List.contains_nil, Bool.or_false]
    rw [List.any_cons, Lib.indexAny, hb]
    cases Nd.badB b with
    | true => simp
    | false =>
      rw [ih]
      simp only [Bool.false_or, Bool.false_eq_true, if_false, beq_iff_eq]
      split
      · rename_i h; rw [h]
      · congr 1
        apply propext
        omega

theorem zero_set : ∀ w, (zeroValue 146).run Try.prog w = .ok (.agg (Array.replicate 256 (.bool false))) w := fun w => by
  have : (Try.prog.info? 146).bind (·.zero) = some (.agg (Array.replicate 256 (.bool false))) := by kernel_rfl
  obtain ⟨i, hi, hiz⟩ := Option.bind_eq_some_iff.1 this
  simp [zeroValue, typeInfo, hi, hiz]

set_option maxHeartbeats 1000000 in
/-- strings.ContainsAny at slash and nought: is there one of the two bytes? -/
theorem contains_any (s : ByteArray) (w : World) (hs : s.size < 4294967281) :
    Calls Try.prog 96 #[.string s, .string ⟨#[47, 0]⟩] w fun e w' => e = .returned (.bool (s.data.toList.any Nd.badB)) ∧ Fr No w w' := by
  have hc : Calls Try.prog 104 #[.string s, .string ⟨#[47, 0]⟩] w fun e w' => ∃ z : Int, e = .returned (.int .i64 z) ∧ (s.data.toList.any Nd.badB = decide (0 ≤ z)) ∧ Fr No w w' := by
    by_cases h8 : s.size ≤ 8
    · exact index_short s w h8
    · refine (Try.strings_IndexAny_long zero_set s ⟨#[47, 0]⟩ w (by decide) (by omega) hs (by decide) ?_).mono ?_
      · intro j b hb
        match j, hb with
        | 0, hb => cases hb; decide
        | 1, hb => cases hb; decide
        | j + 2, hb => simp at hb
      · rintro e w' ⟨rfl, rfl⟩
        exact ⟨_, rfl, indexAny_any _, (Fr.alloc _ _).no (Fr.alloc _ _)⟩
  go_enter Try.func96, Try.ntmps96
  go_wp2_with (go_at_call 104; refine hc.mono ?_; rintro e w1 ⟨z, rfl, hz, f1⟩; have HZ := Kp.mk hz; clear hz)
  go_ret
  exact ⟨by rw [HZ.out]; rfl, f1⟩
end Go.Proofs.Ytenlokbfjajbbaa.Nm
