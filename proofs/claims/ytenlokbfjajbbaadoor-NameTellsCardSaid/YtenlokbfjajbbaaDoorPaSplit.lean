/- name.Split walked. Conditions: the text's size is bounded, the library's variable is set, as written out. -/
import Derived.Test.YtenlokbfjajbbaaDoorPaPlain
import Derived.Test.YtenlokbfjajbbaaDoorNodeName
import Derived.Test.YtenlokbfjajbbaaDoorEv3
import Derived.Deep.LoopGhost
import Derived.Laws.Cover1
import Derived.Shelf.Abstract
set_option linter.unusedSimpArgs false
set_option linter.unusedVariables false
namespace Go.Proofs.YtenlokbfjajbbaaDoor.Pa
open Go Go.RowKit Go.Proofs.YtenlokbfjajbbaaDoorW.PrintWords Go.Proofs.YtenlokbfjajbbaaDoor.Ev Go.Proofs.YtenlokbfjajbbaaDoor.Nd

/-- The library's one variable is set. -/
structure Glob (W : World) : Prop where
  out : ∃ m, W.cell? ⟨0, 0, none⟩ = some (.int .i64 m)
theorem Glob.no {w w' : World} (h : Glob w) (f : Fr No w w') : Glob w' := by
  obtain ⟨m, h⟩ := h.out
  exact ⟨⟨m, Fr.cell h f (fun h => h)⟩⟩

theorem wrong_any (s : ByteArray) (W : World) (hs : s.size < 4294967281) :
    Calls Tryd.prog 20 #[.string s] W fun e w' => e = .returned (.bool (!(nameB s))) ∧ Fr No W w' := by
  go_enter Tryd.func20, Tryd.ntmps20
  go_wp2_with (go_at_call 13; refine (name_any s _ hs).mono ?_; rintro e w1 ⟨rfl, f1⟩)
  go_ret
  exact ⟨rfl, f1⟩

/-- The first place where p holds, or -1. -/
def idxS (p : ByteArray → Bool) (xs : List ByteArray) : Int := match xs.findIdx? p with | some i => (i : Int) | none => -1
theorem idxS_hit {p : ByteArray → Bool} {xs : List ByteArray} {i : Nat} (h0 : ∀ j, j < i → p (xs.getD j ByteArray.empty) = false) (hi : i < xs.length) (h1 : p (xs.getD i ByteArray.empty) = true) : idxS p xs = i := by
  have : xs.findIdx? p = some i := by
    rw [List.findIdx?_eq_some_iff_getElem]
    refine ⟨hi, by simpa [List.getD_eq_getElem?_getD, hi] using h1, fun j hj => ?_⟩
    have := h0 j hj
    have hjl : j < xs.length := by omega
    simpa [List.getD_eq_getElem?_getD, hjl] using this
  simp [idxS, this]
theorem idxS_miss {p : ByteArray → Bool} {xs : List ByteArray} (h0 : ∀ j, j < xs.length → p (xs.getD j ByteArray.empty) = false) : idxS p xs = -1 := by
  have : xs.findIdx? p = none := by
    rw [List.findIdx?_eq_none_iff]
    intro x hx
    obtain ⟨j, hj, rfl⟩ := List.getElem_of_mem hx
    simpa [List.getD_eq_getElem?_getD, hj] using h0 j hj
  simp [idxS, this]
theorem idxS_any (p : ByteArray → Bool) (xs : List ByteArray) : (0 ≤ idxS p xs ∧ xs.any p = true) ∨ (idxS p xs = -1 ∧ xs.any p = false) := by
  unfold idxS
  cases h : xs.findIdx? p with
  | none =>
    right
    refine ⟨rfl, ?_⟩
    rw [List.findIdx?_eq_none_iff] at h
    exact List.any_eq_false.2 (fun x hx => by simp [h x hx])
  | some i =>
    left
    obtain ⟨hi, hp, _⟩ := List.findIdx?_eq_some_iff_getElem.1 h
    exact ⟨Int.natCast_nonneg i, List.any_eq_true.2 ⟨_, List.getElem_mem hi, hp⟩⟩

set_option maxHeartbeats 2000000 in
theorem index_str (p : ByteArray → Bool) (g : Nat) (eg : ∀ args w, (callFunc g args).run Tryd.prog w = .ok (.enter g args) w) (v : Value) (xs : List ByteArray) (w : World) (hs : StrS w v xs)
    (hp : ∀ W x, x ∈ xs → Fr No w W → Calls Tryd.prog g #[.string x] W fun e w' => e = .returned (.bool (p x)) ∧ Fr No W w') :
    Calls Tryd.prog 27 #[v, .func (.func g) #[] #[]] w fun e w' => e = .returned (.int .i64 (idxS p xs)) ∧ Fr No w w' := by
  obtain ⟨A, c, rfl, h1, h2, h3⟩ := hs.out
  have HP := Kp.mk hp
  have H3 := Kp.mk h3
  clear hp h3 hs
  have hsz : xs.length ≤ 9223372036854775807 := by omega
  go_enter Tryd.func27, Tryd.ntmps27
  go_wp2
  go_loopg [5, 8] xs.length (fun gg _ s8 wr => ∃ kk : Nat, kk ≤ xs.length ∧ xs.length - kk ≤ gg ∧ s8 = .int .i64 kk ∧ Kp (Fr No w wr) ∧ Kp (∀ j, j < kk → p (xs.getD j ByteArray.empty) = false))
  case atStart => exact ⟨0, Nat.zero_le _, by omega, rfl, ⟨Fr.refl _ _⟩, ⟨fun j hj => absurd hj (Nat.not_lt_zero _)⟩⟩
  case round =>
    obtain ⟨kk, hkk, hg, rfl, F, N⟩ := hrel
    by_cases hlt : kk < xs.length
    · have hltz : (kk : Int) < (xs.length : Int) := by omega
      obtain ⟨b, o, rfl, hb, hcc⟩ := H3.out (by omega)
      have l1 := Fr.cell (hcc kk hlt) F.out (fun h => h)
      have hcall := HP.out wr (xs.getD kk ByteArray.empty) (by rw [List.getD_eq_getElem?_getD, List.getElem?_eq_getElem hlt]; exact List.getElem_mem hlt) F.out
      clear hcc
      generalize hy : xs.getD kk ByteArray.empty = y at l1 hcall
      have HY := Kp.mk hy
      clear hy
      cases hq : p y with
      | true =>
        rw [hq] at hcall
        have HQ := Kp.mk hq
        clear hq
        go_wp2_with fail
        refine hcall.mono ?_
        rintro e w' ⟨rfl, hb'⟩
        go_wp2
        go_ret
        refine ⟨?_, F.out.no hb'⟩
        rw [idxS_hit N.out hlt (by rw [HY.out]; exact HQ.out)]
        rfl
      | false =>
        rw [hq] at hcall
        have HQ := Kp.mk hq
        clear hq
        go_wp2_with fail
        refine hcall.mono ?_
        rintro e w' ⟨rfl, hb'⟩
        go_wp2
        go_roundg (xs.length - (kk + 1))
        case measure => omega
        case rel =>
          refine ⟨kk + 1, by omega, by omega, by go_num, ⟨F.out.no hb'⟩, ⟨fun j hj => ?_⟩⟩
          by_cases e : j = kk
          · subst e
            rw [HY.out]; exact HQ.out
          · exact N.out j (by omega)
    · have hltz : ¬ (kk : Int) < (xs.length : Int) := by omega
      obtain rfl : kk = xs.length := by omega
      go_wp2
      go_ret
      exact ⟨by rw [idxS_miss N.out]; rfl, F.out⟩

theorem contains_str (p : ByteArray → Bool) (g : Nat) (eg : ∀ args w, (callFunc g args).run Tryd.prog w = .ok (.enter g args) w) (v : Value) (xs : List ByteArray) (w : World) (hs : StrS w v xs)
    (hp : ∀ W x, x ∈ xs → Fr No w W → Calls Tryd.prog g #[.string x] W fun e w' => e = .returned (.bool (p x)) ∧ Fr No W w') :
    Calls Tryd.prog 21 #[v, .func (.func g) #[] #[]] w fun e w' => e = .returned (.bool (xs.any p)) ∧ Fr No w w' := by
  have HI := Kp.mk (index_str p g eg v xs w hs hp)
  obtain ⟨A, c, rfl, h1, h2, h3⟩ := hs.out
  have hx := idxS_any p xs
  obtain ⟨x, hxe⟩ : ∃ x, x = idxS p xs := ⟨_, rfl⟩
  obtain ⟨b, hbe⟩ : ∃ b, b = xs.any p := ⟨_, rfl⟩
  rw [← hxe] at hx HI
  rw [← hbe] at hx ⊢
  clear hp h3 hs hxe hbe
  rcases hx with ⟨h0, rfl⟩ | ⟨rfl, rfl⟩
  · go_enter Tryd.func21, Tryd.ntmps21
    go_wp2_with (go_at_call 27; refine HI.out.mono ?_; rintro e w1 ⟨rfl, f1⟩)
    go_ret
    exact ⟨by simp [h0], f1⟩
  · go_enter Tryd.func21, Tryd.ntmps21
    go_wp2_with (go_at_call 27; refine HI.out.mono ?_; rintro e w1 ⟨rfl, f1⟩)
    go_ret
    exact ⟨rfl, f1⟩

theorem cut_sizes (l : List UInt8) : ∀ x ∈ cutL l, x.length ≤ l.length := by
  induction l with
  | nil => simp [cutL]
  | cons c l ih =>
    intro x hx
    unfold cutL at hx
    split at hx
    · rcases List.mem_cons.1 hx with rfl | hx
      · simp
      · have := ih x hx; simp; omega
    · rcases List.mem_cons.1 hx with rfl | hx
      · have : (cutL l).headD [] ∈ cutL l := by
          cases h : cutL l with
          | nil => exact absurd h (cutL_ne l)
          | cons y r => simp
        have := ih _ this
        rw [List.length_cons, List.length_cons]; omega
      · have := ih x (List.mem_of_mem_tail hx)
        simp; omega

/-- What name.Split and its like hand back. -/
def Tell (W : World) (xs : List ByteArray) (c : Int) (e : Ending) (w' : World) : Prop := ∃ v, e = .returned (.tuple #[v, .int .i64 c]) ∧ StrS w' v xs ∧ Fr No W w'

/-- strings.Split at the slash. -/
theorem lsplit_any (s : ByteArray) (W : World) (hg : Glob W) (hs : s.size < 4294967281) :
    Calls Tryd.prog 19 #[.string s, .string ⟨#[47]⟩] W fun e w' => ∃ v, e = .returned v ∧ StrS w' v ((cutL s.data.toList).map ba) ∧ Fr No W w' := by
  obtain ⟨m, hm⟩ := hg.out
  refine (Tryd.strings_Split s ⟨#[47]⟩ m W hs hm (Nat.le_refl _)).mono ?_
  rintro e w' ⟨rfl, rfl⟩
  have hl := Lib.splitB_all ⟨#[47]⟩ (Nat.le_refl 1) 0 _ s rfl
  have hc := Lib.countB_le ⟨#[47]⟩ (Nat.le_refl 1) s.size s (Nat.le_refl _)
  rw [split_cut s.size s (Nat.le_refl _)] at hl ⊢
  refine ⟨_, rfl, ⟨⟨some ⟨W.heap.size, 0, none⟩, Lib.countB s ⟨#[47]⟩ + 1, by rw [hl], by rw [hl]; exact Nat.le_refl _, by omega, fun _ => ⟨W.heap.size, 0, rfl, ?_, fun j hj => ?_⟩⟩⟩, Fr.alloc _ _⟩
  · exact (Blk.new W 9 _).lt
  · rw [(Blk.new W 9 (((cutL s.data.toList).map ba).map Value.string)).cell, Nat.zero_add, List.getElem?_map, List.getD_eq_getElem?_getD, List.getElem?_eq_getElem hj]
    rfl
end Go.Proofs.YtenlokbfjajbbaaDoor.Pa
