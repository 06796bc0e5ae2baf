/- The law's awake: it says yes. No conditions. -/
import Derived.Test.YtaohfmmapammcaaDoorChFillA
set_option linter.unusedSimpArgs false
set_option linter.unusedVariables false
namespace Go.Proofs.YtaohfmmapammcaaDoor.Ch
open Go Go.RowKit Go.Proofs.YtaohfmmapammcaaDoorW.PrintWords Go.Proofs.YtaohfmmapammcaaDoor.Sha Go.Proofs.YtaohfmmapammcaaDoor.Dig Go.Proofs.YtaohfmmapammcaaDoor.Ev

def t16 : List UInt8 := [48, 49, 50, 51, 52, 53, 54, 55, 56, 57, 97, 98, 99, 100, 101, 102]
def t18 : List UInt8 := [48, 49, 50, 51, 52, 53, 54, 55, 56, 57, 97, 98, 99, 100, 101, 102, 0, 0]
theorem cut18 : cutL t18 = [t16, [0, 0]] := by decide +kernel
theorem names18 : namesL t18 = [sumL t16, []] := by
  unfold namesL
  rw [cut18]
  have h1 : nameL t16 = sumL t16 := by unfold nameL; rw [if_neg (by decide +kernel)]
  have h2 : nameL [0, 0] = [] := by unfold nameL; rw [if_pos (by decide +kernel)]
  simp only [List.map_cons, List.map_nil, h1, h2]
theorem fill18 (S : List UInt8) (hS : S ≠ []) : fillL (fun _ => some t16) [S, []] 18 = (t18, 0) := by
  have h0 : oneF (fun _ => some t16) 18 0 S = some t16 := by unfold oneF; rw [if_neg hS]
  have h1 : oneF (fun _ => some t16) 18 1 [] = some [0, 0] := by unfold oneF; rw [if_pos rfl]; decide +kernel
  have hg : gotF (fun _ => some t16) 18 [S, []] = [t16, [0, 0]] := by
    simp only [gotF, List.mapIdx_cons, List.mapIdx_nil, h0, h1, Nat.zero_add, Option.getD_some]
  have ha : allF (fun _ => some t16) 18 [S, []] := by
    intro i n hi
    match i, hi with
    | 0, hi => cases hi; rw [h0]; rfl
    | 1, hi => cases hi; rw [h1]; rfl
    | i + 2, hi => simp at hi
  have ho : okF 18 [t16, [0, 0]] := by
    intro i n hi
    match i, hi with
    | 0, hi => cases hi; decide +kernel
    | 1, hi => cases hi; decide +kernel
    | i + 2, hi => simp at hi
  unfold fillL
  rw [if_neg (by decide), if_neg (by decide), if_neg (by simp), if_neg (fun h => h ha), hg, if_neg (fun h => h ho)]
  rfl

set_option maxHeartbeats 2000000 in
theorem clo_any (W : World) (n : List UInt8) : Calls Tryd.prog 28 #[.string (bs n)] W fun e w' => e = .returned (.tuple #[.string (bs ((((fun _ => some t16 : List UInt8 → Option (List UInt8)) n)).getD [])), .bool (((fun _ => some t16 : List UInt8 → Option (List UInt8)) n).isSome)]) ∧ Fr No W w' := by
  go_enter Tryd.func28, Tryd.ntmps28
  go_wp2_with fail
  go_ret2
  exact ⟨rfl, Fr.refl _ _⟩
theorem gets_awake (w : World) : ChA.Gets w (fun _ => some t16) := ⟨fun W' _ n => clo_any W' n, fun n c h => by cases h; decide⟩

/-- Names in the call's own memory. -/
theorem namesC_own {W : World} {base : Nat} {A : Option Addr} {c : Nat} {xs : List (List UInt8)} (h : W.ownsRow base 9 1 (.slice A xs.length c) xs.length (vals xs)) : NamesC W A xs := ⟨fun h0 => by
  rcases h.2 with ⟨h1, h2⟩ | ⟨g, cap, cur, h1, _⟩
  · injection h1 with h1 h3 h4
    omega
  · injection h1 with h1 _ _
    subst h1
    refine ⟨g, 0, rfl, fun W' f i n hi => ?_⟩
    have hi2 := (List.getElem?_eq_some_iff.1 hi).1
    rw [Nat.zero_add]
    refine Fr.cell ?_ f (fun h => h)
    rw [h.cellAt i (by omega), vals_get, hi]
    rfl⟩

set_option maxHeartbeats 8000000 in
set_option maxRecDepth 100000 in
theorem awake_any (W : World) : Calls Tryd.prog 8 #[] W fun e w' => e = .returned (.bool true) ∧ Fr No W w' := by
  have c1 : Kp (∀ W, Calls Tryd.prog 9 #[.string ⟨#[97, 98]⟩, .int .i64 4, .string ⟨#[99]⟩] W fun e w' => e = .returned (.tuple #[.string ⟨#[97, 98, 0, 0, 99]⟩, .int .i64 0]) ∧ Fr No W w') := ⟨fun W => by
    have h := put_any [97, 98] 4 [99] (by decide) (by decide) W
    rw [show putL [97, 98] 4 [99] = ([97, 98, 0, 0, 99], 0) by decide +kernel] at h
    exact h⟩
  have c2 : Kp (∀ W, Calls Tryd.prog 11 #[.string ⟨#[97, 98, 99]⟩, .int .i64 1] W fun e w' => e = .returned (.tuple #[.string ⟨#[97]⟩, .int .i64 0]) ∧ Fr No W w') := ⟨fun W => by
    have h := trunc_any [97, 98, 99] 1 (by decide) W
    rw [show truncL [97, 98, 99] 1 = ([97], 0) by decide +kernel] at h
    exact h⟩
  have c3 : Kp (∀ W, Calls Tryd.prog 13 #[.string ⟨#[97, 98, 99]⟩, .int .i64 1, .int .i64 9] W fun e w' => e = .returned (.tuple #[.string ⟨#[98, 99]⟩, .int .i64 0]) ∧ Fr No W w') := ⟨fun W => by
    have h := get_any [97, 98, 99] 1 9 (by decide) (by decide) (by decide) W
    rw [show getL [97, 98, 99] 1 9 = ([98, 99], 0) by decide +kernel] at h
    exact h⟩
  have c4 : Kp (∀ W, Calls Tryd.prog 15 #[.string ⟨#[120, 121]⟩, .int .i64 1, .string ⟨#[97, 98, 99]⟩, .int .i64 1, .int .i64 2] W fun e w' => e = .returned (.tuple #[.string ⟨#[120, 98, 99]⟩, .int .i64 0]) ∧ Fr No W w') := ⟨fun W => by
    have h := copy_chunk_any [120, 121] 1 [97, 98, 99] 1 2 (by decide) (by decide) (by decide) (by decide) W
    rw [show copyL [120, 121] 1 [97, 98, 99] 1 2 = ([120, 98, 99], 0) by decide +kernel] at h
    exact h⟩
  have c5 : Kp (∀ W, Calls Tryd.prog 9 #[.string ⟨#[]⟩, .int .i64 4096, .string ⟨#[99]⟩] W fun e w' => e = .returned (.tuple #[.string ⟨#[]⟩, .int .i64 3]) ∧ Fr No W w') := ⟨fun W => by
    have h := put_any [] 4096 [99] (by decide) (by decide) W
    rw [show putL [] 4096 [99] = ([], 3) by decide +kernel] at h
    exact h⟩
  obtain ⟨S, hS⟩ : ∃ S, S = sumL t16 := ⟨_, rfl⟩
  have hSl : S.length = 32 := by rw [hS, sumL_len]
  have hSn : S ≠ [] := by intro h; rw [h] at hSl; cases hSl
  have c6 : Kp (∀ W, Calls Tryd.prog 20 #[.string ⟨#[48, 49, 50, 51, 52, 53, 54, 55, 56, 57, 97, 98, 99, 100, 101, 102, 0, 0]⟩] W fun e w' => ∃ g c, e = .returned (.slice (some ⟨g, 0, none⟩) 2 c) ∧ w'.ownsRow W.heap.size 9 1 (.slice (some ⟨g, 0, none⟩) 2 c) 2 (vals [S, []]) ∧ Fr No W w') := ⟨fun W => by
    have h := names_any t18 (by decide) W
    rw [names18, ← hS] at h
    refine h.mono fun e w' ⟨v, he, ho, hf⟩ => ?_
    rcases ho.2 with ⟨_, h2⟩ | ⟨g, cap, cur, hv, _⟩
    · cases h2
    · exact ⟨g, cap, by rw [he, hv]; rfl, by rw [hv] at ho; exact ho, hf⟩⟩
  have c7 : Kp (∀ W base g c, W.ownsRow base 9 1 (.slice (some ⟨g, 0, none⟩) 2 c) 2 (vals [S, []]) → Calls Tryd.prog 23 #[.slice (some ⟨g, 0, none⟩) 2 c, .int .i64 18, .func (.func 28) #[] #[]] W fun e w' => e = .returned (.tuple #[.string ⟨#[48, 49, 50, 51, 52, 53, 54, 55, 56, 57, 97, 98, 99, 100, 101, 102, 0, 0]⟩, .int .i64 0]) ∧ Fr No W w') := ⟨fun W base g c ho => by
    have h := ChA.fill_any W _ (gets_awake W) [S, []] (some ⟨g, 0, none⟩) c 18 (by decide) (by decide) (namesC_own ho) (by simp)
    rw [fill18 S hSn] at h
    exact h⟩
  have c8 : Kp (∀ W, Calls Tryd.prog 18 #[.string ⟨#[97]⟩] W fun e w' => ∃ A c, e = .returned (.slice A 1 c) ∧ Fr No W w') := ⟨fun W => by
    refine (cut_any [97] (by decide) W).mono fun e w' ⟨v, he, ho, hb⟩ => ?_
    obtain ⟨A, c, rfl⟩ := own_slice ho
    exact ⟨A, c, he, Fr.of_below hb⟩⟩
  have c9 : Kp (∀ W, Calls Tryd.prog 26 #[.string ⟨#[0]⟩] W fun e w' => e = .returned (.string ⟨#[]⟩) ∧ Fr No W w') := ⟨fun W => by
    have h := name_any [0] (by decide) W
    rw [show nameL [0] = [] by unfold nameL; rw [if_pos (by decide +kernel)]] at h
    exact h⟩
  have hS32 : (bs S).size = 32 := by rw [bs_size]; exact hSl
  clear hS hSn
  go_enter Tryd.func8, Tryd.ntmps8
  go_wp2_with (first
    | (go_at_call 9; refine (c1.out _).mono ?_; rintro e w1 ⟨rfl, f1⟩; clear c1)
    | (go_at_call 11; refine (c2.out _).mono ?_; rintro e w2 ⟨rfl, f2⟩)
    | (go_at_call 13; refine (c3.out _).mono ?_; rintro e w3 ⟨rfl, f3⟩)
    | (go_at_call 15; refine (c4.out _).mono ?_; rintro e w4 ⟨rfl, f4⟩)
    | (go_at_call 9; refine (c5.out _).mono ?_; rintro e w5 ⟨rfl, f5⟩)
    | (go_at_call 20; refine (c6.out _).mono ?_; rintro e w6 ⟨g, c, rfl, ho, f6⟩; have HO := Kp.mk ho; clear ho)
    | (go_at_call 23; refine (c7.out _ _ _ _ HO.out).mono ?_; rintro e w7 ⟨rfl, f7⟩; have q0 := (own_no HO.out f7).cellAt 0 (by decide); have q1 := (own_no HO.out f7).cellAt 1 (by decide); simp only [vals, List.map_cons, List.map_nil, List.getElem?_cons_zero, List.getElem?_cons_succ] at q0 q1)
    | (go_at_call 18; refine (c8.out _).mono ?_; rintro e w8 ⟨A8, c8', rfl, f8⟩)
    | (go_at_call 26; refine (c9.out _).mono ?_; rintro e w9 ⟨rfl, f9⟩))
  go_ret
  exact ⟨rfl, (((((((f1.no f2).no f3).no f4).no f5).no f6).no f7).no f8).no f9⟩
end Go.Proofs.YtaohfmmapammcaaDoor.Ch
