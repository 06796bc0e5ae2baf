/- chunk.Name, chunk.Names. Conditions: sizes are bounded, as written out. -/
import Derived.Test.YtaohfmmapammcaaDoorChCut
import Derived.Test.YtaohfmmapammcaaDoorChFile
set_option linter.unusedSimpArgs false
set_option linter.unusedVariables false
namespace Go.Proofs.YtaohfmmapammcaaDoor.Ch
open Go Go.RowKit Go.Proofs.YtaohfmmapammcaaDoorW.PrintWords Go.Proofs.YtaohfmmapammcaaDoor.Sha Go.Proofs.YtaohfmmapammcaaDoor.Dig Go.Proofs.YtaohfmmapammcaaDoor.Ev

theorem dw_nil {p : UInt8 → Bool} : ∀ {l : List UInt8}, (∀ x ∈ l, p x = true) → l.dropWhile p = []
  | [], _ => rfl
  | a :: l, h => by
    rw [List.dropWhile_cons, if_pos (h a (by simp))]
    exact dw_nil (fun x hx => h x (by simp [hx]))
theorem dw_self {p : UInt8 → Bool} : ∀ {l : List UInt8}, (∀ x ∈ l.dropWhile p, p x = true) → ∀ x ∈ l, p x = true
  | [], _, x, hx => by cases hx
  | a :: l, h, x, hx => by
    rw [List.dropWhile_cons] at h
    by_cases hp : p a = true
    · rw [if_pos hp] at h
      rcases List.mem_cons.1 hx with rfl | hx
      · exact hp
      · exact dw_self h x hx
    · rw [if_neg hp] at h
      exact absurd (h a (by simp)) hp
theorem dw_all {p : UInt8 → Bool} : ∀ {l : List UInt8}, l.dropWhile p = [] → ∀ x ∈ l, p x = true := fun h => dw_self (by rw [h]; simp)
theorem trim_nil (l : List UInt8) : Lib.trimB l 0 = [] ↔ (l.all (· == 0)) = true := by
  unfold Lib.trimB Lib.trimLeftB Lib.trimRightB
  rw [List.all_eq_true]
  constructor
  · intro h x hx
    have h1 := dw_all h
    exact dw_self (p := (· == 0)) (l := l.reverse) (fun y hy => h1 y (by simpa using hy)) x (by simpa using hx)
  · intro h
    have h1 : l.reverse.dropWhile (· == 0) = [] := dw_nil (fun x hx => h x (by simpa using hx))
    rw [h1]
    rfl

theorem strs_blk {w : World} {g : Nat} {xs : List ByteArray} (h : Blk w g 9 (xs.map Value.string)) (hx : xs.length ≤ 1099511627776) : Strs w (some ⟨g, 0, none⟩) xs := by
  obtain ⟨A, c, hv, _, hC⟩ := own_strs (xs := xs) (h.owns (size := 1) (n := xs.length) (base := 0) (by simp) (by simp only [maxLen]; omega) (Nat.zero_le _)) rfl
  injection hv with h1 h2 h3
  rw [← h1] at hC
  exact hC

set_option maxHeartbeats 2000000 in
theorem name_any (c : List UInt8) (hl : c.length ≤ 1099511627776) (w : World) :
    Calls Tryd.prog 26 #[.string (bs c)] w fun e w' => e = .returned (.string (bs (nameL c))) ∧ Fr No w w' := by
  have hsz : (bs c).size = c.length := bs_size c
  have hcat : cat [bs c] = c := by simp [cat]
  have CT : Kp (∀ W, Calls Tryd.prog 34 #[.string (bs c), .string ⟨#[0]⟩] W fun e w' => e = .returned (.string (bs (Lib.trimB c 0))) ∧ Fr No W w') := ⟨fun W =>
    (Tryd.strings_Trim_one (bs c) 0 (by decide) W (by rw [hsz]; omega)).mono fun e w' ⟨h1, h2⟩ => ⟨h1, h2.elim (fun h => by rw [h]; exact Fr.refl _ _) (fun h => by rw [h]; exact (Fr.refl _ _).drew)⟩⟩
  by_cases hz : (c.all (· == 0)) = true
  · have hn : nameL c = [] := by unfold nameL; rw [if_pos hz]
    have ht := (trim_nil c).2 hz
    rw [hn]
    rw [ht] at CT
    clear hn ht hz hcat
    go_enter Tryd.func26, Tryd.ntmps26
    go_wp2_with (go_at_call 34; refine (CT.out _).mono ?_; rintro e w2 ⟨rfl, f2⟩)
    go_ret
    exact ⟨rfl, f2⟩
  · have hn : nameL c = sumL c := by unfold nameL; rw [if_neg hz]
    have ht : Lib.trimB c 0 ≠ [] := fun h => hz ((trim_nil c).1 h)
    have CS : Kp (∀ W g, Blk W g 9 [.string (bs c)] → Calls Tryd.prog 35 #[.slice (some ⟨g, 0, none⟩) 1 1] W fun e w' => e = .returned (.string (bs (sumL c))) ∧ Fr No W w') := ⟨fun W g hb => by
      have := sum_any (some ⟨g, 0, none⟩) 1 [bs c] W (strs_blk (by simpa using hb) (by simp)) (by simp) (by rw [hcat]; exact hl) (by simp)
      rw [hcat] at this
      exact this.mono fun e w' ⟨h1, h2⟩ => ⟨h1, Fr.of_below h2⟩⟩
    rw [hn]
    obtain ⟨T, hT⟩ : ∃ T, T = Lib.trimB c 0 := ⟨_, rfl⟩
    rw [← hT] at CT ht
    have ht2 : T.isEmpty = false := by cases T with | nil => exact absurd rfl ht | cons _ _ => rfl
    clear hn hz hcat hT
    go_enter Tryd.func26, Tryd.ntmps26
    go_wp2_with (first
      | (go_at_call 34; refine (CT.out _).mono ?_; rintro e w2 ⟨rfl, f2⟩)
      | ((with_reducible refine gate_dst (N := 7) rfl ?_); refine ev_lit rfl 9 [.string (bs c)] 1 (by first | (go_simp; done) | (go_simp; rfl)) ?_; intro g7 w3 hg7 f3 b7)
      | (go_at_call 35; refine (CS.out _ _ b7).mono ?_; rintro e w4 ⟨rfl, f4⟩))
    go_ret
    exact ⟨rfl, (f2.no f3).no f4⟩

/-- The first i chunks named, the others as they are. -/
def halfN (l : List UInt8) (i : Nat) : List (List UInt8) := (namesL l).take i ++ (cutL l).drop i
theorem namesL_len (l : List UInt8) : (namesL l).length = (cutL l).length := by simp [namesL]
theorem halfN_len (l : List UInt8) (i : Nat) (h : i ≤ (cutL l).length) : (halfN l i).length = (cutL l).length := by
  simp [halfN, namesL_len]; omega
theorem halfN_get (l : List UInt8) (i : Nat) (h : i < (cutL l).length) : (halfN l i)[i]? = some ((cutL l)[i]) := by
  have hl : ((namesL l).take i).length = i := by rw [List.length_take, namesL_len]; omega
  unfold halfN
  rw [List.getElem?_append_right (by omega), hl, Nat.sub_self, List.getElem?_drop, Nat.add_zero, List.getElem?_eq_getElem h]
theorem halfN_set (l : List UInt8) (i : Nat) (h : i < (cutL l).length) : (halfN l i).set i (nameL (cutL l)[i]) = halfN l (i + 1) := by
  have hl : ((namesL l).take i).length = i := by rw [List.length_take, namesL_len]; omega
  unfold halfN
  rw [List.set_append, if_neg (by omega), hl, Nat.sub_self, List.drop_eq_getElem_cons h, List.set_cons_zero, List.take_add_one, List.append_assoc]
  congr 1
  rw [namesL, List.getElem?_map, List.getElem?_eq_getElem h]
  rfl
theorem halfN_zero (l : List UInt8) : halfN l 0 = cutL l := by simp [halfN]
theorem halfN_all (l : List UInt8) : halfN l (cutL l).length = namesL l := by
  unfold halfN
  rw [List.take_of_length_le (by rw [namesL_len]; exact Nat.le_refl _), List.drop_of_length_le (Nat.le_refl _), List.append_nil]
abbrev vals (xs : List (List UInt8)) : List Value := xs.map fun c => .string (bs c)
theorem vals_get (xs : List (List UInt8)) (i : Nat) : (vals xs)[i]? = (xs[i]?).map fun c => .string (bs c) := by simp [vals]
theorem cut_size (l : List UInt8) (hl : l.length ≤ 1099511627776) (i : Nat) (h : i < (cutL l).length) : ((cutL l)[i]).length ≤ 16 := by
  have : (cutL l)[i] = pieceL 16 l i := by simp [cutL, cutZ]
  rw [this, pieceL_len]; omega

set_option maxHeartbeats 4000000 in
theorem names_any (l : List UInt8) (hl : l.length ≤ 1099511627776) (w : World) :
    Calls Tryd.prog 20 #[.string (bs l)] w fun e w' => ∃ v, e = .returned v ∧ w'.ownsRow w.heap.size 9 1 v (namesL l).length (vals (namesL l)) ∧ Fr No w w' := by
  have hsz : (bs l).size = l.length := bs_size l
  have HN : Kp ((namesL l).length = (cutL l).length) := ⟨namesL_len l⟩
  have hNb : (cutL l).length ≤ 1099511627776 := by rw [cutZ_len]; unfold cutN; omega
  have CC : Kp (∀ W, Calls Tryd.prog 18 #[.string (bs l)] W fun e W' => ∃ A c, e = .returned (.slice A (cutL l).length c) ∧ W'.ownsRow W.heap.size 9 1 (.slice A (cutL l).length c) (cutL l).length (vals (halfN l 0)) ∧ Fr No W W') := ⟨fun W => (cut_any l hl W).mono fun e W' ⟨v, he, ho, hb⟩ => by
    obtain ⟨A, c, rfl⟩ := own_slice ho
    exact ⟨A, c, he, by rw [halfN_zero]; exact ho, Fr.of_below hb⟩⟩
  rw [HN.out]
  obtain ⟨N, hN⟩ : ∃ N, N = (cutL l).length := ⟨_, rfl⟩
  rw [← hN] at CC hNb ⊢
  have HNN := Kp.mk hN
  clear hN
  go_enter Tryd.func20, Tryd.ntmps20
  go_wp2_with (go_at_call 18; refine (CC.out _).mono ?_; rintro e w1 ⟨A, c, rfl, ho, f1⟩)
  have HO := Kp.mk ho
  have F1 := Kp.mk f1
  clear ho f1
  go_loopg [10] N (fun kq v10 wr => ∃ i : Nat, i + kq = N ∧ v10 = .int .i64 i ∧ Kp (Fr No w wr) ∧ Kp (wr.ownsRow w.heap.size 9 1 (.slice A N c) N (vals (halfN l i))))
  case atStart => exact ⟨0, by omega, rfl, F1, HO⟩
  case round =>
    clear HO F1
    obtain ⟨i, hi, rfl, F, HO⟩ := hrel
    by_cases hiN : i < N
    · obtain ⟨g, rfl⟩ : ∃ g, A = some ⟨g, 0, none⟩ := by
        rcases HO.out.2 with ⟨h1, h2⟩ | ⟨g, cap, cur, h1, _⟩
        · injection h1 with h1 h3 h4
          omega
        · injection h1 with h1
          exact ⟨g, h1⟩
      have hiN' : i < (cutL l).length := by rw [← HNN.out]; exact hiN
      have hc : wr.cell? ⟨g, i, none⟩ = some (.string (bs (cutL l)[i])) := by
        rw [HO.out.cellAt i (by omega), vals_get, halfN_get l i hiN']; rfl
      have hgw : w.heap.size ≤ g := own_new_base HO.out g rfl
      have CN := Kp.mk (name_any ((cutL l)[i]) (by have := cut_size l hl i hiN'; omega))
      have HS : Kp ((halfN l i).set i (nameL (cutL l)[i]) = halfN l (i + 1)) := ⟨halfN_set l i hiN'⟩
      have HI := Kp.mk hi
      generalize (cutL l)[i] = C at hc CN HS
      generalize nameL C = M at CN HS
      clear hi hiN'
      go_wp2_with (go_at_call 26; refine (CN.out _).mono ?_; rintro e w3 ⟨rfl, f3⟩; have hc3 := Fr.cell hc f3 (fun h => h); have hf3 := (own_no HO.out f3).frozenAt i)
      go_roundg (gk - 1)
      case measure => have := HI.out; omega
      case rel =>
        have h5 := (own_no HO.out f3).stored i (.string (bs M))
        refine ⟨i + 1, by have := HI.out; omega, by go_num, ⟨(F.out.no f3).one (Fr.setCell w3 g i _) (.inr hgw)⟩, ⟨?_⟩⟩
        rw [← HS.out]
        simpa [vals, List.map_set] using h5.1
    · obtain rfl : i = N := by omega
      have hh : halfN l i = namesL l := by rw [HNN.out]; exact halfN_all l
      go_wp2_with fail
      go_ret
      exact ⟨_, rfl, by rw [← hh]; exact HO.out, F.out⟩
end Go.Proofs.YtaohfmmapammcaaDoor.Ch
