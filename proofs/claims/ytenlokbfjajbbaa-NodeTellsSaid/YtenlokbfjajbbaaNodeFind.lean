/- node.Find's closures, slices.IndexFunc at entries, node.Find. No conditions beside those written out. -/
import Derived.Test.YtenlokbfjajbbaaNodeDefs
import Derived.Test.YtenlokbfjajbbaaEv2
import Derived.Test.YtenlokbfjajbbaaProg
import Derived.Deep.LoopGhost
import Derived.Laws.Cover1
import Derived.Shelf.Abstract
set_option linter.unusedSimpArgs false
set_option linter.unusedVariables false
namespace Go.Proofs.Ytenlokbfjajbbaa.Nd
open Go Go.RowKit Go.Proofs.YtenlokbfjajbbaaW.PrintWords Go.Proofs.Ytenlokbfjajbbaa.Ev

/-- Ent as a value. -/
abbrev eV (e : Ent) : Value := .agg #[.string e.1, .int .i64 e.2]

set_option maxHeartbeats 1000000 in
theorem isNm_any (e : Ent) (g : Nat) (n : ByteArray) (W : World) (hc : W.cell? ⟨g, 0, none⟩ = some (.string n)) :
    Calls Try.prog 77 #[eV e, .pointer (some ⟨g, 0, none⟩)] W fun x w' => x = .returned (.bool (isNm n e)) ∧ Fr No W w' := by
  obtain ⟨e1, e2⟩ := e
  have cn : ∀ o, (W.alloc o).cell? ⟨g, 0, none⟩ = some (.string n) := fun o => Fr.cell hc (Fr.alloc W o) (fun h => h)
  clear hc
  go_enter Try.func77, Try.ntmps77
  go_wp2
  go_ret
  exact ⟨rfl, Fr.alloc _ _⟩
set_option maxHeartbeats 1000000 in
theorem isNm2_any (e : Ent) (g : Nat) (n : ByteArray) (W : World) (hc : W.cell? ⟨g, 0, none⟩ = some (.string n)) :
    Calls Try.prog 83 #[eV e, .pointer (some ⟨g, 0, none⟩)] W fun x w' => x = .returned (.bool (isNm n e)) ∧ Fr No W w' := by
  obtain ⟨e1, e2⟩ := e
  have cn : ∀ o, (W.alloc o).cell? ⟨g, 0, none⟩ = some (.string n) := fun o => Fr.cell hc (Fr.alloc W o) (fun h => h)
  clear hc
  go_enter Try.func83, Try.ntmps83
  go_wp2
  go_ret
  exact ⟨rfl, Fr.alloc _ _⟩
set_option maxHeartbeats 1000000 in
theorem geNm_any (e : Ent) (g : Nat) (n : ByteArray) (W : World) (hc : W.cell? ⟨g, 0, none⟩ = some (.string n)) :
    Calls Try.prog 79 #[eV e, .pointer (some ⟨g, 0, none⟩)] W fun x w' => x = .returned (.bool (geNm n e)) ∧ Fr No W w' := by
  obtain ⟨e1, e2⟩ := e
  have cn : ∀ o, (W.alloc o).cell? ⟨g, 0, none⟩ = some (.string n) := fun o => Fr.cell hc (Fr.alloc W o) (fun h => h)
  clear hc
  go_enter Try.func79, Try.ntmps79
  go_wp2
  go_ret
  exact ⟨rfl, Fr.alloc _ _⟩

theorem idx_hit {p : Ent → Bool} {es : List Ent} {i : Nat} (h0 : ∀ j, j < i → p (es.getD j default) = false) (hi : i < es.length) (h1 : p (es.getD i default) = true) : idx p es = i := by
  have : es.findIdx? p = some i := by
    rw [List.findIdx?_eq_some_iff_getElem]
    refine ⟨hi, by simpa [List.getD_eq_getElem?_getD, hi] using h1, fun j hj => ?_⟩
    have := h0 j hj
    have hjl : j < es.length := by omega
    simpa [List.getD_eq_getElem?_getD, hjl] using this
  simp [idx, this]
theorem idx_miss {p : Ent → Bool} {es : List Ent} (h0 : ∀ j, j < es.length → p (es.getD j default) = false) : idx p es = -1 := by
  have : es.findIdx? p = none := by
    rw [List.findIdx?_eq_none_iff]
    intro x hx
    obtain ⟨j, hj, rfl⟩ := List.getElem_of_mem hx
    simpa [List.getD_eq_getElem?_getD, hj] using h0 j hj
  simp [idx, this]

set_option maxHeartbeats 2000000 in
theorem index_any (p : Ent → Bool) (g : Nat) (cv : Value) (eg : ∀ args w, (callFunc g args).run Try.prog w = .ok (.enter g args) w) (v : Value) (es : List Ent) (w : World) (hs : EntS w v es)
    (hp : ∀ W e, Fr No w W → Calls Try.prog g #[eV e, cv] W fun x w' => x = .returned (.bool (p e)) ∧ Fr No W w') :
    Calls Try.prog 76 #[v, .func (.func g) #[] #[cv]] w fun e w' => e = .returned (.int .i64 (idx p es)) ∧ Fr No w w' := by
  obtain ⟨A, c, rfl, h1, h2, h3⟩ := hs.out
  have HP := Kp.mk hp
  have H3 := Kp.mk h3
  clear hp h3 hs
  have hsz : es.length ≤ 9223372036854775807 := by omega
  go_enter Try.func76, Try.ntmps76
  go_wp2
  go_loopg [5, 8] es.length (fun gg _ s8 wr => ∃ kk : Nat, kk ≤ es.length ∧ es.length - kk ≤ gg ∧ s8 = .int .i64 kk ∧ Kp (Fr No w wr) ∧ Kp (∀ j, j < kk → p (es.getD j default) = false))
  case atStart => exact ⟨0, Nat.zero_le _, by omega, rfl, ⟨Fr.refl _ _⟩, ⟨fun j hj => absurd hj (Nat.not_lt_zero _)⟩⟩
  case round =>
    obtain ⟨kk, hkk, hg, rfl, F, N⟩ := hrel
    by_cases hlt : kk < es.length
    · have hltz : (kk : Int) < (es.length : Int) := by omega
      obtain ⟨b, o, rfl, hb, hcc⟩ := H3.out (by omega)
      have l1 := Fr.cell (hcc kk hlt).1 F.out (fun h => h)
      have l2 := Fr.cell (hcc kk hlt).2 F.out (fun h => h)
      have hcall := HP.out wr (es.getD kk default) F.out
      clear hcc
      generalize hy : es.getD kk default = y at l1 l2 hcall
      have HY := Kp.mk hy
      clear hy
      obtain ⟨y1, y2⟩ := y
      cases hq : p (y1, y2) with
      | true =>
        rw [hq] at hcall
        have HQ := Kp.mk hq
        clear hq
        go_wp2_with fail
        refine hcall.mono ?_
        rintro e w' ⟨rfl, hb'⟩
        go_wp2
        go_ret
        refine ⟨?_, F.out.no hb'⟩
        rw [idx_hit N.out hlt (by rw [HY.out]; exact HQ.out)]
        rfl
      | false =>
        rw [hq] at hcall
        have HQ := Kp.mk hq
        clear hq
        go_wp2_with fail
        refine hcall.mono ?_
        rintro e w' ⟨rfl, hb'⟩
        go_wp2
        go_roundg (es.length - (kk + 1))
        case measure => omega
        case rel =>
          refine ⟨kk + 1, by omega, by omega, by go_num, ⟨F.out.no hb'⟩, ⟨fun j hj => ?_⟩⟩
          by_cases e : j = kk
          · subst e
            rw [HY.out]; exact HQ.out
          · exact N.out j (by omega)
    · have hltz : ¬ (kk : Int) < (es.length : Int) := by omega
      obtain rfl : kk = es.length := by omega
      go_wp2
      go_ret
      exact ⟨by rw [idx_miss N.out]; rfl, F.out⟩

theorem idx_find (N : Nd) (n : ByteArray) : (idx (isNm n) N.ents < 0 ∧ findN N n = (0, false)) ∨ ∃ i : Nat, idx (isNm n) N.ents = i ∧ i < N.ents.length ∧ findN N n = ((N.ents.getD i default).2, true) := by
  unfold idx findN
  cases h : N.ents.findIdx? (isNm n) with
  | none =>
    left
    refine ⟨by decide, ?_⟩
    have : N.ents.find? (isNm n) = none := by
      rw [List.find?_eq_none]
      rw [List.findIdx?_eq_none_iff] at h
      intro x hx
      simp [h x hx]
    rw [this]
  | some i =>
    right
    obtain ⟨hi, hp, hlt⟩ := List.findIdx?_eq_some_iff_getElem.1 h
    refine ⟨i, rfl, hi, ?_⟩
    have : N.ents.find? (isNm n) = some N.ents[i] := by
      rw [List.find?_eq_some_iff_getElem]
      exact ⟨hp, i, hi, rfl, fun j hj => by simpa using hlt j hj⟩
    rw [this]
    simp [List.getD_eq_getElem?_getD, hi]

set_option maxHeartbeats 2000000 in
set_option maxRecDepth 100000 in
theorem find_any (N : Nd) (v : Value) (n : ByteArray) (W : World) (hs : EntS W v N.ents) :
    Calls Try.prog 41 #[ndV N v, .string n] W fun e w' => e = .returned (.tuple #[.int .i64 (findN N n).1, .bool (findN N n).2]) ∧ Fr No W w' := by
  have HS := Kp.mk hs
  obtain ⟨A, c, rfl, h1, h2, h3⟩ := hs.out
  have hfi := idx_find N n
  clear hs
  obtain ⟨k, m, d, t, es⟩ := N
  rcases hfi with ⟨hx, hf⟩ | ⟨i, hx, hi, hf⟩
  · rw [hf]
    have HF := Kp.mk hf
    have HX := Kp.mk hx
    clear hf hx h3
    obtain ⟨x, hxe⟩ : ∃ x, x = idx (isNm n) es := ⟨_, rfl⟩
    have hx0 : x < 0 := by rw [hxe]; exact HX.out
    have HE := Kp.mk hxe
    clear hxe
    go_enter Try.func41, Try.ntmps41
    go_wp2_with (first
      | ((with_reducible refine gate_dst (N := 2) rfl ?_); refine ev_box rfl 56 _ rfl _ rfl [.int .i64 k, .int .i64 m, .string d, .string t, .slice A es.length c] rfl ?_; intro g2 w2 hg2 f2 b2)
      | ((with_reducible refine gate_dst (N := 3) rfl ?_); refine ev_box rfl 9 _ rfl _ rfl [.string n] rfl ?_; intro g3 w3 hg3 f3 b3; have c4 := (b2.no f3).at_ 4 rfl)
      | (go_at_call 76; refine (index_any (isNm n) 77 _ (fun _ _ => by go_simp) _ es _ (HS.out.no (f2.no f3)) (fun W e f => isNm_any e g3 n W ((b3.no f).at_ 0 rfl))).mono ?_; rintro e w4 ⟨rfl, f4⟩; rw [← HE.out]))
    go_ret2
    exact ⟨rfl, (f2.no f3).no f4⟩
  · rw [hf]
    have HF := Kp.mk hf
    have HX := Kp.mk hx
    obtain ⟨b, o, rfl, hb, hc⟩ := h3 (by have : i < es.length := hi; omega)
    have hc1 := (hc i hi).2
    obtain ⟨y, hy⟩ : ∃ y, y = (es.getD i default).2 := ⟨_, rfl⟩
    have e2 : (({ kind := k, mode := m, data := d, target := t, ents := es } : Nd).ents.getD i default).2 = y := hy.symm
    rw [e2]
    rw [← hy] at hc1
    have hii : (i : Int) < (es.length : Int) := by have : i < es.length := hi; omega
    have hi0 : (0 : Int) ≤ (i : Int) := by omega
    have hi2 : ¬ ((i : Int) < 0) := by omega
    clear hf hx h3 hc hy e2 hi
    go_enter Try.func41, Try.ntmps41
    go_wp2_with (first
      | ((with_reducible refine gate_dst (N := 2) rfl ?_); refine ev_box rfl 56 _ rfl _ rfl [.int .i64 k, .int .i64 m, .string d, .string t, .slice (some ⟨b, o, none⟩) es.length c] rfl ?_; intro g2 w2 hg2 f2 b2)
      | ((with_reducible refine gate_dst (N := 3) rfl ?_); refine ev_box rfl 9 _ rfl _ rfl [.string n] rfl ?_; intro g3 w3 hg3 f3 b3; have c4 := (b2.no f3).at_ 4 rfl)
      | (go_at_call 76; refine (index_any (isNm n) 77 _ (fun _ _ => by go_simp) _ es _ (HS.out.no (f2.no f3)) (fun W e f => isNm_any e g3 n W ((b3.no f).at_ 0 rfl))).mono ?_; rintro e w4 ⟨rfl, f4⟩; have c5 := Fr.cell c4 f4 (fun h => h); have c6 := Fr.cell hc1 ((f2.no f3).no f4) (fun h => h); rw [HX.out]))
    go_ret2
    exact ⟨rfl, (f2.no f3).no f4⟩
end Go.Proofs.Ytenlokbfjajbbaa.Nd
