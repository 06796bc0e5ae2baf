/- node.With. Conditions: the number of entries and the name's size are bounded, as written out. -/
import Derived.Test.YtenlokbfjajbbaaNodeWith
import Derived.Deep.RegionHeld3
import Derived.Test.YtenlokbfjajbbaaWLast
set_option linter.unusedSimpArgs false
set_option linter.unusedVariables false
namespace Go.Proofs.Ytenlokbfjajbbaa.Nd
open Go Go.RowKit Go.Proofs.YtenlokbfjajbbaaW.PrintWords Go.Proofs.YtenlokbfjajbbaaW.PrintLast Go.Proofs.Ytenlokbfjajbbaa.Ev Go.Proofs.Ytenlokbfjajbbaa.Reg

set_option maxHeartbeats 4000000 in
set_option maxRecDepth 100000 in
theorem with_kind (k m : Int) (d t n : ByteArray) (es : List Ent) (v : Value) (ino : Int) (W : World) (hs : EntS W v es) (hk : k ≠ 2) :
    Calls Try.prog 43 #[ndV ⟨k, m, d, t, es⟩ v, .string n, .int .i64 ino] W fun e w' => Gives W zeroN 10 e w' := by
  have HS := Kp.mk hs
  have hkb : (k != 2) = true := by rw [bne_iff_ne]; exact hk
  generalize hf : findN ⟨k, m, d, t, es⟩ n = fb
  obtain ⟨fi, fb⟩ := fb
  have HF := Kp.mk hf
  clear hs hf hk
  go_enter Try.func43, Try.ntmps43
  go_wp2_with (first
    | ((with_reducible refine gate_dst (N := 3) rfl ?_); refine ev_box rfl 56 _ rfl _ rfl (ndL k m d t v) rfl ?_; intro g3 w3 hg3 f3 b3)
    | ((with_reducible refine gate_dst (N := 4) rfl ?_); refine ev_box rfl 9 _ rfl _ rfl [.string n] rfl ?_; intro g4 w4 hg4 f4 b4)
    | ((with_reducible refine gate_dst (N := 6) rfl ?_); refine ev_alloc rfl 56 rfl _ (ndL 0 0 ⟨#[]⟩ ⟨#[]⟩ (.slice none 0 0)) zeroNd rfl ?_; intro g6 w6 hg6 f6 b6; have c4 := (b4.no f6).at_ 0 rfl)
    | ((with_reducible refine gate_dst (N := 12) rfl ?_); go_must (refine ev_load_row rfl 56 _ rfl g3 rfl 56 _ (b3.no (f4.no f6)) _ Try.underlying56 rfl sizeNd ?_))
    | (go_at_call 41; go_must (refine (find_any ⟨k, m, d, t, es⟩ v n _ (HS.out.no ((f3.no f4).no f6))).mono ?_); rintro e w7 ⟨rfl, f7⟩; rw [HF.out]; have q0 := (b3.no ((f4.no f6).no f7)).at_ 0 rfl; have c7 := (b4.no (f6.no f7)).at_ 0 rfl; have q4 := (b3.no ((f4.no f6).no f7)).at_ 4 rfl)
    | ((with_reducible refine gate_store (t := 56) (p := 6) rfl ?_); go_must (refine ev_store_row rfl 56 _ _ rfl g6 (ndL 0 0 ⟨#[]⟩ ⟨#[]⟩ (.slice none 0 0)).toArray rfl rfl 56 _ (b6.no f7) sizeNd rfl (ndL_one _ _ _ _ rfl) ?_); intro w9 f9 b9))
  refine bodyPost_ret (results_row_tmp rfl _ _ g6 _ _ _ rfl b9 Try.underlying56 rfl sizeNd) rfl ⟨_, rfl, EntS.nil _, ?_⟩
  exact ((((f3.no f4).no f6).no f7).one f9 (.inr (by have := (f3.no f4).size; omega)))

set_option maxHeartbeats 4000000 in
set_option maxRecDepth 100000 in
theorem with_bad (k m : Int) (d t n : ByteArray) (es : List Ent) (v : Value) (ino : Int) (W : World) (hs : EntS W v es) (hk : k = 2) (hz : n.size < 4294967281) (fi : Int) (fb rb : Bool) (hf : findN ⟨k, m, d, t, es⟩ n = (fi, fb)) (hr : nameB n = rb) (code : Int)
    (hl : es.length ≤ 1099511627776) (hc : (rb = false ∧ code = 14) ∨ (rb = true ∧ fb = true ∧ code = 5) ∨ (rb = true ∧ fb = false ∧ 64 ≤ es.length ∧ code = 3)) :
    Calls Try.prog 43 #[ndV ⟨k, m, d, t, es⟩ v, .string n, .int .i64 ino] W fun e w' => Gives W zeroN code e w' := by
  obtain ⟨A, c, hv, _⟩ := hs.out
  subst hv
  obtain ⟨v, hvv⟩ : ∃ v, v = Value.slice A es.length c := ⟨_, rfl⟩
  have HS := Kp.mk hs
  have hkb : (k != 2) = false := by rw [hk]; rfl
  have HF := Kp.mk hf
  have HR := Kp.mk hr
  have HZ := Kp.mk hz
  clear hs hf hk hr hz hvv v
  rcases hc with ⟨rfl, rfl⟩ | ⟨rfl, rfl, rfl⟩ | ⟨rfl, rfl, hle, rfl⟩
  all_goals
    obtain ⟨v, hvv⟩ : ∃ v, v = Value.slice A es.length c := ⟨_, rfl⟩
    go_enter Try.func43, Try.ntmps43
    go_wp2_with (first
      | ((with_reducible refine gate_dst (N := 3) rfl ?_); refine ev_box rfl 56 _ rfl _ rfl (ndL k m d t (.slice A es.length c)) rfl ?_; intro g3 w3 hg3 f3 b3)
      | ((with_reducible refine gate_dst (N := 4) rfl ?_); refine ev_box rfl 9 _ rfl _ rfl [.string n] rfl ?_; intro g4 w4 hg4 f4 b4)
      | ((with_reducible refine gate_dst (N := 6) rfl ?_); refine ev_alloc rfl 56 rfl _ (ndL 0 0 ⟨#[]⟩ ⟨#[]⟩ (.slice none 0 0)) zeroNd rfl ?_; intro g6 w6 hg6 f6 b6; have c4 := (b4.no f6).at_ 0 rfl)
      | ((with_reducible refine gate_dst (N := 12) rfl ?_); go_must (refine ev_load_row rfl 56 _ rfl g3 rfl 56 _ (b3.no (f4.no f6)) _ Try.underlying56 rfl sizeNd ?_))
      | (go_at_call 41; go_must (refine (find_any ⟨k, m, d, t, es⟩ (.slice A es.length c) n _ (HS.out.no ((f3.no f4).no f6))).mono ?_); rintro e w7 ⟨rfl, f7⟩; rw [HF.out]; have q0 := (b3.no ((f4.no f6).no f7)).at_ 0 rfl; have c7 := (b4.no (f6.no f7)).at_ 0 rfl; have q4 := (b3.no ((f4.no f6).no f7)).at_ 4 rfl)
      | (go_at_call 78; go_must (refine (name_any n _ HZ.out).mono ?_); rintro e w8 ⟨rfl, f8⟩; rw [HR.out]; have q8 := (b3.no (((f4.no f6).no f7).no f8)).at_ 4 rfl; have c8 := (b4.no ((f6.no f7).no f8)).at_ 0 rfl)
      | ((with_reducible refine gate_store (t := 56) (p := 6) rfl ?_); go_must (refine ev_store_row rfl 56 _ _ rfl g6 (ndL 0 0 ⟨#[]⟩ ⟨#[]⟩ (.slice none 0 0)).toArray rfl rfl 56 _ ((b6.no f7).no f8) sizeNd rfl (ndL_one _ _ _ _ rfl) ?_); intro w9 f9 b9))
    refine bodyPost_ret (results_row_tmp rfl _ _ g6 _ _ _ rfl b9 Try.underlying56 rfl sizeNd) rfl ⟨_, rfl, EntS.nil _, ?_⟩
    exact (((((f3.no f4).no f6).no f7).no f8).one f9 (.inr (by have := (f3.no f4).size; omega)))

theorem Blk.drew {w : World} {g : Nat} {t : TypeId} {cs : List Value} (h : Blk w g t cs) : Blk w.drew g t cs := ⟨h.out⟩
theorem put_ins : ∀ (es : List Ent) (x : Ent), putE es x = insE es (es.takeWhile (fun y => !(geNm x.1 y))).length x
  | [], x => rfl
  | e :: es, x => by
    have ih := put_ins es x
    simp only [putE, insE] at ih ⊢
    cases hq : geNm x.1 e with
    | true => simp [hq]
    | false =>
      simp only [List.takeWhile_cons, List.dropWhile_cons, hq, Bool.not_false, if_true, List.length_cons, List.take_succ_cons, List.drop_succ_cons, List.cons_append]
      rw [ih]
theorem idx_ge (n : ByteArray) (es : List Ent) : (idx (geNm n) es < 0 ∧ (es.takeWhile (fun y => !(geNm n y))).length = es.length) ∨ (idx (geNm n) es = ((es.takeWhile (fun y => !(geNm n y))).length : Int) ∧ (es.takeWhile (fun y => !(geNm n y))).length < es.length) := by
  induction es with
  | nil => left; exact ⟨by show (-1 : Int) < 0; decide, rfl⟩
  | cons e es ih =>
    unfold idx at ih ⊢
    rw [List.findIdx?_cons]
    cases hq : geNm n e with
    | true => right; simp [hq]
    | false =>
      cases hf : es.findIdx? (geNm n) with
      | none =>
        rw [hf] at ih
        left
        rcases ih with ih | ih
        · exact ⟨by simp, by simp [hq, ih.2]⟩
        · have := ih.1
          simp only at this
          omega
      | some j =>
        rw [hf] at ih
        right
        rcases ih with ih | ih
        · have := ih.1
          simp only at this
          omega
        · have h1 := ih.1
          have h2 := ih.2
          simp only at h1
          simp only [hq, List.takeWhile_cons, Bool.not_false, if_true, List.length_cons, Bool.false_eq_true, if_false, Option.map_some]
          omega

set_option maxHeartbeats 8000000 in
set_option maxRecDepth 100000 in
theorem with_good (k m : Int) (d t n : ByteArray) (es : List Ent) (v : Value) (ino : Int) (W : World) (hs : EntS W v es) (hk : k = 2) (hz : n.size < 4294967281) (fi : Int) (hf : findN ⟨k, m, d, t, es⟩ n = (fi, false)) (hr : nameB n = true) (hl : es.length < 64) :
    Calls Try.prog 43 #[ndV ⟨k, m, d, t, es⟩ v, .string n, .int .i64 ino] W fun e w' => Gives W ⟨k, m, d, t, putE es (n, ino)⟩ 0 e w' := by
  obtain ⟨A, c, hv, _⟩ := hs.out
  subst hv
  have HS := Kp.mk hs
  have hkb : (k != 2) = false := by rw [hk]; rfl
  have HF := Kp.mk hf
  have HR := Kp.mk hr
  have HZ := Kp.mk hz
  rw [put_ins]
  have hix := idx_ge n es
  generalize hi : (es.takeWhile (fun y => !(geNm n y))).length = i at hix
  clear hs hf hk hr hz hi
  generalize hxe : idx (geNm n) es = x at hix
  have HX := Kp.mk hxe
  clear hxe
  rcases hix with ⟨hx0, rfl⟩ | ⟨rfl, hil⟩
  all_goals
    go_enter Try.func43, Try.ntmps43
    go_upto_region 13 with (first
      | ((with_reducible refine gate_dst (N := 3) rfl ?_); refine ev_box rfl 56 _ rfl _ rfl (ndL k m d t (.slice A es.length c)) rfl ?_; intro g3 w3 hg3 f3 b3)
      | ((with_reducible refine gate_dst (N := 4) rfl ?_); refine ev_box rfl 9 _ rfl _ rfl [.string n] rfl ?_; intro g4 w4 hg4 f4 b4)
      | ((with_reducible refine gate_dst (N := 6) rfl ?_); refine ev_alloc rfl 56 rfl _ (ndL 0 0 ⟨#[]⟩ ⟨#[]⟩ (.slice none 0 0)) zeroNd rfl ?_; intro g6 w6 hg6 f6 b6; have c4 := (b4.no f6).at_ 0 rfl)
      | ((with_reducible refine gate_dst (N := 12) rfl ?_); go_must (refine ev_load_row rfl 56 _ rfl g3 rfl 56 _ (b3.no (f4.no f6)) _ Try.underlying56 rfl sizeNd ?_))
      | (go_at_call 41; go_must (refine (find_any ⟨k, m, d, t, es⟩ (.slice A es.length c) n _ (HS.out.no ((f3.no f4).no f6))).mono ?_); rintro e w7 ⟨rfl, f7⟩; rw [HF.out]; have q0 := (b3.no ((f4.no f6).no f7)).at_ 0 rfl; have c7 := (b4.no (f6.no f7)).at_ 0 rfl; have q4 := (b3.no ((f4.no f6).no f7)).at_ 4 rfl)
      | (go_at_call 78; go_must (refine (name_any n _ HZ.out).mono ?_); rintro e w8 ⟨rfl, f8⟩; rw [HR.out]; have q8 := (b3.no (((f4.no f6).no f7).no f8)).at_ 4 rfl; have c8 := (b4.no ((f6.no f7).no f8)).at_ 0 rfl)
      | (go_at_call 76; go_must (refine (index_any (geNm n) 79 _ (fun _ _ => by go_simp) (.slice A es.length c) es _ (HS.out.no ((((f3.no f4).no f6).no f7).no f8)) (fun W e f => geNm_any e g4 n W ((b4.no (((f6.no f7).no f8).no f)).at_ 0 rfl))).mono ?_); rintro e w9 ⟨rfl, f9⟩; rw [HX.out]; have q9 := (b3.no ((((f4.no f6).no f7).no f8).no f9)).at_ 4 rfl; have c9 := (b4.no (((f6.no f7).no f8).no f9)).at_ 0 rfl))
    have HE := Kp.mk (HS.out.no (((((f3.no f4).no f6).no f7).no f8).no f9))
    have l3 : g3 < w9.heap.size := (b3.no (((((f4.no f6).no f7).no f8).no f9))).lt
    have l4 : g4 < w9.heap.size := (b4.no ((((f6.no f7).no f8).no f9))).lt
    have B3 := b3.no (((((f4.no f6).no f7).no f8).no f9))
    refine start_ (n := 11) (S := fun w' => w'.cell? ⟨g3, 4, none⟩ = some (.slice A es.length c) ∧ w'.cell? ⟨g4, 0, none⟩ = some (.string n)) (ds := [10]) #[false, false, false, false, false, false, false, false, false, false, false] (by kernel_rfl) rfl rfl ⟨q9, c9⟩ (fun hHeld => ?_)
    refine pure_ (i := 0) (N := some 45) (v := ?_) (a' := ?_) #[true, false, false, false, false, false, false, false, false, false, false] rfl rfl (by kernel_rfl) (fun _ _ _ h => h) (Or.inl ⟨by rfl, ?_⟩) ?_ ?_
    rotate_left
    · intro w'
      go_simp
      with_reducible rfl
    rotate_left
    · simp only [Act.put, List.setIfInBounds_toArray, List.set_cons_zero, List.set_cons_succ]
      rfl
    refine pure_ (i := 3) (N := some 48) (v := ?_) (a' := ?_) #[true, false, false, true, false, false, false, false, false, false, false] rfl rfl (by kernel_rfl) (fun _ _ _ h => h) (Or.inl ⟨by rfl, ?_⟩) ?_ ?_
    rotate_left
    · intro w'
      go_simp
      with_reducible rfl
    rotate_left
    · simp only [Act.put, List.setIfInBounds_toArray, List.set_cons_zero, List.set_cons_succ]
      rfl
    refine pure_ (i := 5) (N := some 50) (v := ?_) (a' := ?_) #[true, false, false, true, false, true, false, false, false, false, false] rfl rfl (by kernel_rfl) (fun _ _ _ h => h) (Or.inl ⟨by rfl, ?_⟩) ?_ ?_
    rotate_left
    · intro w'
      go_simp
      with_reducible rfl
    rotate_left
    · simp only [Act.put, List.setIfInBounds_toArray, List.set_cons_zero, List.set_cons_succ]
      rfl
    refine take_ (i := 1) (N := some 46) (v := ?_) (a' := ?_) #[true, true, false, true, false, true, false, false, false, false, false] rfl rfl (by kernel_rfl) (fun _ _ _ h => h) (Or.inl ⟨by rfl, ?_⟩) hHeld ?_ ?_
    rotate_left
    · rintro w' ⟨s0, s1⟩
      go_simp
      with_reducible rfl
    rotate_left
    · simp only [Act.put, List.setIfInBounds_toArray, List.set_cons_zero, List.set_cons_succ]
      rfl
    refine take_ (i := 4) (N := some 49) (v := ?_) (a' := ?_) #[true, true, false, true, true, true, false, false, false, false, false] rfl rfl (by kernel_rfl) (fun _ _ _ h => h) (Or.inl ⟨by rfl, ?_⟩) hHeld ?_ ?_
    rotate_left
    · rintro w' ⟨s0, s1⟩
      go_simp
      with_reducible rfl
    rotate_left
    · simp only [Act.put, List.setIfInBounds_toArray, List.set_cons_zero, List.set_cons_succ]
      rfl
    refine pure_ (i := 6) (N := some 51) (v := ?_) (a' := ?_) #[true, true, false, true, true, true, true, false, false, false, false] rfl rfl (by kernel_rfl) (fun _ _ _ h => h) (Or.inl ⟨by rfl, ?_⟩) ?_ ?_
    rotate_left
    · intro w'
      go_simp
      with_reducible rfl
    rotate_left
    · simp only [Act.put, List.setIfInBounds_toArray, List.set_cons_zero, List.set_cons_succ]
      rfl
    refine join_ (σ := Value × Nat) 3 #[true, true, true, true, true, true, true, true, false, false, false] (fun s => [(47, s.1), (52, .slice (some ⟨s.2, 0, none⟩) 1 1)]) (fun s w' => (w'.cell? ⟨g3, 4, none⟩ = some (.slice A es.length c) ∧ w'.cell? ⟨g4, 0, none⟩ = some (.string n)) ∧ w'.ownsRow w9.heap.size 75 2 s.1 es.length (entsV es) ∧ Blk w' s.2 75 (entV (n, ino)) ∧ s.1.ownBlock ≠ some s.2 ∧ Fr No w9 w') ?_ ?_
    rotate_left
    · intro hCont
      refine two_ (i := 2) (j := 7) (Ni := some 47) (Nj := some 52) #[true, true, true, true, true, true, true, false, false, false, false] #[true, true, false, true, true, true, true, true, false, false, false] rfl rfl rfl rfl (by kernel_rfl) (by decide) (by decide) (fun K hK => ?_) (fun K hK => ?_)
      · skip
        refine goes_ Try.func81 (by kernel_rfl) rfl #[.slice A es.length c] (by rfl) rfl rfl (by simp only [List.map_toArray, List.map_cons, List.map_nil]; rfl) ?_
        with_reducible refine (clone_any (.slice A es.length c) es _ (HE.out.no ((Fr.refl No w9).drew)) (by omega)).mono ?_
        rintro e wc ⟨vc, rfl, oc, fC⟩
        refine ⟨_, rfl, ?_⟩
        refine hK.out _ _ ⟨Fr.cell (w := w9.drew) q9 fC (fun h => h), Fr.cell (w := w9.drew) c9 fC (fun h => h)⟩ (fun hHeld => ?_)
        clear hK K
        refine norm_ (a' := ?_) ?_ ?_
        rotate_left
        · show Act.put _ (some 47) _ = _
          simp only [Act.put, List.setIfInBounds_toArray, List.set_cons_zero, List.set_cons_succ]
          rfl
        refine one_ (i := 7) (N := some 52) #[true, true, true, true, true, true, true, true, false, false, false] rfl rfl (by kernel_rfl) (by decide) (fun K hK => ?_)
        refine value_ (w1 := ?_) (v := ?_) (by rfl) rfl ?_ ?_
        rotate_left 2
        · go_simp
          constructor
          · rfl
          · rfl
        refine hK.out _ _ ⟨Fr.cell hHeld.1 (Fr.alloc _ _) (fun h => h), Fr.cell hHeld.2 (Fr.alloc _ _) (fun h => h)⟩ (fun hHeld => ?_)
        clear hK K
        refine norm_ ?_ (hCont (vc, wc.heap.size) _ ⟨hHeld, own_no oc (Fr.alloc _ _), Blk.new wc 75 (entV (n, ino)), ?_, ((Fr.refl No w9).drew.no fC).no (Fr.alloc _ _)⟩)
        · simp only [putAll, Act.put, List.setIfInBounds_toArray, List.set_cons_zero, List.set_cons_succ]
        · intro hh
          obtain ⟨cs, hcs⟩ := own_typed oc _ hh
          have h2 := (Array.getElem?_eq_some_iff.1 hcs).1
          omega
      · skip
        refine value_ (w1 := ?_) (v := ?_) (by rfl) rfl ?_ ?_
        rotate_left 2
        · go_simp
          constructor
          · rfl
          · rfl
        refine hK.out _ _ ⟨Fr.cell q9 ((Fr.alloc w9 _).drew) (fun h => h), Fr.cell c9 ((Fr.alloc w9 _).drew) (fun h => h)⟩ (fun hHeld => ?_)
        clear hK K
        refine norm_ (a' := ?_) ?_ ?_
        rotate_left
        · show Act.put _ (some 52) _ = _
          simp only [Act.put, List.setIfInBounds_toArray, List.set_cons_zero, List.set_cons_succ]
          rfl
        refine one_ (i := 2) (N := some 47) #[true, true, true, true, true, true, true, true, false, false, false] rfl rfl (by kernel_rfl) (by decide) (fun K hK => ?_)
        refine goes_ Try.func81 (by kernel_rfl) rfl #[.slice A es.length c] (by rfl) rfl rfl (by simp only [List.map_toArray, List.map_cons, List.map_nil]; rfl) ?_
        with_reducible refine (clone_any (.slice A es.length c) es _ (HE.out.no ((Fr.alloc w9 _).drew)) (by omega)).mono ?_
        rintro e wc ⟨vc, rfl, oc, fC⟩
        refine ⟨_, rfl, ?_⟩
        refine hK.out _ _ ⟨Fr.cell hHeld.1 fC (fun h => h), Fr.cell hHeld.2 fC (fun h => h)⟩ (fun hHeld => ?_)
        clear hK K
        refine norm_ ?_ (hCont (vc, w9.heap.size) _ ⟨hHeld, own_le oc (by simp), (Blk.drew (Blk.new w9 75 (entV (n, ino)))).no fC, ?_, ((Fr.alloc w9 _).drew).no fC⟩)
        · simp only [putAll, Act.put, List.setIfInBounds_toArray, List.set_cons_zero, List.set_cons_succ]
        · intro hh
          have h1 := own_new_base oc _ hh
          have h2 : ((w9.alloc (.cells #[Value.string n, Value.int .i64 ino] 75)).drew).heap.size = w9.heap.size + 1 := by simp
          omega
    rintro ⟨vc, gv⟩ wd ⟨hHeld, od, bd, hne, fD⟩
    simp only at od bd hne
    refine norm_ (a' := ?_) ?_ ?_
    rotate_left
    · simp only [putAll, Act.put, List.setIfInBounds_toArray, List.set_cons_zero, List.set_cons_succ]
      rfl
    refine one_ (i := 8) (N := some 53) #[true, true, true, true, true, true, true, true, true, false, false] rfl rfl (by kernel_rfl) (by decide) (fun K hK => ?_)
    refine goes_ Try.func80 (by kernel_rfl) rfl #[vc, .int .i64 _, .slice (some ⟨gv, 0, none⟩) 1 1] (by rfl) rfl rfl (by simp only [List.map_toArray, List.map_cons, List.map_nil]; rfl) ?_
    with_reducible refine (insert_any w9.heap.size es.length _ gv vc es (n, ino) _ od fD.size rfl (by omega) bd hne (by omega)).mono ?_
    rintro e wI ⟨vI, rfl, eI, iI, fI⟩
    refine ⟨_, rfl, ?_⟩
    refine hK.out _ _ ⟨Fr.cell hHeld.1 fI (fun h => by have h : w9.heap.size ≤ g3 := h; omega), Fr.cell hHeld.2 fI (fun h => by have h : w9.heap.size ≤ g4 := h; omega)⟩ (fun hHeld => ?_)
    clear hK K
    refine norm_ (a' := ?_) ?_ ?_
    rotate_left
    · show Act.put _ (some 53) _ = _
      simp only [Act.put, List.setIfInBounds_toArray, List.set_cons_zero, List.set_cons_succ]
      rfl
    refine pure_ (i := 9) (N := some 54) (v := ?_) (a' := ?_) #[true, true, true, true, true, true, true, true, true, true, false] rfl rfl (by kernel_rfl) (fun _ _ _ h => h) (Or.inl ⟨by rfl, ?_⟩) ?_ ?_
    rotate_left
    · intro w'
      go_simp
      with_reducible rfl
    rotate_left
    · simp only [Act.put, List.setIfInBounds_toArray, List.set_cons_zero, List.set_cons_succ]
      rfl
    refine last_ (i := 10) (N := none) #[true, true, true, true, true, true, true, true, true, true, true] rfl rfl (by kernel_rfl) (by decide) (fun K hK => ?_)
    have BI := (B3.no fD).keep fI (fun h => by have h : w9.heap.size ≤ g3 := h; omega)
    refine step_store rfl 54 _ _ rfl g3 4 vI rfl rfl eI.one 56 _ BI (by simp) sizeEs ?_
    intro wS fS bS
    refine hK.out _ _ ?_
    clear hK K
    refine done_ (by kernel_rfl) ?_
    have B6 := b6.no (((f7.no f8).no f9).no fD)
    have l6 : g6 < w9.heap.size := (b6.no (((f7.no f8).no f9))).lt
    have B6' := (B6.keep fI (fun h => by have h : w9.heap.size ≤ g6 := h; omega)).one fS (by have := b3.lt; have := f4.size; omega)
    have h36 : g6 ≠ g3 := by have := b3.lt; have := f4.size; omega
    have eS := eI.kept fS iI (fun b hb hh => by have h1 : w9.heap.size ≤ b := hb; have h2 : b = g3 := hh; omega)
    have FS : Fr No W wS := by
      have h1 : Fr No W wd := (((((f3.no f4).no f6).no f7).no f8).no f9).no fD
      have h2 : Fr No W wI := h1.trans fI (fun b hb => .inr (by have h3 : w9.heap.size ≤ b := hb; have := (((((f3.no f4).no f6).no f7).no f8).no f9).size; omega))
      exact h2.one fS (.inr hg3)
    have FSK := Kp.mk FS
    have EK := Kp.mk eS
    clear hHeld bd od hne eI fI BI q0 q4 c4 c7 q8 c8 q9 c9 fD FS eS
    go_wp2_with (first
      | ((with_reducible refine gate_dst (N := 55) rfl ?_); go_must (refine ev_load_row rfl 56 _ rfl g3 rfl 56 _ bS _ Try.underlying56 rfl sizeNd ?_))
      | ((with_reducible refine gate_store (t := 56) (p := 6) rfl ?_); go_must (refine ev_store_row rfl 56 _ _ rfl g6 (ndL k m d t vI).toArray rfl rfl 56 _ B6' sizeNd rfl (ndL_one k m d t EK.out.one) ?_); intro wT fT bT))
    refine bodyPost_ret (results_row_tmp rfl _ _ g6 _ _ _ rfl bT Try.underlying56 rfl sizeNd) rfl ⟨vI, rfl, ?_, ?_⟩
    · exact EK.out.kept fT iI (fun b hb hh => by have h1 : w9.heap.size ≤ b := hb; have h2 : b = g6 := hh; omega)
    · exact FSK.out.one fT (.inr (by have := f3.size; have := f4.size; omega))
end Go.Proofs.Ytenlokbfjajbbaa.Nd
