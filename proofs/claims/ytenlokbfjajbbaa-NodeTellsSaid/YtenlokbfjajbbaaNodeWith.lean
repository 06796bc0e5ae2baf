/- node.With and node.Without. Conditions: the number of entries and the name's size are bounded, as written out. -/
import Derived.Test.YtenlokbfjajbbaaNodeIns
import Derived.Test.YtenlokbfjajbbaaNodeFind
import Derived.Test.YtenlokbfjajbbaaNodeName
set_option linter.unusedSimpArgs false
set_option linter.unusedVariables false
namespace Go.Proofs.Ytenlokbfjajbbaa.Nd
open Go Go.RowKit Go.Proofs.YtenlokbfjajbbaaW.PrintWords Go.Proofs.Ytenlokbfjajbbaa.Ev Go.Proofs.Ytenlokbfjajbbaa.Reg

/-- A node's cells. -/
abbrev ndL (k m : Int) (d t : ByteArray) (v : Value) : List Value := [.int .i64 k, .int .i64 m, .string d, .string t, v]
theorem ndL_one (k m : Int) (d t : ByteArray) {v : Value} (h : v.oneCell' = true) : (ndL k m d t v).toArray.all (·.oneCell') = true := by
  show (ndL k m d t v).toArray.all (fun x => x.oneCell') = true
  simp only [List.all_toArray, List.all_cons, List.all_nil, h]
  rfl
theorem zeroNd : (Try.prog.info? 56).bind (·.zero) = some (.agg (ndL 0 0 ⟨#[]⟩ ⟨#[]⟩ (.slice none 0 0)).toArray) := by kernel_rfl
theorem sizeNd : (Try.prog.info? 56).map (·.size) = some 5 := by kernel_rfl
theorem sizeEs : (Try.prog.info? 54).map (·.size) = some 1 := by kernel_rfl

/-- The node is returned with an error's number. -/
def Gives (W : World) (N : Nd) (c : Int) (e : Ending) (w' : World) : Prop := ∃ v, e = .returned (.tuple #[ndV N v, .int .i64 c]) ∧ EntS w' v N.ents ∧ Fr No W w'

theorem find_same (es : List Ent) (i : Nat) (p : Ent → Bool) (h : es.findIdx? p = some i) : es.eraseP p = es.eraseIdx i := by
  induction es generalizing i with
  | nil => simp at h
  | cons x xs ih =>
    rw [List.findIdx?_cons] at h
    cases hp : p x with
    | true =>
      simp [hp] at h
      subst h
      simp [List.eraseP_cons_of_pos hp]
    | false =>
      simp [hp] at h
      obtain ⟨j, hj, rfl⟩ := h
      rw [List.eraseP_cons_of_neg (by simp [hp]), List.eraseIdx_cons_succ, ih j hj]

set_option maxHeartbeats 4000000 in
set_option maxRecDepth 100000 in
theorem without_any (N : Nd) (v : Value) (n : ByteArray) (W : World) (hs : EntS W v N.ents) (hm : N.ents.length ≤ 1099511627776) :
    Calls Try.prog 45 #[ndV N v, .string n] W fun e w' => Gives W (withoutN N n).1 (withoutN N n).2 e w' := by
  have HS := Kp.mk hs
  obtain ⟨k, m, d, t, es⟩ := N
  by_cases hk : k = 2
  · have hkb : (k != 2) = false := by rw [hk]; rfl
    rcases idx_find ⟨k, m, d, t, es⟩ n with ⟨hx, hf⟩ | ⟨i, hx, hi, hf⟩
    · have hfin : withoutN ⟨k, m, d, t, es⟩ n = (zeroN, 4) := by
        simp only [withoutN, hf]
        simp [hk]
      rw [hfin]
      simp only at hx
      generalize hix : idx (isNm n) es = ix at hx
      have HX := Kp.mk hix
      clear hfin hs hix hf hk
      go_enter Try.func45, Try.ntmps45
      go_wp2_with (first | ((with_reducible refine gate_dst (N := 2) rfl ?_); refine ev_box rfl 56 _ rfl _ rfl (ndL k m d t v) rfl ?_; intro g2 w2 hg2 f2 b2) | ((with_reducible refine gate_dst (N := 3) rfl ?_); refine ev_box rfl 9 _ rfl _ rfl [.string n] rfl ?_; intro g3 w3 hg3 f3 b3) | ((with_reducible refine gate_dst (N := 4) rfl ?_); refine ev_alloc rfl 56 rfl _ (ndL 0 0 ⟨#[]⟩ ⟨#[]⟩ (.slice none 0 0)) zeroNd rfl ?_; intro g4 w4 hg4 f4 b4; have q4 := (b2.no (f3.no f4)).at_ 4 rfl) | ((with_reducible refine gate_store (t := 56) (p := 4) rfl ?_); refine ev_store_row rfl 56 _ _ rfl g4 (ndL 0 0 ⟨#[]⟩ ⟨#[]⟩ (.slice none 0 0)).toArray rfl rfl 56 _ (b4.no f5) sizeNd rfl (by simp [Value.oneCell']) ?_; intro w6 f6 b6) | (go_at_call 76; refine (index_any (isNm n) 83 _ (fun _ _ => by go_simp) v es _ (HS.out.no ((f2.no f3).no f4)) (fun W e f => isNm2_any e g3 n W (((b3.no f4).no f).at_ 0 rfl))).mono ?_; rintro e w5 ⟨rfl, f5⟩; rw [HX.out]; have q0 := (b2.no ((f3.no f4).no f5)).at_ 0 rfl; have q5 := (b2.no ((f3.no f4).no f5)).at_ 4 rfl))
      refine bodyPost_ret (results_row_tmp rfl _ _ g4 _ _ _ rfl b6 Try.underlying56 rfl sizeNd) rfl ⟨_, rfl, EntS.nil _, ?_⟩
      exact ((((f2.no f3).no f4).no f5).one f6 (.inr (by have := (f2.no f3).size; omega)))
    · have hfi : (isNm n) = isNm n := rfl
      have hix : es.findIdx? (isNm n) = some i := by
        have h0 : idx (isNm n) es = i := hx
        unfold idx at h0
        split at h0
        · rename_i j hj
          rw [hj]
          congr 1
          omega
        · omega
      have hfin : withoutN ⟨k, m, d, t, es⟩ n = (⟨k, m, d, t, es.eraseIdx i⟩, 0) := by
        simp only [withoutN, hf]
        simp [find_same es i (isNm n) hix, hk]
      rw [hfin]
      have HX : Kp (idx (isNm n) es = (i : Int)) := ⟨hx⟩
      obtain ⟨n1, hn1⟩ : ∃ n1, es.length = n1 + 1 := ⟨es.length - 1, by have : i < es.length := hi; omega⟩
      have hi1 : i ≤ n1 := by have : i < es.length := hi; omega
      have hi0 : ¬ (i : Int) < 0 := by omega
      have hi9 : (i : Int) ≤ 1099511627776 := by have : es.length ≤ 1099511627776 := hm; omega
      have HN := Kp.mk hn1
      have HM := Kp.mk hm
      clear hfin hs hix hf hx hfi hi hn1 hm hk
      go_enter Try.func45, Try.ntmps45
      go_wp2_with (first
        | ((with_reducible refine gate_dst (N := 2) rfl ?_); refine ev_box rfl 56 _ rfl _ rfl (ndL k m d t v) rfl ?_; intro g2 w2 hg2 f2 b2)
        | ((with_reducible refine gate_dst (N := 3) rfl ?_); refine ev_box rfl 9 _ rfl _ rfl [.string n] rfl ?_; intro g3 w3 hg3 f3 b3)
        | ((with_reducible refine gate_dst (N := 4) rfl ?_); refine ev_alloc rfl 56 rfl _ (ndL 0 0 ⟨#[]⟩ ⟨#[]⟩ (.slice none 0 0)) zeroNd rfl ?_; intro g4 w4 hg4 f4 b4; have q4 := (b2.no (f3.no f4)).at_ 4 rfl)
        | ((with_reducible refine gate_store (t := 54) (p := 27) rfl ?_); go_must (refine ev_store rfl 54 _ _ rfl g2 4 v8 rfl rfl e8.one 56 _ (((b2.no ((f3.no f4).no f5)).no f7).keep f8n (by have := (b2.no ((f3.no f4).no f5)).lt; omega)) (by simp) sizeEs ?_); intro w9 f9 b9)
        | ((with_reducible refine gate_dst (N := 28) rfl ?_); go_must (refine ev_load_row rfl 56 _ rfl g2 rfl 56 _ b9 _ Try.underlying56 rfl sizeNd ?_))
        | ((with_reducible refine gate_store (t := 56) (p := 4) rfl ?_); go_must (refine ev_store_row rfl 56 _ _ rfl g4 (ndL k m d t v8).toArray rfl rfl 56 _ ((((b4.no f5).no f7).keep f8n (by have := (b4.no f5).lt; omega)).one f9 (by have := b2.lt; have := f3.size; omega)) sizeNd rfl (ndL_one k m d t e8.one) ?_); intro w6 f6 b6)
        | (go_at_call 76; refine (index_any (isNm n) 83 _ (fun _ _ => by go_simp) v es _ (HS.out.no ((f2.no f3).no f4)) (fun W e f => isNm2_any e g3 n W (((b3.no f4).no f).at_ 0 rfl))).mono ?_; rintro e w5 ⟨rfl, f5⟩; rw [HX.out]; have q0 := (b2.no ((f3.no f4).no f5)).at_ 0 rfl; have q5 := (b2.no ((f3.no f4).no f5)).at_ 4 rfl)
        | (go_at_call 81; go_must (refine (clone_any v es _ (HS.out.no (((f2.no f3).no f4).no f5)) HM.out).mono ?_); rintro e w7 ⟨v7, rfl, o7, f7⟩; have o7' := o7; rw [HN.out] at o7'; obtain ⟨g7, cap, cur, rfl, hg7, r7⟩ := row_of_own o7' HN.out.symm (by omega))
        | (go_at_call 84; go_must (refine (delete_any g7 cap n1 cur es i _ r7 HN.out hi1).mono ?_); rintro e w8 ⟨v8, rfl, e8, i8, f8⟩; have f8n : Fr (fun b => w5.heap.size ≤ b) w7 w8 := (Fr.refl _ w7).trans f8 (fun b hb => .inl (by have : b = g7 := hb; omega))))
      refine bodyPost_ret (results_row_tmp rfl _ _ g4 _ _ _ rfl b6 Try.underlying56 rfl sizeNd) rfl ⟨_, rfl, ?_, ?_⟩
      · have h9 := (b2.no ((f3.no f4).no f5)).lt
        have h4 := (b4.no f5).lt
        exact (e8.kept f9 i8 (fun b hb hh => by have h1 : b = g7 := hb; have h2 : b = g2 := hh; omega)).kept f6 i8 (fun b hb hh => by have h1 : b = g7 := hb; have h2 : b = g4 := hh; omega)
      · have h0 := f2.size
        have h1 := (((f2.no f3).no f4).no f5).size
        exact ((((((f2.no f3).no f4).no f5).no f7).trans f8n (fun b hb => .inr (by omega))).one f9 (.inr hg2)).one f6 (.inr (by have := f3.size; omega))
  · have hkb : (k != 2) = true := by rw [bne_iff_ne]; exact hk
    have hfin : withoutN ⟨k, m, d, t, es⟩ n = (zeroN, 10) := by simp [withoutN, hk]
    rw [hfin]
    clear hfin hs
    generalize hix : idx (isNm n) es = ix
    have HX := Kp.mk hix
    clear hix
    go_enter Try.func45, Try.ntmps45
    go_wp2_with (first | ((with_reducible refine gate_dst (N := 2) rfl ?_); refine ev_box rfl 56 _ rfl _ rfl (ndL k m d t v) rfl ?_; intro g2 w2 hg2 f2 b2) | ((with_reducible refine gate_dst (N := 3) rfl ?_); refine ev_box rfl 9 _ rfl _ rfl [.string n] rfl ?_; intro g3 w3 hg3 f3 b3) | ((with_reducible refine gate_dst (N := 4) rfl ?_); refine ev_alloc rfl 56 rfl _ (ndL 0 0 ⟨#[]⟩ ⟨#[]⟩ (.slice none 0 0)) zeroNd rfl ?_; intro g4 w4 hg4 f4 b4; have q4 := (b2.no (f3.no f4)).at_ 4 rfl) | ((with_reducible refine gate_store (t := 56) (p := 4) rfl ?_); refine ev_store_row rfl 56 _ _ rfl g4 (ndL 0 0 ⟨#[]⟩ ⟨#[]⟩ (.slice none 0 0)).toArray rfl rfl 56 _ (b4.no f5) sizeNd rfl (by simp [Value.oneCell']) ?_; intro w6 f6 b6) | (go_at_call 76; refine (index_any (isNm n) 83 _ (fun _ _ => by go_simp) v es _ (HS.out.no ((f2.no f3).no f4)) (fun W e f => isNm2_any e g3 n W (((b3.no f4).no f).at_ 0 rfl))).mono ?_; rintro e w5 ⟨rfl, f5⟩; rw [HX.out]; have q0 := (b2.no ((f3.no f4).no f5)).at_ 0 rfl; have q5 := (b2.no ((f3.no f4).no f5)).at_ 4 rfl))
    refine bodyPost_ret (results_row_tmp rfl _ _ g4 _ _ _ rfl b6 Try.underlying56 rfl sizeNd) rfl ⟨_, rfl, EntS.nil _, ?_⟩
    exact ((((f2.no f3).no f4).no f5).one f6 (.inr (by have := (f2.no f3).size; omega)))
end Go.Proofs.Ytenlokbfjajbbaa.Nd
