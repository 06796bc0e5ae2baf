/- slices.Insert and slices.Delete at entries, as node calls them. Conditions: the entries' number is bounded, as written out. -/
import Derived.Test.YtenlokbfjajbbaaNodeCopy
set_option linter.unusedSimpArgs false
set_option linter.unusedVariables false
namespace Go.Proofs.Ytenlokbfjajbbaa.Nd
open Go Go.RowKit Go.Proofs.YtenlokbfjajbbaaW.PrintWords Go.Proofs.Ytenlokbfjajbbaa.Ev Go.Proofs.Ytenlokbfjajbbaa.Reg

/-- Block g of room for cap entries begins with these. -/
structure RowE (w : World) (g cap : Nat) (cur : List Value) (es : List Ent) : Prop where
  blk : Blk w g 75 cur
  len : cur.length = cap * 2
  pre : cur.take (es.length * 2) = entsV es
  le : es.length ≤ cap
  cm : cap ≤ 9223372036854775807

theorem RowE.ents {w : World} {g cap : Nat} {cur : List Value} {es : List Ent} (h : RowE w g cap cur es) : EntS w (.slice (some ⟨g, 0, none⟩) es.length cap) es :=
  ⟨⟨_, _, rfl, h.le, h.cm, fun _ => ⟨g, 0, rfl, h.blk.lt, fun j hj => by
    have h1 := entsV_at es j hj
    have hp : ∀ k u, (entsV es)[k]? = some u → w.cell? ⟨g, 0 + k, none⟩ = some u := fun k u hu => by
      rw [← h.pre] at hu
      rw [Nat.zero_add]
      refine h.blk.at_ k ?_
      rw [List.getElem?_take] at hu
      split at hu
      · exact hu
      · cases hu
    exact ⟨hp _ _ h1.1, hp _ _ h1.2⟩⟩⟩⟩
theorem row_of_own {w : World} {base n : Nat} {v : Value} {es : List Ent} (h : w.ownsRow base 75 2 v n (entsV es)) (hn : n = es.length) (h0 : 0 < n) : ∃ g cap cur, v = .slice (some ⟨g, 0, none⟩) n cap ∧ base ≤ g ∧ RowE w g cap cur es := by
  subst hn
  rcases h.2 with ⟨rfl, h0'⟩ | ⟨g, cap, cur, rfl, hbg, hg, hnc, hcm, hcs, htake⟩
  · omega
  · refine ⟨g, cap, cur.toList, rfl, hbg, ⟨⟨by simpa using hg⟩, by simpa using hcs, ?_, hnc, by simpa [maxLen] using hcm⟩⟩
    exact htake
theorem RowE.keep {S : Nat → Prop} {w w1 : World} {g cap : Nat} {cur : List Value} {es : List Ent} (h : RowE w g cap cur es) (f : Fr S w w1) (hn : ¬ S g) : RowE w1 g cap cur es := ⟨h.blk.keep f hn, h.len, h.pre, h.le, h.cm⟩
theorem entsV_take : ∀ (es : List Ent) (i : Nat), entsV (es.take i) = (entsV es).take (i * 2)
  | [], i => by simp [entsV]
  | e :: es, 0 => by simp [entsV]
  | e :: es, i + 1 => by
    have := entsV_take es i
    rw [show (i + 1) * 2 = i * 2 + 1 + 1 by omega]
    simp only [entsV, entV, List.take_succ_cons, List.flatMap_cons, List.cons_append, List.nil_append] at this ⊢
    rw [this]
theorem entsV_drop : ∀ (es : List Ent) (i : Nat), entsV (es.drop i) = (entsV es).drop (i * 2)
  | [], i => by simp [entsV]
  | e :: es, 0 => by simp [entsV]
  | e :: es, i + 1 => by
    have := entsV_drop es i
    rw [show (i + 1) * 2 = i * 2 + 1 + 1 by omega]
    simp only [entsV, entV, List.drop_succ_cons, List.flatMap_cons, List.cons_append, List.nil_append] at this ⊢
    rw [this]
theorem RowE.take {w : World} {g cap : Nat} {cur : List Value} {es : List Ent} (h : RowE w g cap cur es) (i : Nat) (hi : i ≤ es.length) : cur.take (i * 2) = entsV (es.take i) := by
  rw [entsV_take, ← h.pre, List.take_take]
  rw [Nat.min_eq_left (by omega)]
theorem RowE.at_ {w : World} {g cap : Nat} {cur : List Value} {es : List Ent} (h : RowE w g cap cur es) (i : Nat) : ∀ j u, (entsV (es.drop i))[j]? = some u → w.cell? ((⟨g, i * 2, none⟩ : Addr).add j) = some u := fun j u hu => by
  rw [Addr.add_lit]
  refine h.blk.at_ _ ?_
  rw [entsV_drop, ← h.pre, List.getElem?_drop, List.getElem?_take] at hu
  split at hu
  · exact hu
  · cases hu

theorem RowE.low {w : World} {g cap : Nat} {cur : List Value} {es : List Ent} (h : RowE w g cap cur es) (i : Nat) : ∀ j u, (entsV (es.take i))[j]? = some u → w.cell? ((⟨g, 0, none⟩ : Addr).add j) = some u := fun j u hu => by
  rw [Addr.add_lit, Nat.zero_add]
  refine h.blk.at_ _ ?_
  rw [entsV_take, ← h.pre, List.getElem?_take, List.getElem?_take] at hu
  split at hu
  · split at hu
    · exact hu
    · cases hu
  · cases hu

/-- A piece laid over a row. -/
theorem lay_take {cur A X : List Value} {off : Nat} (ha : cur.take off = A) (hA : A.length = off) : (cur.take off ++ X ++ cur.drop (off + X.length)).take (off + X.length) = A ++ X := by
  rw [List.take_append_of_le_length (by rw [List.length_append, ha, hA]; exact Nat.le_refl _), List.take_of_length_le (by rw [List.length_append, ha, hA]; exact Nat.le_refl _), ha]
theorem lay_len {cur X : List Value} {off : Nat} (h : off + X.length ≤ cur.length) : (cur.take off ++ X ++ cur.drop (off + X.length)).length = cur.length := by
  simp; omega
theorem lay_low {cur A X : List Value} {off : Nat} (h : cur.take off = A) (hA : A.length = off) : (cur.take off ++ X ++ cur.drop (off + X.length)).take off = A := by
  rw [List.append_assoc, List.take_append_of_le_length (by rw [h, hA]; exact Nat.le_refl _), List.take_of_length_le (by rw [h, hA]; exact Nat.le_refl _), h]

theorem zeroE : (Try.prog.info? 75).bind (·.zero) = some (.agg [.string ⟨#[]⟩, .int .i64 0].toArray) := by kernel_rfl

set_option maxHeartbeats 4000000 in
set_option maxRecDepth 100000 in
theorem delete_any (g cap n : Nat) (cur : List Value) (es : List Ent) (i : Nat) (w : World) (hr : RowE w g cap cur es) (hn : es.length = n + 1) (hi : i ≤ n) :
    Calls Try.prog 84 #[.slice (some ⟨g, 0, none⟩) (n + 1 : Nat) cap, .int .i64 i, .int .i64 ((i : Int) + 1)] w fun e w' => ∃ v', e = .returned v' ∧ EntS w' v' (es.eraseIdx i) ∧ In v' (One g) ∧ Fr (One g) w w' := by
  have HR := Kp.mk hr
  have hle := hr.le
  rw [hn] at hle
  have hcm := hr.cm
  clear hr
  have b0 : (0 : Int) ≤ (i : Int) + 1 := by omega
  have b1 : (i : Int) + 1 ≤ ((n + 1 : Nat) : Int) := by omega
  have b2 : (i : Int) ≤ (i : Int) + 1 := by omega
  have b3 : ((i : Int) == (i : Int) + 1) = false := beq_eq_false_iff_ne.2 (by omega)
  have b4 : ((i : Int) + 1).toNat = i + 1 := by omega
  have b5 : ((n + 1 : Nat) : Int) ≤ (cap : Int) := by omega
  have b6 : (i : Int) + 1 ≤ (cap : Int) := by omega
  have b7 : (n : Int) ≤ ((n + 1 : Nat) : Int) := by omega
  have b8 : ¬ cap = n := by omega
  have hzl : (entsV (es.drop (i + 1))).length = (n - i) * 2 := by rw [entsV_len, List.length_drop, hn, Nat.add_sub_add_right]
  have hcl := HR.out.len
  have HN := Kp.mk hn
  clear hn
  go_enter Try.func84, Try.ntmps84
  go_wp2_with fail
  refine wp_region_drawn_tail 6 (by kernel_rfl) (by kernel_rfl) ?_
  simp only [List.take_succ_cons, List.take_zero, List.drop_succ_cons, List.drop_zero]
  repeat (first | go_big_quiet_step (fail) | quiet_step (fail))
  refine wpQuiet_nil ?_
  rintro _ ⟨m, rfl⟩
  obtain ⟨xp, hxp⟩ : ∃ xp, (if cap = i + 1 then some (⟨g, 0, none⟩ : Addr) else some ⟨g, (i + 1) * 2, none⟩) = xp := ⟨_, rfl⟩
  rw [hxp]
  refine ev_append_room rfl (.tmp 22) (.tmp 25) 54 75 rfl Try.underlying54 2 sizeE g 0 i cap xp (n - i) (cap - (i + 1)) n (by omega) rfl rfl 75 cur (HR.out.blk.drewN m) (entsV (es.drop (i + 1))) hzl ?_ (entsV_one _) (by omega) (by omega) ?_
  · intro hp
    have : ¬ cap = i + 1 := by omega
    rw [if_neg this] at hxp
    refine ⟨_, hxp.symm, fun j u hu => ?_⟩
    rw [World.cell?_drewN]
    exact HR.out.at_ (i + 1) j u hu
  intro w1 f1 b1'
  clear hxp
  obtain ⟨cur1, hcur1⟩ : ∃ cur1, cur.take (0 + i * 2) ++ entsV (es.drop (i + 1)) ++ cur.drop (0 + i * 2 + (entsV (es.drop (i + 1))).length) = cur1 := ⟨_, rfl⟩
  rw [hcur1] at b1'
  have hl1 : cur1.length = cap * 2 := by rw [← hcur1, lay_len (by omega), hcl]
  have ht1 : cur1.take (n * 2) = entsV (es.eraseIdx i) := by
    have h1 := lay_take (cur := cur) (A := entsV (es.take i)) (X := entsV (es.drop (i + 1))) (off := 0 + i * 2) (by rw [Nat.zero_add]; exact HR.out.take i (by rw [HN.out]; omega)) (by rw [entsV_len, List.length_take, HN.out]; omega)
    rw [hcur1, hzl, show 0 + i * 2 + (n - i) * 2 = n * 2 by omega, ← entsV_append] at h1
    rw [h1, List.eraseIdx_eq_take_drop_succ]
  have HT := Kp.mk ht1
  clear hcur1 ht1 hzl
  go_wp2_with ((with_reducible refine gate_none rfl ?_); refine ev_clear rfl (.tmp 31) 54 75 rfl Try.underlying54 _ [.string ⟨#[]⟩, .int .i64 0] zeroE rfl (by simp [Value.oneCell']) g (n * 2) (cap - n) rfl 75 cur1 b1' (by simp only [List.length_cons, List.length_nil]; omega) ?_; intro w2 f2 b2')
  go_ret
  have hlen : (es.eraseIdx i).length = n := by rw [List.length_eraseIdx, if_pos (by rw [HN.out]; omega), HN.out]; rfl
  have hr2 : RowE w2 g cap (cur1.take (n * 2) ++ [.string ⟨#[]⟩, .int .i64 0] ++ cur1.drop (n * 2 + 2)) (es.eraseIdx i) := by
    refine ⟨b2', (lay_len (cur := cur1) (X := [.string ⟨#[]⟩, .int .i64 0]) (off := n * 2) (by simp only [List.length_cons, List.length_nil]; omega)).trans hl1, ?_, by omega, hcm⟩
    rw [hlen]
    exact lay_low (X := [.string ⟨#[]⟩, .int .i64 0]) HT.out (by rw [entsV_len, hlen])
  refine ⟨_, rfl, ?_, In.mk_ rfl, ((Fr.refl (One g) w).drewN m |>.trans f1 (fun _ h => .inl h)).trans f2 (fun _ h => .inl h)⟩
  have := hr2.ents
  rw [hlen] at this
  exact this

/-- Entry x at place i. -/
abbrev insE (es : List Ent) (i : Nat) (x : Ent) : List Ent := es.take i ++ x :: es.drop i
theorem insE_V (es : List Ent) (i : Nat) (x : Ent) : entsV (insE es i x) = entsV (es.take i) ++ (entV x ++ entsV (es.drop i)) := by
  simp [insE, entsV]

set_option maxHeartbeats 4000000 in
set_option maxRecDepth 100000 in
/-- At the end. -/
theorem insert_end (base n gv : Nat) (v : Value) (es : List Ent) (x : Ent) (w : World) (ho : w.ownsRow base 75 2 v n (entsV es)) (hb : base ≤ w.heap.size) (hn : es.length = n) (hv : Blk w gv 75 (entV x)) (hm : n ≤ 1099511627776) :
    Calls Try.prog 80 #[v, .int .i64 n, .slice (some ⟨gv, 0, none⟩) 1 1] w fun e w' => ∃ v', e = .returned v' ∧ EntS w' v' (insE es n x) ∧ In v' (fun b => Own v b ∨ w.heap.size ≤ b) ∧ Fr (Own v) w w' := by
  have HO := Kp.mk ho
  have hfin : entsV (insE es n x) = entsV es ++ entV x := by
    rw [insE_V, List.take_of_length_le (by omega), List.drop_of_length_le (by omega)]
    simp [entsV]
  have hfl : (insE es n x).length = n + 1 := by simp; omega
  have HF := Kp.mk hfin
  have HL := Kp.mk hfl
  have HN := Kp.mk hn
  clear ho hfin hfl hn
  have bn : ((n : Int) == (n : Int)) = true := beq_self_eq_true _
  obtain ⟨A, c, rfl⟩ := own_slice HO.out
  obtain ⟨S, hS⟩ : ∃ S, S = Own (Value.slice A n c) := ⟨_, rfl⟩
  have HS := Kp.mk hS
  rw [← hS]
  clear hS
  go_enter Try.func80, Try.ntmps80
  go_wp2_with ((with_reducible refine gate_dst (N := 25) rfl ?_); refine ev_append rfl (.tmp 23) (.tmp 24) 54 75 _ 2 24 rfl Try.underlying54 infoE rfl (by decide) (by decide) base (.slice A n c) n (entsV es) rfl HO.out hb ⟨gv, 0, none⟩ 1 1 (entV x) rfl rfl (news_blk hv) (by simp [entV, Value.oneCell']) (by omega) ?_; intro A7 c7 w2 o7 f2 hat)
  all_goals
    go_ret
    rw [← HF.out] at o7
    have HB := Kp.mk (own_new_base o7)
    refine ⟨_, rfl, own_ents o7 HL.out.symm, fun b o n' c' e => ?_, by rw [HS.out]; exact f2⟩
    rw [HS.out]
    have hbb : (Value.slice A7 (n + 1) c7).ownBlock = some b := by
      have e' : Value.slice A7 (n + 1) c7 = .slice (some ⟨b, o, none⟩) n' c' := e
      rw [e']; rfl
    rcases hat with hat | ⟨k, hat, hk⟩
    · exact .inl (by rw [hbb] at hat; exact hat.symm)
    · rw [hbb] at hat
      injection hat with hat
      exact .inr (by omega)

set_option maxHeartbeats 8000000 in
set_option maxRecDepth 100000 in
/-- Ahead of an entry, where there is no room. -/
theorem insert_grow (g cap n i gv : Nat) (cur : List Value) (es : List Ent) (x : Ent) (w : World) (hr : RowE w g cap cur es) (hn : es.length = n) (hi : i < n) (hc : cap < n + 1) (hv : Blk w gv 75 (entV x)) (hm : n ≤ 1099511627776) :
    Calls Try.prog 80 #[.slice (some ⟨g, 0, none⟩) n cap, .int .i64 i, .slice (some ⟨gv, 0, none⟩) 1 1] w fun e w' => ∃ v', e = .returned v' ∧ EntS w' v' (insE es i x) ∧ In v' (fun b => w.heap.size ≤ b) ∧ Fr No w w' := by
  have HR := Kp.mk hr
  have hle := hr.le
  rw [hn] at hle
  have HN := Kp.mk hn
  clear hr hn
  have b1 : ((i : Int) == (n : Int)) = false := beq_eq_false_iff_ne.2 (by omega)
  have b2 : (cap : Int) < (n : Int) + 1 := by omega
  have b3 : (i : Int) ≤ (n : Int) := by omega
  have b4 : ¬ cap = i := by omega
  have b5 : (i : Int) ≤ (cap : Int) := by omega
  have b6 : ¬ cap = 0 := by omega
  have b7 : (0 : Int) ≤ (n : Int) + 1 := by omega
  have b8 : (0 : Int) ≤ (n : Int) + 1 - (i : Int) := by omega
  have b9 : (n : Int) + 1 ≤ 9223372036854775807 := by omega
  go_enter Try.func80, Try.ntmps80
  go_wp2_with (first
    | ((with_reducible refine gate_dst (N := 40) rfl ?_); refine ev_append_zeros rfl (.tmp 34) (.tmp 39) 54 3 75 rfl .i64 Try.underlying54 Try.underlying3 _ 2 24 infoE rfl (by decide) ⟨g, 0, none⟩ i cap (n + 1 - i) (n + 1) _ _ (entsV (es.take i)) rfl rfl (by omega) (by omega) (by rw [entsV_len, List.length_take, HN.out]; congr 1; omega) (HR.out.low i) (by omega) (by omega) (by omega) (by omega) (by decide) ?_; intro g2 c2 cur2 w2 hg2 hc2 hc2m f2 b2' hl2 ht2)
    | ((with_reducible refine gate_dst (N := 45) rfl ?_); refine ev_copy rfl (.tmp 43) (.tmp 44) 54 54 rfl 75 2 Try.underlying54 sizeE g2 (i * 2) (n + 1 - i) (c2 - i) ⟨gv, 0, none⟩ 1 1 rfl rfl 75 cur2 b2' (entV x) (by rw [show Nat.min 1 (n + 1 - i) = 1 from Nat.min_eq_left (by omega)]; rfl) (news_blk (hv.no f2)) (by simp only [entV, List.length_cons, List.length_nil]; omega) (by simp [entV, Value.oneCell']) ?_; intro w3 f3 b3'))
  have hcur3 : cur2.take (i * 2) ++ entV x ++ cur2.drop (i * 2 + (entV x).length) = cur2.take (i * 2) ++ entV x ++ cur2.drop (i * 2 + (entV x).length) := rfl
  generalize hc3 : cur2.take (i * 2) ++ entV x ++ cur2.drop (i * 2 + (entV x).length) = cur3 at b3' hcur3
  have hl3 : cur3.length = c2 * 2 := by rw [← hc3, lay_len (by simp only [entV, List.length_cons, List.length_nil]; omega), hl2]
  have ht3 : cur3.take (i * 2 + 2) = entsV (es.take i) ++ entV x := by
    rw [← hc3]
    exact lay_take (X := entV x) ht2 (by rw [entsV_len, List.length_take, HN.out, Nat.min_eq_left (by omega)])
  have HT := Kp.mk ht3
  have hr3 := HR.out.keep (f2.one f3 (.inr hg2)) (fun hh => hh)
  have HR3 := Kp.mk hr3
  have d1 : ¬ c2 = i + 1 := by omega
  have d2 : (i : Int) + 1 ≤ (n : Int) + 1 := by omega
  have d3 : (0 : Int) ≤ (i : Int) + 1 := by omega
  have d4 : ((i : Int) + 1).toNat = i + 1 := by omega
  have d5 : (i : Int) + 1 ≤ 9223372036854775807 := by omega
  clear hcur3 hc3 ht2 ht3 hr3
  refine wp_region_drawn_tail 8 (by kernel_rfl) (by kernel_rfl) ?_
  simp only [List.take_succ_cons, List.take_zero, List.drop_succ_cons, List.drop_zero]
  repeat (first | go_big_quiet_step (fail) | quiet_step (fail))
  refine wpQuiet_nil ?_
  rintro _ ⟨m, rfl⟩
  have hdl : (entsV (es.drop i)).length = (n - i) * 2 := by rw [entsV_len, List.length_drop, HN.out]
  refine ev_copy rfl (.tmp 50) (.tmp 53) 54 54 rfl 75 2 Try.underlying54 sizeE g2 ((i + 1) * 2) (n - i) (c2 - (i + 1)) ⟨g, i * 2, none⟩ (n - i) (cap - i) rfl rfl 75 cur3 (b3'.drewN m) (entsV (es.drop i)) (by rw [show Nat.min (n - i) (n - i) = n - i from Nat.min_self _]; exact hdl) ?_ (by omega) (entsV_one _) ?_
  · intro j u hu
    rw [World.cell?_drewN]
    exact HR3.out.at_ i j u hu
  intro w4 f4 b4'
  go_wp2
  go_ret
  have hlen : (insE es i x).length = n + 1 := by simp [HN.out]; omega
  have hr4 : RowE w4 g2 c2 (cur3.take ((i + 1) * 2) ++ entsV (es.drop i) ++ cur3.drop ((i + 1) * 2 + (entsV (es.drop i)).length)) (insE es i x) := by
    refine ⟨b4', by rw [lay_len (by omega), hl3], ?_, by omega, ?_⟩
    · have := lay_take (cur := cur3) (A := entsV (es.take i) ++ entV x) (X := entsV (es.drop i)) (off := (i + 1) * 2) (by rw [show (i + 1) * 2 = i * 2 + 2 by omega]; exact HT.out) (by rw [List.length_append, entsV_len, List.length_take, HN.out, Nat.min_eq_left (by omega)]; simp only [entV, List.length_cons, List.length_nil]; omega)
      rw [insE_V, ← List.append_assoc, ← this, hlen]
      congr 1
      omega
    · exact hc2m
  refine ⟨_, rfl, ?_, In.mk_ hg2, ((f2.one f3 (.inr hg2)).drewN m).one f4 (.inr hg2)⟩
  have := hr4.ents
  rw [hlen] at this
  exact this

theorem size2 : ∀ w, (sizeOf 75).run Try.prog w = .ok 2 w := fun w => by
  obtain ⟨q, hq, hq1⟩ := Option.map_eq_some_iff.1 sizeE
  simp [sizeOf, typeInfo, hq, hq1]

set_option maxHeartbeats 8000000 in
set_option maxRecDepth 100000 in
/-- Ahead of an entry, where there is room. -/
theorem insert_room (g cap n i gv : Nat) (cur : List Value) (es : List Ent) (x : Ent) (w : World) (hr : RowE w g cap cur es) (hn : es.length = n) (hi : i < n) (hc : n + 1 ≤ cap) (hv : Blk w gv 75 (entV x)) (hgv : gv ≠ g) :
    Calls Try.prog 80 #[.slice (some ⟨g, 0, none⟩) n cap, .int .i64 i, .slice (some ⟨gv, 0, none⟩) 1 1] w fun e w' => ∃ v', e = .returned v' ∧ EntS w' v' (insE es i x) ∧ In v' (One g) ∧ Fr (One g) w w' := by
  have HR := Kp.mk hr
  have hcm := hr.cm
  have hcl := hr.len
  have HN := Kp.mk hn
  clear hr hn
  have b1 : ((i : Int) == (n : Int)) = false := beq_eq_false_iff_ne.2 (by omega)
  have b2 : ¬ (cap : Int) < (n : Int) + 1 := by omega
  have b3 : (i : Int) ≤ (n : Int) := by omega
  have b4 : ¬ cap = i := by omega
  have b6 : ¬ cap = i + 1 := by omega
  have b7 : (n : Int) + 1 ≤ (cap : Int) := by omega
  have b8 : (i : Int) + 1 ≤ (n : Int) + 1 := by omega
  have b9 : (n : Int) + 1 ≤ 9223372036854775807 := by omega
  have c1 : (0 : Int) ≤ (i : Int) + 1 := by omega
  have c2 : (0 : Int) ≤ (n : Int) + 1 := by omega
  have c3 : ((i : Int) + 1).toNat = i + 1 := by omega
  have c4 : ((n : Int) + 1).toNat = n + 1 := by omega
  have hsh : w.shape? gv = some (75, 2) := by simp [World.shape?, hv.out, entV]
  have hsh2 : w.shape? g = some (75, cap * 2) := by simp [World.shape?, HR.out.blk.out, hcl]
  have hov : Kp (∀ lb cb, (callFunc 97 #[.slice (some ⟨gv, 0, none⟩) 1 1, .slice (some ⟨g, (i + 1) * 2, none⟩) lb cb]).run Try.prog w = .ok (.value (.bool false)) w) := ⟨fun lb cb => by
    rw [run_callFunc_extern Try.func97 (by kernel_rfl) (by kernel_rfl) (by kernel_rfl) (e := Extern.SlicesOverlaps.overlaps #[54, 54] #[4]) (by kernel_rfl),
      Lib.run_overlaps_apart w 54 4 75 Try.underlying54 2 size2 ⟨gv, 0, none⟩ ⟨g, (i + 1) * 2, none⟩ 1 1 lb cb hgv 75 75 2 (cap * 2) hsh hsh2 (by omega) (hv.free 0) (hv.free 2)]
    rfl⟩
  clear hsh hsh2
  go_enter Try.func80, Try.ntmps80
  go_wp2_with ((with_reducible refine gate_dst (N := 67) rfl ?_); refine run_value rfl (v := .bool false) (w1 := w) (by simp [execOp, resolve, invoke, Deferred.ofValue, Sem.run_bind, Sem.run_pure, Result.andThen_ok, Act.eval, hov.out]) ?_)
  clear b1 b2
  refine wp_region_drawn_tail 8 (by kernel_rfl) (by kernel_rfl) ?_
  simp only [List.take_succ_cons, List.take_zero, List.drop_succ_cons, List.drop_zero]
  repeat (first | go_big_quiet_step (fail) | quiet_step (fail))
  refine wpQuiet_nil ?_
  rintro _ ⟨m, rfl⟩
  have hdl : (entsV (es.drop i)).length = (n - i) * 2 := by rw [entsV_len, List.length_drop, HN.out]
  refine ev_copy rfl (.tmp 73) (.tmp 76) 54 54 rfl 75 2 Try.underlying54 sizeE g ((i + 1) * 2) (n - i) (cap - (i + 1)) ⟨g, i * 2, none⟩ (n + 1 - i) (cap - i) rfl rfl 75 cur (HR.out.blk.drewN m) (entsV (es.drop i)) (by rw [show Nat.min (n + 1 - i) (n - i) = n - i from Nat.min_eq_right (by omega)]; exact hdl) ?_ (by omega) (entsV_one _) ?_
  · intro j u hu
    rw [World.cell?_drewN]
    exact HR.out.at_ i j u hu
  intro w3 f3 b3'
  have hl3 : (cur.take ((i + 1) * 2) ++ entsV (es.drop i) ++ cur.drop ((i + 1) * 2 + (entsV (es.drop i)).length)).length = cap * 2 := by rw [lay_len (by omega), hcl]
  have ht3 : (cur.take ((i + 1) * 2) ++ entsV (es.drop i) ++ cur.drop ((i + 1) * 2 + (entsV (es.drop i)).length)).take (i * 2) = entsV (es.take i) := by
    rw [List.append_assoc, List.take_append_of_le_length (by rw [List.length_take]; omega), List.take_take, Nat.min_eq_left (by omega)]
    exact HR.out.take i (by rw [HN.out]; omega)
  have hd3 : ((cur.take ((i + 1) * 2) ++ entsV (es.drop i) ++ cur.drop ((i + 1) * 2 + (entsV (es.drop i)).length)).drop (i * 2 + 2)).take ((n - i) * 2) = entsV (es.drop i) := by
    rw [List.append_assoc, List.drop_append_of_le_length (by rw [List.length_take]; omega), List.drop_of_length_le (by rw [List.length_take]; omega), List.nil_append, List.take_append_of_le_length (by omega), List.take_of_length_le (by omega)]
  generalize cur.take ((i + 1) * 2) ++ entsV (es.drop i) ++ cur.drop ((i + 1) * 2 + (entsV (es.drop i)).length) = cur3 at b3' hl3 ht3 hd3
  have HT := Kp.mk ht3
  have HD := Kp.mk hd3
  clear ht3 hd3
  go_wp2_with ((with_reducible refine gate_dst (N := 82) rfl ?_); refine ev_copy rfl (.tmp 80) (.tmp 81) 54 54 rfl 75 2 Try.underlying54 sizeE g (i * 2) (n + 1 - i) (cap - i) ⟨gv, 0, none⟩ 1 1 rfl rfl 75 cur3 b3' (entV x) (by rw [show Nat.min 1 (n + 1 - i) = 1 from Nat.min_eq_left (by omega)]; rfl) (news_blk ((hv.drewN m).one f3 hgv)) (by simp only [entV, List.length_cons, List.length_nil]; omega) (by simp [entV, Value.oneCell']) ?_; intro w4 f4 b4')
  go_ret
  have hlen : (insE es i x).length = n + 1 := by simp [HN.out]; omega
  have hr4 : RowE w4 g cap (cur3.take (i * 2) ++ entV x ++ cur3.drop (i * 2 + (entV x).length)) (insE es i x) := by
    refine ⟨b4', (lay_len (by simp only [entV, List.length_cons, List.length_nil]; omega)).trans hl3, ?_, by omega, hcm⟩
    have h1 : (cur3.take (i * 2) ++ entV x).length = i * 2 + 2 := by rw [List.length_append, List.length_take]; simp only [entV, List.length_cons, List.length_nil]; omega
    rw [hlen, insE_V, List.take_append, h1, List.take_of_length_le (by omega), show (n + 1) * 2 - (i * 2 + 2) = (n - i) * 2 by omega, show i * 2 + (entV x).length = i * 2 + 2 from rfl, HD.out, HT.out, List.append_assoc]
  refine ⟨_, rfl, ?_, In.mk_ rfl, ((Fr.refl (One g) w).drewN m |>.trans f3 (fun _ h => .inl h)).trans f4 (fun _ h => .inl h)⟩
  have := hr4.ents
  rw [hlen] at this
  exact this

/-- An entry put at place i of a row of the call's own. -/
theorem insert_any (base n i gv : Nat) (v : Value) (es : List Ent) (x : Ent) (w : World) (ho : w.ownsRow base 75 2 v n (entsV es)) (hb : base ≤ w.heap.size) (hn : es.length = n) (hi : i ≤ n) (hv : Blk w gv 75 (entV x)) (hgv : v.ownBlock ≠ some gv) (hm : n ≤ 1099511627776) :
    Calls Try.prog 80 #[v, .int .i64 i, .slice (some ⟨gv, 0, none⟩) 1 1] w fun e w' => ∃ v', e = .returned v' ∧ EntS w' v' (insE es i x) ∧ In v' (fun b => base ≤ b) ∧ Fr (fun b => base ≤ b) w w' := by
  have hbase := own_new_base ho
  by_cases hin : i = n
  · subst hin
    refine (insert_end base i gv v es x w ho hb hn hv hm).mono ?_
    rintro e w' ⟨v', he, h1, h2, h3⟩
    refine ⟨v', he, h1, h2.mono fun b hb' => ?_, (Fr.refl _ w).trans h3 (fun b hb' => .inl (hbase b hb'))⟩
    rcases hb' with hb' | hb'
    · exact hbase b hb'
    · omega
  · obtain ⟨g, cap, cur, rfl, hg, hr⟩ := row_of_own ho hn.symm (by omega)
    by_cases hc : n + 1 ≤ cap
    · refine (insert_room g cap n i gv cur es x w hr hn (by omega) hc hv (fun e => hgv (by rw [e]; rfl))).mono ?_
      rintro e w' ⟨v', he, h1, h2, h3⟩
      exact ⟨v', he, h1, h2.mono fun b hb' => (by have : b = g := hb'; omega), (Fr.refl _ w).trans h3 (fun b hb' => .inl (by have : b = g := hb'; omega))⟩
    · refine (insert_grow g cap n i gv cur es x w hr hn (by omega) (by omega) hv hm).mono ?_
      rintro e w' ⟨v', he, h1, h2, h3⟩
      exact ⟨v', he, h1, h2.mono fun b hb' => (by omega), (Fr.refl _ w).no h3⟩
end Go.Proofs.Ytenlokbfjajbbaa.Nd
