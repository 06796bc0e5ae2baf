/- node.Print. Conditions: the node's texts and entries are bounded, as written out. -/
import Derived.Test.YtenlokbfjajbbaaNodeRight2
import Derived.Test.YtenlokbfjajbbaaNodeForm
set_option linter.unusedSimpArgs false
set_option linter.unusedVariables false
namespace Go.Proofs.Ytenlokbfjajbbaa.Nd
open Go Go.RowKit Go.Proofs.YtenlokbfjajbbaaW.PrintWords Go.Proofs.Ytenlokbfjajbbaa.Ev Go.Proofs.Ytenlokbfjajbbaa.Sb

theorem zeroBld : (Try.prog.info? 91).bind (·.zero) = some (.agg [Value.pointer none, Value.slice none 0 0].toArray) := by kernel_rfl

set_option maxHeartbeats 4000000 in
set_option maxRecDepth 100000 in
theorem print_not (N : Nd) (v : Value) (W : World) (hs : EntS W v N.ents) (hz : Small N.ents) (hr : rightB N = false) :
    Calls Try.prog 37 #[ndV N v] W fun e w' => e = .returned (.tuple #[.string ⟨#[]⟩, .int .i64 2]) ∧ Fr No W w' := by
  have HS := Kp.mk hs
  have HZ := Kp.mk hz
  have HR := Kp.mk hr
  obtain ⟨k, m, d, t, es⟩ := N
  clear hs hz hr
  go_enter Try.func37, Try.ntmps37
  go_wp2_with (first
    | ((with_reducible refine gate_dst (N := 1) rfl ?_); refine ev_box rfl 56 _ rfl _ rfl [.int .i64 k, .int .i64 m, .string d, .string t, v] rfl ?_; intro g1 w1 hg1 f1 b1')
    | ((with_reducible refine gate_dst (N := 7) rfl ?_); go_must (refine ev_load_row rfl 56 _ rfl g1 rfl 56 _ b1' _ Try.underlying56 rfl (by kernel_rfl) ?_))
    | (go_at_call 47; go_must (refine (right_any ⟨k, m, d, t, es⟩ v _ (HS.out.no f1) HZ.out).mono ?_); rintro e w2 ⟨rfl, f2⟩; rw [HR.out]))
  go_ret2
  exact ⟨rfl, f1.no f2⟩

theorem rightB_len {N : Nd} (h : rightB N = true) : N.ents.length ≤ 64 := by
  unfold rightB at h
  split at h
  · cases h
  · split at h
    · simp only [Bool.and_eq_true, decide_eq_true_eq] at h; omega
    · split at h
      · simp only [Bool.and_eq_true, risingB, decide_eq_true_eq] at h; exact h.2.2
      · split at h
        · simp only [Bool.and_eq_true, decide_eq_true_eq] at h; omega
        · cases h
theorem printE_len (e : Ent) : (printE e).length = e.1.size + 5 := by
  simp [printE, b4]
theorem flat_len {es : List Ent} (hz : Small es) : (es.flatMap printE).length ≤ es.length * 4294967300 := by
  induction es with
  | nil => simp
  | cons e es ih =>
    have h1 := hz e (by simp)
    have h2 := ih (fun x hx => hz x (List.mem_cons_of_mem _ hx))
    rw [List.flatMap_cons, List.length_append, printE_len, List.length_cons]
    omega
theorem small_take {es : List Ent} (hz : Small es) (i : Nat) : Small (es.take i) := fun x hx => hz x (List.mem_of_mem_take hx)

set_option maxHeartbeats 8000000 in
set_option maxRecDepth 100000 in
theorem print_is (N : Nd) (v : Value) (W : World) (hs : EntS W v N.ents) (hz : Small N.ents) (hr : rightB N = true) (hm : N.data.size ≤ 1099511627776) (hm2 : N.target.size ≤ 1099511627776) :
    Calls Try.prog 37 #[ndV N v] W fun e w' => e = .returned (.tuple #[.string (bs (printL N)), .int .i64 0]) ∧ Fr No W w' := by
  have HS := Kp.mk hs
  have HZ := Kp.mk hz
  have HR := Kp.mk hr
  obtain ⟨k, m, d, t, es⟩ := N
  obtain ⟨A, c, rfl, h1, h2, h3⟩ := hs.out
  have hel : es.length ≤ 64 := rightB_len hr
  have H3 := Kp.mk h3
  clear hs hz hr h3
  go_enter Try.func37, Try.ntmps37
  go_wp2_with (first
    | ((with_reducible refine gate_dst (N := 1) rfl ?_); refine ev_box rfl 56 _ rfl _ rfl [.int .i64 k, .int .i64 m, .string d, .string t, .slice A es.length c] rfl ?_; intro g1 w1 hg1 f1 b1')
    | ((with_reducible refine gate_dst (N := 7) rfl ?_); go_must (refine ev_load_row rfl 56 _ rfl g1 rfl 56 _ b1' _ Try.underlying56 rfl (by kernel_rfl) ?_))
    | (go_at_call 47; go_must (refine (right_any ⟨k, m, d, t, es⟩ (.slice A es.length c) _ (HS.out.no f1) HZ.out).mono ?_); rintro e w2 ⟨rfl, f2⟩; rw [HR.out])
    | ((with_reducible refine gate_dst (N := 4) rfl ?_); refine ev_alloc rfl 91 rfl _ [.pointer none, .slice none 0 0] zeroBld rfl ?_; intro g4 w4 hg4 f4 b4; have c0 := (b1'.no (f2.no f4)).at_ 0 rfl; have c1 := (b1'.no (f2.no f4)).at_ 1 rfl))
  have hW4 : W.heap.size ≤ g4 := by have := f1.size; have := f2.size; omega
  have hg14 : g1 < g4 := by have := b1'.lt; have := f2.size; omega
  have hpb : Blk (w4.alloc (.cells #[Value.int .u8 (k % 256), .int .u8 (m / 256 % 256), .int .u8 (m % 256)] 5)) w4.heap.size 5 (u8s [Nd.b1 k, Nd.b1 (m / 256), Nd.b1 m]) := by
    have := Blk.new w4 5 [Value.int .u8 (k % 256), .int .u8 (m / 256 % 256), .int .u8 (m % 256)]
    simpa [u8s, b1_nat] using this
  have hdt : d ++ t = bs (d.data.toList ++ t.data.toList) := by rw [← bs_append]
  have hdl : (d.data.toList ++ t.data.toList).length ≤ 2199023255552 := by rw [List.length_append, Array.length_toList, Array.length_toList]; have h1 : d.data.size = d.size := rfl; have h2 : t.data.size = t.size := rfl; omega
  refine (writeB_any (base := W.heap.size) (b := g4) [Nd.b1 k, Nd.b1 (m / 256), Nd.b1 m] hpb rfl (by have := b4.lt; omega) ((Bld.new b4 hW4).no (Fr.alloc _ _)) (by simp) (by have := f1.size; have := f2.size; have := f4.size; simp; omega)).mono ?_
  rintro e w5 ⟨rfl, v5, B5, f5, hat5⟩
  have hv5 : v5.ownBlock ≠ some g1 := by
    rcases hat5 with h | ⟨q, h, hq⟩
    · rw [h]; simp [Value.ownBlock]
    · rw [h]; intro hh; injection hh with hh; have := b4.lt; simp at hq; omega
  have b15 := (b1'.no ((f2.no f4).no (Fr.alloc _ _))).keep f5 (by rintro (h | h); exact absurd h (Nat.ne_of_lt hg14); simp [Own, Value.ownBlock] at h)
  have c2 := b15.at_ 2 rfl
  have c3 := b15.at_ 3 rfl
  have c4 := b15.at_ 4 rfl
  have F5 : Fr No W w5 := (((f1.no f2).no f4).no (Fr.alloc _ _)).trans f5 (by rintro i (h | h); exact .inr (by omega); simp [Own, Value.ownBlock] at h)
  have HDT := Kp.mk hdt
  clear f5 hat5 hpb c0 c1 b4 hdt
  go_wp2_with (go_at_call 59; rw [HDT.out]; go_must (refine (write_any _ B5 (by simp only [List.nil_append, List.length_cons, List.length_nil]; omega) F5.size).mono ?_); rintro e w6 ⟨rfl, v6, B6, f6, hat6⟩; have c5 := (b15.keep f6 (by rintro (h | h); exact absurd h (Nat.ne_of_lt hg14); exact hv5 h)).at_ 4 rfl)
  have F6 : Fr No W w6 := F5.trans f6 (by rintro i (h | h); exact .inr (by omega); exact .inr (own_new_base B5.own i h))
  have hT : ∃ T, [] ++ [Nd.b1 k, Nd.b1 (m / 256), Nd.b1 m] ++ (d.data.toList ++ t.data.toList) = T ∧ T.length ≤ 2199023255555 := ⟨_, rfl, by simp only [List.nil_append, List.length_append (bs := d.data.toList ++ t.data.toList), List.length_cons, List.length_nil]; omega⟩
  obtain ⟨T, hT, hTl⟩ := hT
  rw [hT] at B6
  have HT := Kp.mk hT
  have BK := Kp.mk B6
  have FK := Kp.mk F6
  clear hT B6 F6 F5 B5 b15 c2 c3 c4 c5 f6 hat6 hv5
  go_loopg [31] es.length (fun kq v31 wr => ∃ (i : Nat) (v : Value), i + kq = es.length ∧ v31 = .int .i64 i ∧ Kp (Fr No W wr) ∧ Kp (Bld wr W.heap.size g4 v (T ++ (es.take i).flatMap printE)))
  case atStart => exact ⟨0, v6, by omega, rfl, FK, ⟨by rw [List.take_zero, List.flatMap_nil, List.append_nil]; exact BK.out⟩⟩
  case round =>
    clear BK FK
    obtain ⟨i, v, hi, rfl, F, B⟩ := hrel
    by_cases hil : i < es.length
    · have hiz : (i : Int) < (es.length : Int) := by omega
      obtain ⟨b, o, rfl, hb, hcc⟩ := H3.out (by omega)
      have l1 := Fr.cell (hcc i hil).1 F.out (fun h => h)
      have l2 := Fr.cell (hcc i hil).2 F.out (fun h => h)
      have hyz : (es.getD i default).1.size < 4294967281 := by
        have hmem : es.getD i default ∈ es := by rw [List.getD_eq_getElem?_getD, List.getElem?_eq_getElem hil]; exact List.getElem_mem hil
        exact HZ.out _ hmem
      have hfl : ((es.take i).flatMap printE).length ≤ 64 * 4294967300 := by
        have := flat_len (small_take HZ.out i)
        rw [List.length_take] at this
        exact Nat.le_trans this (Nat.mul_le_mul_right _ (Nat.le_trans (Nat.min_le_right _ _) hel))
      have hsn : (es.take (i + 1)).flatMap printE = (es.take i).flatMap printE ++ printE (es.getD i default) := by
        rw [List.take_add_one, List.flatMap_append]
        congr 1
        simp [List.getD_eq_getElem?_getD, hil]
      have HSN := Kp.mk hsn
      have HI := Kp.mk hi
      clear hcc hi hsn
      generalize es.getD i default = y at l1 l2 hyz HSN
      obtain ⟨y1, y2⟩ := y
      simp only at l1 l2 hyz
      generalize (es.take i).flatMap printE = X at B hfl HSN
      have hyl : (y1.size : Int) ≤ 4294967281 := by omega
      have hyl0 : (0 : Int) ≤ (y1.size : Int) := by omega
      have hgb : g4 < wr.heap.size := by
        obtain ⟨p, hp, _⟩ := B.out.blk
        exact hp.lt
      have hob : ∀ q, v.ownBlock = some q → q < wr.heap.size := fun q hq => by
        obtain ⟨cs, hcs⟩ := own_typed B.out.own q hq
        exact (Array.getElem?_eq_some_iff.1 hcs).1
      have hst : Kp ((bs [Nd.b1 (y1.size : Int)]) ++ y1 = bs (Nd.b1 (y1.size : Int) :: y1.data.toList)) := ⟨by rw [show y1 = bs y1.data.toList from rfl, bs_append]; rfl⟩
      have hXl : (T ++ X).length ≤ 2474100000000 := by rw [List.length_append]; omega
      have hsl : (Nd.b1 (y1.size : Int) :: y1.data.toList).length ≤ 4294967290 := by rw [List.length_cons, Array.length_toList]; have : y1.data.size = y1.size := rfl; omega
      have hu1 : [Value.int .u8 ((y1.size : Int) % 256)] = u8s [Nd.b1 (y1.size : Int)] := by simp [u8s, b1_nat]
      have hu4 : [Value.int .u8 (y2 / 16777216 % 256), .int .u8 (y2 / 65536 % 256), .int .u8 (y2 / 256 % 256), .int .u8 (y2 % 256)] = u8s (Nd.b4 y2) := by simp [u8s, Nd.b4, b1_nat]
      have HU1 := Kp.mk hu1
      have HU4 := Kp.mk hu4
      clear hu1 hu4
      go_wp2_with (first
        | ((with_reducible refine gate_dst (N := 39) rfl ?_); go_must (refine ev_lit rfl 5 [.int .u8 ((y1.size : Int) % 256)] 1 (by first | (go_simp; done) | (go_simp; rfl)) ?_); intro g39 w39 hg39 f39 b39; have e6a := Fr.cell ((Blk.new wr 75 [.string y1, .int .i64 y2]).at_ 0 rfl) f39 (fun h => h); have e6b := Fr.cell ((Blk.new wr 75 [.string y1, .int .i64 y2]).at_ 1 rfl) f39 (fun h => h))
        | ((with_reducible refine gate_dst (N := 40) rfl ?_); go_must (refine ev_str rfl 43 9 5 (.tmp 39) rfl Try.underlying43 Try.underlying5 Try.underlying9 0 _ 1 5 [Nd.b1 (y1.size : Int)] rfl (Blk.owns (by have := b39; rw [HU1.out] at this; exact this) rfl (by simp [maxLen]) (Nat.zero_le _)) ?_))
        | (go_at_call 59; rw [hst.out]; go_must (refine (write_any _ (B.out.no ((Fr.alloc wr _).no f39)) (by omega) (by have := F.out.size; have := f39.size; simp at this; omega)).mono ?_); rintro e w44 ⟨rfl, v44, B44, f44, hat44⟩; have e6c := Fr.cell e6b f44 (by rintro (h | h); exact absurd h (by show wr.heap.size ≠ g4; omega); exact absurd (hob _ h) (Nat.lt_irrefl _))))
      have hsz39 := f39.size
      have hs44 := f44.size
      have hpb : Blk (w44.alloc (.cells #[Value.int .u8 (y2 / 16777216 % 256), .int .u8 (y2 / 65536 % 256), .int .u8 (y2 / 256 % 256), .int .u8 (y2 % 256)] 5)) w44.heap.size 5 (u8s (Nd.b4 y2)) := by
        have := Blk.new w44 5 [Value.int .u8 (y2 / 16777216 % 256), .int .u8 (y2 / 65536 % 256), .int .u8 (y2 / 256 % 256), .int .u8 (y2 % 256)]
        rw [← HU4.out]
        exact this
      have F44 : Fr No W w44 := (F.out.no ((Fr.alloc wr _).no f39)).trans f44 (by rintro q (h | h); exact .inr (by omega); exact .inr (own_new_base B.out.own q h))
      refine (writeB_any (base := W.heap.size) (b := g4) (Nd.b4 y2) hpb (by simp [Nd.b4]) (by simp at hsz39; omega) (B44.no (Fr.alloc _ _)) (by rw [List.length_append]; have hb4 : (Nd.b4 y2).length = 4 := rfl; omega) (by have := F44.size; simp; omega)).mono ?_
      rintro e w61 ⟨rfl, v61, B61, f61, hat61⟩
      have F61 : Kp (Fr No W w61) := ⟨(F44.no (Fr.alloc _ _)).trans f61 (by rintro q (h | h); exact .inr (by omega); exact .inr (own_new_base B44.own q h))⟩
      have B61' : Kp (Bld w61 W.heap.size g4 v61 (T ++ (es.take (i + 1)).flatMap printE)) := ⟨by
        rw [HSN.out]
        have e1 : T ++ X ++ (Nd.b1 (y1.size : Int) :: y1.data.toList) ++ Nd.b4 y2 = T ++ (X ++ printE (y1, y2)) := by simp [printE]
        rw [← e1]
        exact B61⟩
      clear hpb B61 f61 hat61 F44 B44 f44 hat44 f39 b39 e6a e6b e6c l1 l2
      go_wp2_with fail
      go_roundg (gk - 1)
      case measure => have := HI.out; omega
      case rel => exact ⟨i + 1, v61, by have := HI.out; omega, by go_num, F61, B61'⟩
    · obtain rfl : i = es.length := by omega
      rw [List.take_length] at B
      have hiz : ¬ (es.length : Int) < (es.length : Int) := by omega
      have hfin : bs (T ++ es.flatMap printE) = bs (printL ⟨k, m, d, t, es⟩) := by
        rw [← HT.out]
        simp [printL]
      go_wp2_with (go_at_call 60; refine (string_any B.out (by have := F.out.size; omega)).mono ?_; rintro e w7 ⟨rfl, hb7⟩)
      go_ret2
      exact ⟨rfl, F.out.trans (Fr.of_belowB hb7) (fun i h => .inr h)⟩
end Go.Proofs.Ytenlokbfjajbbaa.Nd
