/- The law NodeOrder: it says yes. No conditions. -/
import Derived.Test.YtenlokbfjajbbaaNodeLoop2
set_option linter.unusedSimpArgs false
set_option linter.unusedVariables false
namespace Go.Proofs.Ytenlokbfjajbbaa.Nd
open Go Go.RowKit Go.Proofs.YtenlokbfjajbbaaW.PrintWords Go.Proofs.YtenlokbfjajbbaaW.PrintLast Go.Proofs.Ytenlokbfjajbbaa.Ev Go.Proofs.Ytenlokbfjajbbaa.Reg Go.Proofs.Ytenlokbfjajbbaa.Sb

theorem right_small' {N : Nd} (h : rightB N = true) : Small N.ents := by
  obtain ⟨_, _, hc⟩ := right_cases h
  rcases hc with ⟨_, _, he⟩ | ⟨_, _, _, hr⟩ | ⟨_, _, he⟩
  · rw [he]; intro e hm; cases hm
  · intro e hm
    have := (rising_ents hr e hm).1
    omega
  · rw [he]; intro e hm; cases hm
theorem zeroEnt : (Try.prog.info? 75).bind (·.zero) = some (.agg #[.string ⟨#[]⟩, .int .i64 0]) := by kernel_rfl
theorem sizeEnt : (Try.prog.info? 75).map (·.size) = some 2 := by kernel_rfl

set_option maxHeartbeats 8000000 in
set_option maxRecDepth 100000 in
theorem order_tail (A : Option Addr) (c g5 g6 : Nat) (xs : List ByteArray) (which : Int) (W : World) (u : Nat → Value) (h30 : xs.length ≤ 30) (a : Nd) (va vb : Value) (b5 : Blk W g5 56 (ndL a.kind a.mode a.data a.target va)) (ea : EntS W va a.ents) (b6 : Blk W g6 56 (ndL a.kind a.mode a.data a.target vb)) (eb : EntS W vb a.ents)
    (pa : PutAll a (fwdL xs xs.length)) (sz : ∀ j, j < xs.length → (xs.getD j ByteArray.empty).size ≤ 100) (Q : Exit → Act → World → Prop) (hQ : ∀ (u : Nat → Value) ws, Fr No W ws → Q .ret { tmps := List.toArray (.slice A xs.length c :: .int .i64 which :: u 2 :: u 3 :: .bool true :: .pointer (some ⟨g5, 0, none⟩) :: .pointer (some ⟨g6, 0, none⟩) :: u 7 :: u 8 :: u 9 :: u 10 :: u 11 :: u 12 :: u 13 :: u 14 :: u 15 :: u 16 :: u 17 :: u 18 :: u 19 :: u 20 :: u 21 :: u 22 :: u 23 :: u 24 :: u 25 :: u 26 :: u 27 :: u 28 :: u 29 :: u 30 :: u 31 :: u 32 :: u 33 :: u 34 :: u 35 :: u 36 :: u 37 :: u 38 :: u 39 :: u 40 :: u 41 :: u 42 :: u 43 :: u 44 :: u 45 :: u 46 :: u 47 :: u 48 :: u 49 :: u 50 :: u 51 :: u 52 :: u 53 :: u 54 :: u 55 :: u 56 :: u 57 :: u 58 :: u 59 :: u 60 :: u 61 :: u 62 :: u 63 :: u 64 :: u 65 :: u 66 :: u 67 :: u 68 :: u 69 :: u 70 :: u 71 :: u 72 :: u 73 :: u 74 :: u 75 :: u 76 :: u 77 :: u 78 :: u 79 :: u 80 :: u 81 :: u 82 :: u 83 :: u 84 :: u 85 :: u 86 :: u 87 :: u 88 :: u 89 :: u 90 :: u 91 :: u 92 :: u 93 :: u 94 :: u 95 :: u 96 :: u 97 :: u 98 :: u 99 :: u 100 :: u 101 :: u 102 :: u 103 :: u 104 :: u 105 :: u 106 :: u 107 :: u 108 :: u 109 :: u 110 :: u 111 :: u 112 :: u 113 :: u 114 :: u 115 :: u 116 :: u 117 :: u 118 :: u 119 :: u 120 :: u 121 :: u 122 :: u 123 :: u 124 :: u 125 :: u 126 :: u 127 :: u 128 :: u 129 :: u 130 :: u 131 :: u 132 :: u 133 :: u 134 :: u 135 :: u 136 :: []), defers := [] } ws) :
    Code.wp Try.prog (sub [1,1,1,1,1,1] bodyOrder) Q { tmps := List.toArray (.slice A xs.length c :: .int .i64 which :: u 2 :: u 3 :: u 4 :: .pointer (some ⟨g5, 0, none⟩) :: .pointer (some ⟨g6, 0, none⟩) :: u 7 :: u 8 :: u 9 :: u 10 :: u 11 :: u 12 :: u 13 :: u 14 :: u 15 :: u 16 :: u 17 :: u 18 :: u 19 :: u 20 :: u 21 :: u 22 :: u 23 :: u 24 :: u 25 :: u 26 :: u 27 :: u 28 :: u 29 :: u 30 :: u 31 :: u 32 :: u 33 :: u 34 :: u 35 :: u 36 :: u 37 :: u 38 :: u 39 :: u 40 :: u 41 :: u 42 :: u 43 :: u 44 :: u 45 :: u 46 :: u 47 :: u 48 :: u 49 :: u 50 :: u 51 :: u 52 :: u 53 :: u 54 :: u 55 :: u 56 :: u 57 :: u 58 :: u 59 :: u 60 :: u 61 :: u 62 :: u 63 :: u 64 :: u 65 :: u 66 :: u 67 :: u 68 :: u 69 :: u 70 :: u 71 :: u 72 :: u 73 :: u 74 :: u 75 :: u 76 :: u 77 :: u 78 :: u 79 :: u 80 :: u 81 :: u 82 :: u 83 :: u 84 :: u 85 :: u 86 :: u 87 :: u 88 :: u 89 :: u 90 :: u 91 :: u 92 :: u 93 :: u 94 :: u 95 :: u 96 :: u 97 :: u 98 :: u 99 :: u 100 :: u 101 :: u 102 :: u 103 :: u 104 :: u 105 :: u 106 :: u 107 :: u 108 :: u 109 :: u 110 :: u 111 :: u 112 :: u 113 :: u 114 :: u 115 :: u 116 :: u 117 :: u 118 :: u 119 :: u 120 :: u 121 :: u 122 :: u 123 :: u 124 :: u 125 :: u 126 :: u 127 :: u 128 :: u 129 :: u 130 :: u 131 :: u 132 :: u 133 :: u 134 :: u 135 :: u 136 :: []), defers := [] } W := by
  conv => arg 2; whnf
  have HQ := Kp.mk hQ
  clear hQ
  have hrt : rightB a = true := pa.good (by omega)
  have hsm : Small a.ents := right_small' hrt
  have CR : Kp (∀ v W, EntS W v a.ents → Calls Try.prog 47 #[ndV a v] W fun e w' => e = .returned (.bool true) ∧ Fr No W w') := ⟨fun v W h => by
    have h := right_any a v W h hsm
    rw [hrt] at h
    exact h⟩
  have CS : Kp (∀ u v W, EntS W u a.ents → EntS W v a.ents → Calls Try.prog 49 #[ndV a u, ndV a v] W fun e w' => e = .returned (.bool true) ∧ Fr No W w') := ⟨fun u v W h1 h2 => by
    have h := same_any a a u v W h1 h2
    rw [same_refl] at h
    exact h⟩
  have hal : a.ents.length ≤ 64 := by
    have h := put_small (xs := xs) pa
    rw [len_fwd] at h
    omega
  clear hrt hsm
  have c0 := b5.at_ 0 rfl; have c1 := b5.at_ 1 rfl; have c2 := b5.at_ 2 rfl; have c3 := b5.at_ 3 rfl; have c4 := b5.at_ 4 rfl
  have d0 := b6.at_ 0 rfl; have d1 := b6.at_ 1 rfl; have d2 := b6.at_ 2 rfl; have d3 := b6.at_ 3 rfl; have d4 := b6.at_ 4 rfl
  obtain ⟨A', c', rfl, h1, h2, h3⟩ := ea.out
  by_cases hw0 : which < 0
  · clear h3
    go_wp2_with (first
      | (go_at_call 49; go_must (refine (CS.out _ _ _ ea eb).mono ?_); rintro e w9 ⟨rfl, f9⟩; have b5 := b5.no f9; have ea := ea.no f9; have c0 := b5.at_ 0 rfl; have c1 := b5.at_ 1 rfl; have c2 := b5.at_ 2 rfl; have c3 := b5.at_ 3 rfl; have c4 := b5.at_ 4 rfl)
      | (go_at_call 47; go_must (refine (CR.out _ _ ea).mono ?_); rintro e w10 ⟨rfl, f10⟩; have b5 := b5.no f10; have ea := ea.no f10; have c0 := b5.at_ 0 rfl; have c1 := b5.at_ 1 rfl; have c2 := b5.at_ 2 rfl; have c3 := b5.at_ 3 rfl; have c4 := b5.at_ 4 rfl))
    exact K_u (K := Q .ret) (fun u => HQ.out u _ (f9.no f10)) rfl
  · by_cases hw1 : (a.ents.length : Int) ≤ which
    · clear h3
      go_wp2_with (first
        | (go_at_call 49; go_must (refine (CS.out _ _ _ ea eb).mono ?_); rintro e w9 ⟨rfl, f9⟩; have b5 := b5.no f9; have ea := ea.no f9; have c0 := b5.at_ 0 rfl; have c1 := b5.at_ 1 rfl; have c2 := b5.at_ 2 rfl; have c3 := b5.at_ 3 rfl; have c4 := b5.at_ 4 rfl)
        | (go_at_call 47; go_must (refine (CR.out _ _ ea).mono ?_); rintro e w10 ⟨rfl, f10⟩; have b5 := b5.no f10; have ea := ea.no f10; have c0 := b5.at_ 0 rfl; have c1 := b5.at_ 1 rfl; have c2 := b5.at_ 2 rfl; have c3 := b5.at_ 3 rfl; have c4 := b5.at_ 4 rfl))
      exact K_u (K := Q .ret) (fun u => HQ.out u _ (f9.no f10)) rfl
    · obtain ⟨k, rfl⟩ : ∃ k : Nat, which = (k : Int) := ⟨which.toNat, by omega⟩
      have hkl : k < a.ents.length := by omega
      have hkz : (k : Int) < (a.ents.length : Int) := by omega
      obtain ⟨bb, o, rfl, hbb, hcc⟩ := h3 (by omega)
      have hcell := hcc k hkl
      have hmem : a.ents.getD k default ∈ a.ents := by rw [List.getD_eq_getElem?_getD, List.getElem?_eq_getElem hkl]; exact List.getElem_mem hkl
      obtain ⟨x, hx1, hx2⟩ := pa.again (by rw [len_fwd]; omega) hmem
      have hysz : (a.ents.getD k default).1.size ≤ 100 := by
        obtain ⟨es, rfl, _, hm, _⟩ := pa.out
        obtain ⟨j, hj, he⟩ := (mem_fwd xs _ _).1 ((hm _).1 hmem).1
        rw [he]
        exact sz j hj
      have hxl : x.ents.length ≤ 64 := by
        have h := (with_zero hx2).2.2.2.1
        omega
      clear hcc h3 hmem
      generalize a.ents.getD k default = y at hcell hx1 hx2 hysz
      obtain ⟨y1, y2⟩ := y
      obtain ⟨m1, m2⟩ := hcell
      simp only at m1 m2 hx1 hx2 hysz
      have CO : Kp (∀ v W, EntS W v a.ents → Calls Try.prog 45 #[ndV a v, .string y1] W fun e w' => Gives W x 0 e w') := ⟨fun v W h => by
        have h := without_any a v y1 W h (by omega)
        rw [hx1] at h
        exact h⟩
      have CW : Kp (∀ v W, EntS W v x.ents → Calls Try.prog 43 #[ndV x v, .string y1, .int .i64 y2] W fun e w' => Gives W a 0 e w') := ⟨fun v W h => by
        have h := with_any x v y1 y2 W h (by omega) (by omega)
        rw [hx2] at h
        exact h⟩
      clear hx1 hx2 hysz hxl hal pa sz
      go_wp2_with (first
        | (go_at_call 49; refine (CS.out _ _ _ ea eb).mono ?_; rintro e w9 ⟨rfl, f9⟩; have b5 := b5.no f9; have ea := ea.no f9; have m1 := Fr.cell m1 f9 (fun h => h); have m2 := Fr.cell m2 f9 (fun h => h); clear eb; have c0 := b5.at_ 0 rfl; have c1 := b5.at_ 1 rfl; have c2 := b5.at_ 2 rfl; have c3 := b5.at_ 3 rfl; have c4 := b5.at_ 4 rfl)
        | (go_at_call 47; go_must (refine (CR.out _ _ ea).mono ?_); rintro e w10 ⟨rfl, f10⟩; have b5 := b5.no f10; have ea := ea.no f10; have m1 := Fr.cell m1 f10 (fun h => h); have m2 := Fr.cell m2 f10 (fun h => h); have c0 := b5.at_ 0 rfl; have c1 := b5.at_ 1 rfl; have c2 := b5.at_ 2 rfl; have c3 := b5.at_ 3 rfl; have c4 := b5.at_ 4 rfl)
        | ((with_reducible refine gate_dst (N := 14) rfl ?_); go_must (refine ev_alloc rfl 75 rfl _ [.string ⟨#[]⟩, .int .i64 0] zeroEnt rfl ?_); intro g14 w11 hg14 f11 b14)
        | ((with_reducible refine gate_store (t := 75) (p := 14) rfl ?_); go_must (refine ev_store_row rfl 75 _ _ rfl g14 #[.string y1, .int .i64 y2] rfl rfl 75 _ b14 sizeEnt rfl (by simp [Value.oneCell']) ?_); intro w12 s14 B14; have F := f11.one s14 (.inr hg14); have b5 := b5.no F; have ea := ea.no F; have c0 := b5.at_ 0 rfl; have c1 := b5.at_ 1 rfl; have c2 := b5.at_ 2 rfl; have c3 := b5.at_ 3 rfl; have c4 := b5.at_ 4 rfl; have e0 := B14.at_ 0 rfl; have e1 := B14.at_ 1 rfl)
        | (go_at_call 45; go_must (refine (CO.out _ _ ea).mono ?_); rintro e w13 ⟨vx, rfl, ex, f13⟩; have b5 := b5.no f13; have ea := ea.no f13; have B14 := B14.no f13; have F := F.no f13)
        | ((with_reducible refine gate_dst (N := 15) rfl ?_); go_must (refine ev_alloc rfl 56 rfl _ (ndL 0 0 ⟨#[]⟩ ⟨#[]⟩ (.slice none 0 0)) zeroNd rfl ?_); intro g15 w15 hg15 f15 b15)
        | ((with_reducible refine gate_store (t := 56) (p := 15) rfl ?_); go_must (refine ev_store_row rfl 56 _ _ rfl g15 (ndL x.kind x.mode x.data x.target vx).toArray rfl rfl 56 _ b15 sizeNd rfl (ndL_one _ _ _ _ ex.one) ?_); intro w16 s15 B15; have F15 := f15.one s15 (.inr hg15); have b5 := b5.no F15; have ea := ea.no F15; have ex := ex.no F15; have B14 := B14.no F15; have F := F.no F15; have e0 := B14.at_ 0 rfl; have e1 := B14.at_ 1 rfl; have q0 := B15.at_ 0 rfl; have q1 := B15.at_ 1 rfl; have q2 := B15.at_ 2 rfl; have q3 := B15.at_ 3 rfl; have q4 := B15.at_ 4 rfl)
        | (go_at_call 43; go_must (refine (CW.out _ _ ex).mono ?_); rintro e w17 ⟨vz, rfl, ez, f17⟩; have b5 := b5.no f17; have ea := ea.no f17; have F := F.no f17)
        | ((with_reducible refine gate_dst (N := 17) rfl ?_); go_must (refine ev_alloc rfl 56 rfl _ (ndL 0 0 ⟨#[]⟩ ⟨#[]⟩ (.slice none 0 0)) zeroNd rfl ?_); intro g17 w18 hg17 f18 b17)
        | ((with_reducible refine gate_store (t := 56) (p := 17) rfl ?_); go_must (refine ev_store_row rfl 56 _ _ rfl g17 (ndL a.kind a.mode a.data a.target vz).toArray rfl rfl 56 _ b17 sizeNd rfl (ndL_one _ _ _ _ ez.one) ?_); intro w19 s17 B17; have F17 := f18.one s17 (.inr hg17); have b5 := b5.no F17; have ea := ea.no F17; have ez := ez.no F17; have F := F.no F17; have c0 := b5.at_ 0 rfl; have c1 := b5.at_ 1 rfl; have c2 := b5.at_ 2 rfl; have c3 := b5.at_ 3 rfl; have c4 := b5.at_ 4 rfl; have q0 := B17.at_ 0 rfl; have q1 := B17.at_ 1 rfl; have q2 := B17.at_ 2 rfl; have q3 := B17.at_ 3 rfl; have q4 := B17.at_ 4 rfl)
        | (go_at_call 49; go_must (refine (CS.out _ _ _ ez ea).mono ?_); rintro e w20 ⟨rfl, f20⟩; have F := F.no f20))
      exact K_u (K := Q .ret) (fun u => HQ.out u _ ((f9.no f10).no F)) rfl

set_option maxHeartbeats 8000000 in
set_option maxRecDepth 100000 in
theorem order_any (x : Value) (xs : List ByteArray) (which : Int) (W : World) (hX : StrS W x xs) :
    Calls Try.prog 10 #[x, .int .i64 which] W fun e w' => e = .returned (.bool true) ∧ Fr No W w' := by
  obtain ⟨A, c, rfl, h1, h2, h3⟩ := hX.out
  have H3 := Kp.mk h3
  clear h3
  by_cases h30 : xs.length ≤ 30
  · have h30z : ¬ (30 : Int) < (xs.length : Int) := by omega
    go_enter Try.func10, Try.ntmps10
    go_upto_block 0 with (first | (go_at_call 35; go_must (refine (awake_any _).mono ?_); rintro e w3 ⟨rfl, f3⟩; have hX := hX.no f3) | ((with_reducible refine gate_dst (N := 5) rfl ?_); go_must (refine ev_alloc rfl 56 rfl _ (ndL 0 0 ⟨#[]⟩ ⟨#[]⟩ (.slice none 0 0)) zeroNd rfl ?_); intro g5 w5 hg5 f5 b5) | ((with_reducible refine gate_dst (N := 6) rfl ?_); go_must (refine ev_alloc rfl 56 rfl _ (ndL 0 0 ⟨#[]⟩ ⟨#[]⟩ (.slice none 0 0)) zeroNd rfl ?_); intro g6 w6 hg6 f6 b6) | ((with_reducible refine gate_store (t := 56) (p := 5) rfl ?_); go_must (refine ev_store_row rfl 56 _ _ rfl g5 (ndL 2 0 ⟨#[]⟩ ⟨#[]⟩ (.slice none 0 0)).toArray rfl rfl 56 _ (b5.no f6) sizeNd rfl (ndL_one _ _ _ _ rfl) ?_); intro w7 s5 B5) | ((with_reducible refine gate_store (t := 56) (p := 6) rfl ?_); go_must (refine ev_store_row rfl 56 _ _ rfl g6 (ndL 2 0 ⟨#[]⟩ ⟨#[]⟩ (.slice none 0 0)).toArray rfl rfl 56 _ (b6.one s5 (by have := b5.lt; omega)) sizeNd rfl (ndL_one _ _ _ _ rfl) ?_); intro w8 s6 B6))
    have F : Fr No W w8 := ((((f3.no f5).no f6).one s5 (.inr (Nat.le_trans f3.size hg5))).one s6 (.inr (Nat.le_trans (Nat.le_trans f3.size f5.size) hg6)))
    have hG5 := Nat.le_trans f3.size hg5
    have hG6 := Nat.le_trans (Nat.le_trans f3.size f5.size) hg6
    have h56 : g5 ≠ g6 := by have := b5.lt; omega
    have B5 : Blk w8 g5 56 (ndL 2 0 ⟨#[]⟩ ⟨#[]⟩ (.slice none 0 0)) := B5.one s6 h56
    clear f5 f6 s5 s6 b5 b6 hX
    have HN : Kp (∀ (g : Nat) (w : World), W.heap.size ≤ g → ∀ W', Fr No W w → Fr (One g) w W' → NamesIn W' A xs) := ⟨fun g w hg W' f1 f2 hp => by
      obtain ⟨b, o, hA, hb, hc⟩ := H3.out hp
      exact ⟨b, o, hA, fun j hj => Fr.cell (Fr.cell (hc j hj) f1 (fun h => h)) f2 (fun h => by have h : b = g := h; omega)⟩⟩
    refine wp_u (fun u => order_loop1 A c g5 g6 xs (.int .i64 which) w8 u h30 (fun W' f => HN.out g5 w8 hG5 W' F f) B5 B6 h56 _ (fun u ws f => ?_) (fun u a va ws f b5 ea b6 pa ap sz => ?_)) rfl
    · go_ret
      exact ⟨rfl, F.one f (.inr hG5)⟩
    · have F1 := F.one f (.inr hG5)
      go_upto_block 4 with fail
      refine wp_u (fun u => order_loop2 A c g5 g6 xs (.int .i64 which) ws u h30 (fun W' f => HN.out g6 ws hG6 W' F1 f) a va b5 ea b6 h56 ap sz _ (fun u b vb ws f b5 ea b6 eb pb => ?_)) rfl
      obtain rfl := pa.both pb
      have F2 := F1.one f (.inr hG6)
      simp only [Exit.then]
      refine ‹∀ (a : Act) (w : World), Code.wp Try.prog _ _ a w → _› _ _ ?_
      refine wp_u (fun u => order_tail A c g5 g6 xs which ws u h30 a va vb b5 ea b6 eb pa sz _ (fun u ws f => ?_)) rfl
      go_ret
      exact ⟨rfl, F2.no f⟩
  · have h30z : (30 : Int) < (xs.length : Int) := by omega
    go_enter Try.func10, Try.ntmps10
    go_wp2_with (first | (go_at_call 35; go_must (refine (awake_any _).mono ?_); rintro e w3 ⟨rfl, f3⟩; have hX := hX.no f3))
    go_ret
    exact ⟨rfl, f3⟩
end Go.Proofs.Ytenlokbfjajbbaa.Nd
