/- Texts joined by merge.py: ChFillA, ChAwake. -/
import Derived.Test.YtaohfmmapammcaaDoorChOne
/- chunk.Fill, handed a closure (the law's awake). Conditions: sizes are bounded, as written out. -/
set_option linter.unusedSimpArgs false
set_option linter.unusedVariables false
namespace Go.Proofs.YtaohfmmapammcaaDoor.ChA
open Go Go.RowKit Go.Proofs.YtaohfmmapammcaaDoorW.PrintWords Go.Proofs.YtaohfmmapammcaaDoor.Reg Go.Proofs.YtaohfmmapammcaaDoor.Sha Go.Proofs.YtaohfmmapammcaaDoor.Dig Go.Proofs.YtaohfmmapammcaaDoor.Ev Go.Proofs.YtaohfmmapammcaaDoor.Ch

noncomputable def bodyFill : Code := Tryd.f23.body.getD .skip
abbrev CloN : Nat := 28
abbrev LenN : Nat := 32

/-- What the closure answers, in every world behind w in which nothing of w has turned. -/
structure Gets (w : World) (get : List UInt8 → Option (List UInt8)) : Prop where
  calls : ∀ W', Fr No w W' → ∀ n, Calls Tryd.prog 28 #[.string (bs n)] W' fun e w'' => e = .returned (.tuple #[.string (bs ((get n).getD [])), .bool (get n).isSome]) ∧ Fr No W' w''
  size : ∀ n c, get n = some c → c.length ≤ 1073741824

set_option maxHeartbeats 8000000 in
set_option maxRecDepth 100000 in
theorem fill_loop1 (w : World) (get : List UInt8 → Option (List UInt8)) (hG : Gets w get) (names : List (List UInt8)) (N : Nat) (hN : N = names.length) (hNb : N ≤ 4096) (A : Option Addr) (c gz : Nat) (size : Int) (hs0 : 0 ≤ size) (hs1 : size ≤ 4096)
    (hX : NamesC w A names) (W : World) (u : Nat → Value) (fW : Fr No w W) (bz : Blk W gz 3 [.int .i64 size]) (Q : Exit → Act → World → Prop)
    (hR : ∀ (u : Nat → Value) ws, Fr No W ws → ¬ allF get size names → Q .ret { tmps := List.toArray (.slice A N c :: .int .i64 size :: .func (.func CloN) #[] #[] :: u 3 :: .pointer (some ⟨gz, 0, none⟩) :: u 5 :: .string ⟨#[]⟩ :: .int .i64 4 :: .func (.func LenN) #[] #[.pointer (some ⟨gz, 0, none⟩)] :: u 9 :: u 10 :: u 11 :: u 12 :: u 13 :: u 14 :: u 15 :: u 16 :: u 17 :: u 18 :: u 19 :: u 20 :: u 21 :: u 22 :: u 23 :: u 24 :: u 25 :: u 26 :: u 27 :: u 28 :: u 29 :: u 30 :: u 31 :: u 32 :: u 33 :: u 34 :: u 35 :: u 36 :: u 37 :: u 38 :: u 39 :: u 40 :: u 41 :: u 42 :: u 43 :: u 44 :: u 45 :: u 46 :: u 47 :: u 48 :: u 49 :: u 50 :: u 51 :: u 52 :: u 53 :: u 54 :: u 55 :: u 56 :: u 57 :: u 58 :: u 59 :: u 60 :: u 61 :: u 62 :: u 63 :: u 64 :: u 65 :: u 66 :: u 67 :: u 68 :: u 69 :: u 70 :: u 71 :: u 72 :: u 73 :: []), defers := [] } ws)
    (hQ : ∀ (u : Nat → Value) B c9 ws, Fr No W ws → allF get size names → ws.ownsRow W.heap.size 9 1 (.slice B N c9) N (vals (gotF get size names)) → Q .normal { tmps := List.toArray (.slice A N c :: .int .i64 size :: .func (.func CloN) #[] #[] :: u 3 :: .pointer (some ⟨gz, 0, none⟩) :: u 5 :: u 6 :: u 7 :: .func (.func LenN) #[] #[.pointer (some ⟨gz, 0, none⟩)] :: .slice B N c9 :: u 10 :: u 11 :: u 12 :: u 13 :: u 14 :: u 15 :: u 16 :: u 17 :: u 18 :: u 19 :: u 20 :: u 21 :: u 22 :: u 23 :: u 24 :: u 25 :: u 26 :: u 27 :: u 28 :: u 29 :: u 30 :: u 31 :: u 32 :: u 33 :: u 34 :: u 35 :: u 36 :: u 37 :: u 38 :: u 39 :: u 40 :: u 41 :: u 42 :: u 43 :: u 44 :: u 45 :: u 46 :: u 47 :: u 48 :: u 49 :: u 50 :: u 51 :: u 52 :: u 53 :: u 54 :: u 55 :: u 56 :: u 57 :: u 58 :: u 59 :: u 60 :: u 61 :: u 62 :: u 63 :: u 64 :: u 65 :: u 66 :: u 67 :: u 68 :: u 69 :: u 70 :: u 71 :: u 72 :: u 73 :: []), defers := [] } ws) :
    Code.wp Tryd.prog (sub [1,1,1,1,0,1] bodyFill) Q { tmps := List.toArray (.slice A N c :: .int .i64 size :: .func (.func CloN) #[] #[] :: u 3 :: .pointer (some ⟨gz, 0, none⟩) :: u 5 :: u 6 :: u 7 :: .func (.func LenN) #[] #[.pointer (some ⟨gz, 0, none⟩)] :: .slice none 0 0 :: u 10 :: u 11 :: u 12 :: u 13 :: u 14 :: u 15 :: u 16 :: u 17 :: u 18 :: u 19 :: u 20 :: u 21 :: u 22 :: u 23 :: u 24 :: u 25 :: u 26 :: u 27 :: u 28 :: u 29 :: u 30 :: u 31 :: .slice A N c :: .int .i64 (N : Int) :: .int .i64 0 :: u 35 :: u 36 :: u 37 :: u 38 :: u 39 :: u 40 :: u 41 :: u 42 :: u 43 :: u 44 :: u 45 :: u 46 :: u 47 :: u 48 :: u 49 :: u 50 :: u 51 :: u 52 :: u 53 :: u 54 :: u 55 :: u 56 :: u 57 :: u 58 :: u 59 :: u 60 :: u 61 :: u 62 :: u 63 :: u 64 :: u 65 :: u 66 :: u 67 :: u 68 :: u 69 :: u 70 :: u 71 :: u 72 :: u 73 :: []), defers := [] } W := by
  conv => arg 2; whnf
  have HQ := Kp.mk hQ
  have HR := Kp.mk hR
  have HX := Kp.mk hX
  have HG := Kp.mk hG
  have HN0 := Kp.mk hN
  have FW := Kp.mk fW
  clear hQ hR hX hG hN fW
  refine wp_block ?_
  refine wp_loop_ghost_k (fun n a' w' => ∃ (i : Nat) (B : Option Addr) (c9 : Nat) (u : Nat → Value), (n + i = N ∧ Fr No W w' ∧ Blk w' gz 3 [.int .i64 size] ∧ w'.ownsRow W.heap.size 9 1 (.slice B i c9) i (vals ((gotF get size names).take i)) ∧ (∀ j x, j < i → names[j]? = some x → (oneF get size j x).isSome)) ∧ a' = { tmps := List.toArray (.slice A N c :: .int .i64 size :: .func (.func CloN) #[] #[] :: u 3 :: .pointer (some ⟨gz, 0, none⟩) :: u 5 :: u 6 :: u 7 :: .func (.func LenN) #[] #[.pointer (some ⟨gz, 0, none⟩)] :: .slice B i c9 :: u 10 :: u 11 :: u 12 :: u 13 :: u 14 :: u 15 :: u 16 :: u 17 :: u 18 :: u 19 :: u 20 :: u 21 :: u 22 :: u 23 :: u 24 :: u 25 :: u 26 :: u 27 :: u 28 :: u 29 :: u 30 :: u 31 :: .slice A N c :: .int .i64 (N : Int) :: .int .i64 (i : Int) :: u 35 :: u 36 :: u 37 :: u 38 :: u 39 :: u 40 :: u 41 :: u 42 :: u 43 :: u 44 :: u 45 :: u 46 :: u 47 :: u 48 :: u 49 :: u 50 :: u 51 :: u 52 :: u 53 :: u 54 :: u 55 :: u 56 :: u 57 :: u 58 :: u 59 :: u 60 :: u 61 :: u 62 :: u 63 :: u 64 :: u 65 :: u 66 :: u 67 :: u 68 :: u 69 :: u 70 :: u 71 :: u 72 :: u 73 :: []), defers := [] }) N
    ⟨0, none, 0, u, ⟨rfl, Fr.refl _ _, bz, World.ownsRow_nil _ _ _ _, fun j _ hj => absurd hj (Nat.not_lt_zero _)⟩, rfl⟩ ?_
  have hgz := bz.lt
  clear bz
  rintro n a' w' ⟨i, B, c9, u, ⟨hn, f, bz, ho, hall⟩, rfl⟩ J K hJ hK
  have HJ := Kp.mk hJ
  have HK := Kp.mk hK
  have F := Kp.mk f
  have HN := Kp.mk hn
  have HO := Kp.mk ho
  have HA := Kp.mk hall
  clear hJ hK f hn ho hall
  by_cases hlt : i < N
  · have hltz : (i : Int) < (N : Int) := by omega
    obtain ⟨x, hx⟩ : ∃ x, names[i]? = some x := ⟨_, List.getElem?_eq_getElem (by rw [← HN0.out]; exact hlt)⟩
    obtain ⟨b, o, rfl, hcc⟩ := HX.out.out (by rw [← HN0.out]; omega)
    have l1 := hcc _ (FW.out.no F.out) i x hx
    clear hcc
    have HXX := Kp.mk hx
    have cz := bz.at_ 0 rfl
    have HF : Kp (Fr No w w') := ⟨FW.out.no F.out⟩
    have hb : W.heap.size ≤ w'.heap.size := F.out.size
    have CL : Kp (∀ W, Blk W gz 3 [.int .i64 size] → Calls Tryd.prog 32 #[.int .i64 (i : Int), .pointer (some ⟨gz, 0, none⟩)] W fun e w' => e = .returned (.int .i64 (lenF size i)) ∧ w' = W) := ⟨fun W hb => len_any size i gz W hs0 hs1 (by omega) hb⟩
    have hl0 : lenF size i ≤ 16 := lenF_le size i
    have CNo : Kp (∀ W, Calls Tryd.prog 29 #[.int .i64 (lenF size i)] W fun e w' => e = .returned (.string (bs (zerosL (lenF size i)))) ∧ Fr No W w') := ⟨noughts_any _ (by omega)⟩
    have CG := Kp.mk (fun W' hf => HG.out.calls W' hf x)
    have HO1 : Kp (oneF get size i x = if x = [] then some (zerosL (lenF size i)) else get x) := ⟨rfl⟩
    have NXT : ∀ y, oneF get size i x = some y → Kp (vals ((gotF get size names).take (i + 1)) = vals ((gotF get size names).take i) ++ [.string (bs y)]) := fun y hy => ⟨gotF_take get size names i x y hx hy⟩
    have ALL : ∀ y, oneF get size i x = some y → Kp (∀ j z, j < i + 1 → names[j]? = some z → (oneF get size j z).isSome) := fun y hy => ⟨fun j z hj hz => by
      by_cases e : j = i
      · subst e
        rw [hx] at hz
        cases hz
        rw [hy]; rfl
      · exact HA.out j z (by omega) hz⟩
    have NO : oneF get size i x = none → ¬ allF get size names := fun h1 h2 => by
      have := h2 i x hx
      rw [h1] at this
      cases this
    clear hx HX
    generalize lenF size i = L at CL CNo hl0 HO1
    by_cases hxe : x = []
    · subst hxe
      have hy : oneF get size i [] = some (zerosL L) := by rw [HO1.out, if_pos rfl]
      have NXT := NXT _ hy
      have ALL := ALL _ hy
      clear NO HO1 CG hy
      generalize zerosL L = y at CNo NXT
      go_wp2_with (first
        | (go_at_call 32; refine (CL.out _ bz).mono ?_; rintro e w1 ⟨rfl, rfl⟩)
        | (go_at_call 29; refine (CNo.out _).mono ?_; rintro e w2 ⟨rfl, f2⟩)
        | ((with_reducible refine gate_dst (N := 55) rfl ?_); refine ev_lit rfl 9 [.string (bs y)] 1 (by first | (go_simp; done) | (go_simp; rfl)) ?_; intro gl w3 hgl f3 bl)
        | ((with_reducible refine gate_dst (N := 56) rfl ?_); refine ev_append rfl (.tmp 53) (.tmp 55) 35 9 (.string ⟨#[]⟩) 1 16 rfl Tryd.underlying35 infoStr rfl (by decide) (by decide) W.heap.size _ _ _ rfl (own_no (own_no HO.out f2) f3) (by have := f2.size; have := f3.size; omega) ⟨gl, 0, none⟩ 1 1 _ rfl rfl (news_blk bl) (by simp [Value.oneCell']) (by omega) ?_; intro A2 c2 w4 o4 f4 hat))
      refine HK.out _ _ (Handed.intro (n - 1) (by have := HN.out; omega) (HJ.out _ _ _ ⟨i + 1, A2, c2, ex_u ⟨by have := HN.out; omega, ((F.out.no f2).no f3).trans f4 (fun k hk => .inr (own_new_base HO.out k hk)), ((bz.no f2).no f3).keep f4 (fun hk => by have := own_new_base HO.out _ hk; omega), by rw [NXT.out]; exact o4, ALL.out⟩ rfl⟩))
    · have hxl : x.isEmpty = false := by cases x with | nil => exact absurd rfl hxe | cons _ _ => rfl
      have hoe : oneF get size i x = get x := by rw [HO1.out, if_neg hxe]
      cases hg : get x with
      | some y =>
        have hyb := HG.out.size x y hg
        have NXT := NXT y (hoe.trans hg)
        have ALL := ALL y (hoe.trans hg)
        have CG : Kp (∀ W', Fr No w W' → Calls Tryd.prog 28 #[.string (bs x)] W' fun e w'' => e = .returned (.tuple #[.string (bs y), .bool true]) ∧ Fr No W' w'') := ⟨fun W' hf => by
          have := CG.out W' hf
          rw [hg] at this
          exact this⟩
        clear NO HO1 hg hoe hxe
        go_wp2_with (first
          | (go_at_call 32; refine (CL.out _ bz).mono ?_; rintro e w1 ⟨rfl, rfl⟩)
          | (go_at_call 29; refine (CNo.out _).mono ?_; rintro e w2 ⟨rfl, f2⟩)
          | (go_at_call 28; refine (CG.out _ (HF.out.no f2)).mono ?_; rintro e w5 ⟨rfl, f5⟩)
          | ((with_reducible refine gate_dst (N := 55) rfl ?_); refine ev_lit rfl 9 [.string (bs y)] 1 (by first | (go_simp; done) | (go_simp; rfl)) ?_; intro gl w3 hgl f3 bl)
          | ((with_reducible refine gate_dst (N := 56) rfl ?_); refine ev_append rfl (.tmp 53) (.tmp 55) 35 9 (.string ⟨#[]⟩) 1 16 rfl Tryd.underlying35 infoStr rfl (by decide) (by decide) W.heap.size _ _ _ rfl (own_no (own_no (own_no HO.out f2) f5) f3) (by have := f2.size; have := f5.size; have := f3.size; omega) ⟨gl, 0, none⟩ 1 1 _ rfl rfl (news_blk bl) (by simp [Value.oneCell']) (by omega) ?_; intro A2 c2 w4 o4 f4 hat))
        refine HK.out _ _ (Handed.intro (n - 1) (by have := HN.out; omega) (HJ.out _ _ _ ⟨i + 1, A2, c2, ex_u ⟨by have := HN.out; omega, (((F.out.no f2).no f5).no f3).trans f4 (fun k hk => .inr (own_new_base HO.out k hk)), (((bz.no f2).no f5).no f3).keep f4 (fun hk => by have := own_new_base HO.out _ hk; omega), by rw [NXT.out]; exact o4, ALL.out⟩ rfl⟩))
      | none =>
        have hna := Kp.mk (NO (hoe.trans hg))
        have CG : Kp (∀ W', Fr No w W' → Calls Tryd.prog 28 #[.string (bs x)] W' fun e w'' => e = .returned (.tuple #[.string (bs []), .bool false]) ∧ Fr No W' w'') := ⟨fun W' hf => by
          have := CG.out W' hf
          rw [hg] at this
          exact this⟩
        clear NO HO1 hg hoe hxe NXT ALL
        go_wp2_with (first
          | (go_at_call 32; refine (CL.out _ bz).mono ?_; rintro e w1 ⟨rfl, rfl⟩)
          | (go_at_call 29; refine (CNo.out _).mono ?_; rintro e w2 ⟨rfl, f2⟩)
          | (go_at_call 28; refine (CG.out _ (HF.out.no f2)).mono ?_; rintro e w5 ⟨rfl, f5⟩))
        exact K_u (K := Q .ret) (fun u => HR.out u _ ((F.out.no f2).no f5) hna.out) rfl
  · obtain rfl : i = N := by have := HN.out; omega
    have hltz : ¬ (i : Int) < (i : Int) := by omega
    have hga : (gotF get size names).take i = gotF get size names := List.take_of_length_le (by rw [gotF_len, HN0.out]; exact Nat.le_refl _)
    rw [hga] at HO
    have hal : Kp (allF get size names) := ⟨fun j z hz => HA.out j z (by have := (List.getElem?_eq_some_iff.1 hz).1; rw [HN0.out]; exact this) hz⟩
    clear hga HX
    go_wp2_with fail
    exact K_u (fun u => HQ.out u B c9 _ F.out hal.out HO.out) rfl

set_option maxHeartbeats 8000000 in
set_option maxRecDepth 100000 in
theorem fill_loop2 (cs : List (List UInt8)) (N : Nat) (hN : N = cs.length) (hNb : N ≤ 4096) (A B : Option Addr) (c c9 gz base : Nat) (size : Int) (hs0 : 0 ≤ size) (hs1 : size ≤ 4096)
    (W : World) (u : Nat → Value) (bz : Blk W gz 3 [.int .i64 size]) (ho : W.ownsRow base 9 1 (.slice B N c9) N (vals cs)) (hcs : ∀ (i : Nat) (y : List UInt8), cs[i]? = some y → y.length ≤ 1073741824) (Q : Exit → Act → World → Prop)
    (hR : ∀ (u : Nat → Value), ¬ okF size cs → Q .ret { tmps := List.toArray (.slice A N c :: .int .i64 size :: .func (.func CloN) #[] #[] :: u 3 :: .pointer (some ⟨gz, 0, none⟩) :: u 5 :: .string ⟨#[]⟩ :: .int .i64 2 :: .func (.func LenN) #[] #[.pointer (some ⟨gz, 0, none⟩)] :: u 9 :: u 10 :: u 11 :: u 12 :: u 13 :: u 14 :: u 15 :: u 16 :: u 17 :: u 18 :: u 19 :: u 20 :: u 21 :: u 22 :: u 23 :: u 24 :: u 25 :: u 26 :: u 27 :: u 28 :: u 29 :: u 30 :: u 31 :: u 32 :: u 33 :: u 34 :: u 35 :: u 36 :: u 37 :: u 38 :: u 39 :: u 40 :: u 41 :: u 42 :: u 43 :: u 44 :: u 45 :: u 46 :: u 47 :: u 48 :: u 49 :: u 50 :: u 51 :: u 52 :: u 53 :: u 54 :: u 55 :: u 56 :: u 57 :: u 58 :: u 59 :: u 60 :: u 61 :: u 62 :: u 63 :: u 64 :: u 65 :: u 66 :: u 67 :: u 68 :: u 69 :: u 70 :: u 71 :: u 72 :: u 73 :: []), defers := [] } W)
    (hQ : ∀ (u : Nat → Value), okF size cs → Q .normal { tmps := List.toArray (.slice A N c :: .int .i64 size :: .func (.func CloN) #[] #[] :: u 3 :: .pointer (some ⟨gz, 0, none⟩) :: u 5 :: u 6 :: u 7 :: .func (.func LenN) #[] #[.pointer (some ⟨gz, 0, none⟩)] :: .slice B N c9 :: u 10 :: u 11 :: u 12 :: u 13 :: u 14 :: u 15 :: u 16 :: u 17 :: u 18 :: u 19 :: u 20 :: u 21 :: u 22 :: u 23 :: u 24 :: u 25 :: u 26 :: u 27 :: u 28 :: u 29 :: u 30 :: u 31 :: u 32 :: u 33 :: u 34 :: u 35 :: u 36 :: u 37 :: u 38 :: u 39 :: u 40 :: u 41 :: u 42 :: u 43 :: u 44 :: u 45 :: u 46 :: u 47 :: u 48 :: u 49 :: u 50 :: u 51 :: u 52 :: u 53 :: u 54 :: u 55 :: u 56 :: u 57 :: u 58 :: u 59 :: u 60 :: u 61 :: u 62 :: u 63 :: u 64 :: u 65 :: u 66 :: u 67 :: u 68 :: u 69 :: u 70 :: u 71 :: u 72 :: u 73 :: []), defers := [] } W) :
    Code.wp Tryd.prog (sub [1,1,1,1,1,0,1] bodyFill) Q { tmps := List.toArray (.slice A N c :: .int .i64 size :: .func (.func CloN) #[] #[] :: u 3 :: .pointer (some ⟨gz, 0, none⟩) :: u 5 :: u 6 :: u 7 :: .func (.func LenN) #[] #[.pointer (some ⟨gz, 0, none⟩)] :: .slice B N c9 :: u 10 :: u 11 :: u 12 :: u 13 :: u 14 :: u 15 :: u 16 :: u 17 :: u 18 :: u 19 :: u 20 :: u 21 :: u 22 :: u 23 :: u 24 :: u 25 :: u 26 :: u 27 :: u 28 :: u 29 :: u 30 :: u 31 :: u 32 :: u 33 :: u 34 :: u 35 :: u 36 :: u 37 :: u 38 :: u 39 :: u 40 :: u 41 :: u 42 :: u 43 :: u 44 :: u 45 :: u 46 :: u 47 :: u 48 :: u 49 :: u 50 :: u 51 :: u 52 :: u 53 :: u 54 :: u 55 :: u 56 :: u 57 :: .slice B N c9 :: .int .i64 (N : Int) :: .int .i64 0 :: u 61 :: u 62 :: u 63 :: u 64 :: u 65 :: u 66 :: u 67 :: u 68 :: u 69 :: u 70 :: u 71 :: u 72 :: u 73 :: []), defers := [] } W := by
  conv => arg 2; whnf
  have HQ := Kp.mk hQ
  have HR := Kp.mk hR
  have HC := Kp.mk hcs
  have HO := Kp.mk ho
  have HN0 := Kp.mk hN
  clear hQ hR hcs ho hN
  refine wp_block ?_
  refine wp_loop_ghost_k (fun n a' w' => ∃ (i : Nat) (u : Nat → Value), (n + i = N ∧ w' = W ∧ (∀ j y, j < i → cs[j]? = some y → (y.length : Int) = lenF size j)) ∧ a' = { tmps := List.toArray (.slice A N c :: .int .i64 size :: .func (.func CloN) #[] #[] :: u 3 :: .pointer (some ⟨gz, 0, none⟩) :: u 5 :: u 6 :: u 7 :: .func (.func LenN) #[] #[.pointer (some ⟨gz, 0, none⟩)] :: .slice B N c9 :: u 10 :: u 11 :: u 12 :: u 13 :: u 14 :: u 15 :: u 16 :: u 17 :: u 18 :: u 19 :: u 20 :: u 21 :: u 22 :: u 23 :: u 24 :: u 25 :: u 26 :: u 27 :: u 28 :: u 29 :: u 30 :: u 31 :: u 32 :: u 33 :: u 34 :: u 35 :: u 36 :: u 37 :: u 38 :: u 39 :: u 40 :: u 41 :: u 42 :: u 43 :: u 44 :: u 45 :: u 46 :: u 47 :: u 48 :: u 49 :: u 50 :: u 51 :: u 52 :: u 53 :: u 54 :: u 55 :: u 56 :: u 57 :: .slice B N c9 :: .int .i64 (N : Int) :: .int .i64 (i : Int) :: u 61 :: u 62 :: u 63 :: u 64 :: u 65 :: u 66 :: u 67 :: u 68 :: u 69 :: u 70 :: u 71 :: u 72 :: u 73 :: []), defers := [] }) N
    ⟨0, u, ⟨rfl, rfl, fun j _ hj => absurd hj (Nat.not_lt_zero _)⟩, rfl⟩ ?_
  rintro n a' w' ⟨i, u, ⟨hn, rfl, hall⟩, rfl⟩ J K hJ hK
  have HJ := Kp.mk hJ
  have HK := Kp.mk hK
  have HN := Kp.mk hn
  have HA := Kp.mk hall
  clear hJ hK hn hall
  by_cases hlt : i < N
  · have hltz : (i : Int) < (N : Int) := by omega
    obtain ⟨y, hy⟩ : ∃ y, cs[i]? = some y := ⟨_, List.getElem?_eq_getElem (by rw [← HN0.out]; exact hlt)⟩
    obtain ⟨g, rfl⟩ : ∃ g, B = some ⟨g, 0, none⟩ := by
      rcases HO.out.2 with ⟨h1, h2⟩ | ⟨g, cap, cur, h1, _⟩
      · injection h1 with h1 h3 h4
        omega
      · injection h1 with h1
        exact ⟨g, h1⟩
    have l1 : w'.cell? ⟨g, i, none⟩ = some (.string (bs y)) := by
      rw [HO.out.cellAt i (by omega), vals_get, hy]; rfl
    have hyb := HC.out i y hy
    have CL : Kp (∀ W, Blk W gz 3 [.int .i64 size] → Calls Tryd.prog 32 #[.int .i64 (i : Int), .pointer (some ⟨gz, 0, none⟩)] W fun e w' => e = .returned (.int .i64 (lenF size i)) ∧ w' = W) := ⟨fun W hb => len_any size i gz W hs0 hs1 (by omega) hb⟩
    have hsz : Kp ((bs y).size = y.length) := ⟨bs_size y⟩
    by_cases he : (y.length : Int) = lenF size i
    · have ALL : Kp (∀ j z, j < i + 1 → cs[j]? = some z → (z.length : Int) = lenF size j) := ⟨fun j z hj hz => by
        by_cases e : j = i
        · subst e
          rw [hy] at hz
          cases hz
          exact he
        · exact HA.out j z (by omega) hz⟩
      rw [← he] at CL
      clear he hy
      go_wp2_with (go_at_call 32; refine (CL.out _ bz).mono ?_; rintro e w1 ⟨rfl, rfl⟩)
      refine HK.out _ _ (Handed.intro (n - 1) (by have := HN.out; omega) (HJ.out _ _ _ ⟨i + 1, ex_u ⟨by have := HN.out; omega, rfl, ALL.out⟩ rfl⟩))
    · have hno : Kp (¬ okF size cs) := ⟨fun h => he (h i y hy)⟩
      generalize lenF size i = L at CL he
      clear hy
      go_wp2_with (go_at_call 32; refine (CL.out _ bz).mono ?_; rintro e w1 ⟨rfl, rfl⟩)
      exact K_u (K := Q .ret) (fun u => HR.out u hno.out) rfl
  · obtain rfl : i = N := by have := HN.out; omega
    have hltz : ¬ (i : Int) < (i : Int) := by omega
    have hal : Kp (okF size cs) := ⟨fun j z hz => HA.out j z (by have := (List.getElem?_eq_some_iff.1 hz).1; rw [HN0.out]; exact this) hz⟩
    go_wp2_with fail
    exact K_u (fun u => HQ.out u hal.out) rfl

set_option maxHeartbeats 8000000 in
set_option maxRecDepth 100000 in
theorem fill_any (w : World) (get : List UInt8 → Option (List UInt8)) (hG : Gets w get) (names : List (List UInt8)) (A : Option Addr) (c : Nat) (size : Int) (hs0 : -9223372036854775808 ≤ size) (hs1 : size ≤ 9223372036854775807)
    (hX : NamesC w A names) (hNb : names.length ≤ 1099511627776) :
    Calls Tryd.prog 23 #[.slice A names.length c, .int .i64 size, .func (.func CloN) #[] #[]] w fun e w' => e = .returned (.tuple #[.string (bs (fillL get names size).1), .int .i64 (fillL get names size).2]) ∧ Fr No w w' := by
  have hmf : ∀ (fn : Fn) (first cap : Array Value) (w : World), (Instr.makeFunc fn first cap).run Tryd.prog w = .ok (.func fn first cap) w := fun _ _ _ _ => rfl
  have HX := Kp.mk hX
  have HG := Kp.mk hG
  clear hX hG
  obtain ⟨N, hN⟩ : ∃ N, N = names.length := ⟨_, rfl⟩
  rw [← hN] at hNb ⊢
  by_cases c1 : size < 0
  · have hf : fillL get names size = ([], 1) := by unfold fillL; rw [if_pos c1]
    rw [hf]
    clear hf hs0 hs1 hN
    go_enter Tryd.func23, Tryd.ntmps23
    go_wp2_with ((with_reducible refine gate_dst (N := 4) rfl ?_); refine ev_box rfl 3 (.tmp 1) rfl (.int .i64 size) rfl [.int .i64 size] rfl ?_; intro gz w1 hgz f1 bz; have cz := bz.at_ 0 rfl)
    go_ret2
    exact ⟨rfl, f1⟩
  have c1' : 0 ≤ size := by omega
  by_cases c2 : 4096 < size
  · have hf : fillL get names size = ([], 1) := by unfold fillL; rw [if_neg c1, if_pos c2]
    rw [hf]
    clear hf hs0 hs1 c1 hN
    go_enter Tryd.func23, Tryd.ntmps23
    go_wp2_with ((with_reducible refine gate_dst (N := 4) rfl ?_); refine ev_box rfl 3 (.tmp 1) rfl (.int .i64 size) rfl [.int .i64 size] rfl ?_; intro gz w1 hgz f1 bz; have cz := bz.at_ 0 rfl)
    go_ret2
    exact ⟨rfl, f1⟩
  have c2' : size ≤ 4096 := by omega
  by_cases c3 : (N : Int) = (size + 15) / 16
  · have hN4 : N ≤ 4096 := by omega
    have CJ : Kp (∀ W (B : Option Addr) c9 base, W.ownsRow base 9 1 (.slice B N c9) N (vals (gotF get size names)) → okF size (gotF get size names) → Calls Tryd.prog 33 #[.slice B N c9, .string ⟨#[]⟩] W fun e w' => e = .returned (.string (bs (gotF get size names).flatten)) ∧ Fr No W w') := ⟨fun W B c9 base ho hok => by
      have hl : ((gotF get size names).map bs).length = N := by rw [List.length_map, gotF_len, hN]
      obtain ⟨A', c', hv, hc', hS⟩ := own_strs (w := W) (xs := (gotF get size names).map bs) (by simpa [vals, List.map_map, Function.comp_def] using ho) hl.symm
      injection hv with h1 h2 h3
      subst h1 h3
      have hfl := ok_flat _ _ hok
      rw [gotF_len, ← hN] at hfl
      have h := join_any B c9 ((gotF get size names).map bs) W hS hc' (by rw [cat_flat]; omega) (by rw [hl]; omega)
      rw [hl, cat_flat] at h
      exact h.mono fun e w' ⟨h1, h2⟩ => ⟨h1, Fr.of_below h2⟩⟩
    have hR1 : Kp (¬ allF get size names → fillL get names size = ([], 4)) := ⟨fun h => by unfold fillL; rw [if_neg c1, if_neg c2, if_neg (by rw [← hN, ← c3]; exact fun h => h rfl), if_pos h]⟩
    have hR2 : Kp (allF get size names → ¬ okF size (gotF get size names) → fillL get names size = ([], 2)) := ⟨fun h1 h2 => by unfold fillL; rw [if_neg c1, if_neg c2, if_neg (by rw [← hN, ← c3]; exact fun h => h rfl), if_neg (fun h => h h1), if_pos h2]⟩
    have hR3 : Kp (allF get size names → okF size (gotF get size names) → fillL get names size = ((gotF get size names).flatten, 0)) := ⟨fun h1 h2 => by unfold fillL; rw [if_neg c1, if_neg c2, if_neg (by rw [← hN, ← c3]; exact fun h => h rfl), if_neg (fun h => h h1), if_neg (fun h => h h2)]⟩
    have HN := Kp.mk hN
    have hcs : Kp (∀ (i : Nat) (y : List UInt8), (gotF get size names)[i]? = some y → y.length ≤ 1073741824) := ⟨fun i y hy => by
      simp only [gotF, List.getElem?_mapIdx, Option.map_eq_some_iff] at hy
      obtain ⟨x, hx, hy⟩ := hy
      subst hy
      unfold oneF
      split
      · simp only [Option.getD_some, zerosL_len]
        have := lenF_le size i
        omega
      · cases hg : get x with
        | none => simp
        | some z => exact HG.out.size x z hg⟩
    have c4 : ((N : Int) != (size + 15) / 16) = false := by simp [c3]
    have c5 : ((N : Int) != (size + 16 - 1) / 16) = false := by rw [show size + 16 - 1 = size + 15 by omega]; exact c4
    clear hs0 hs1 c1 c2 hN c3
    go_enter Tryd.func23, Tryd.ntmps23
    go_upto_block 0 with ((with_reducible refine gate_dst (N := 4) rfl ?_); refine ev_box rfl 3 (.tmp 1) rfl (.int .i64 size) rfl [.int .i64 size] rfl ?_; intro gz w1 hgz f1 bz; have cz := bz.at_ 0 rfl)
    clear cz
    refine wp_u (fun u => fill_loop1 w get HG.out names N HN.out hN4 A c gz size c1' c2' HX.out w1 u f1 bz _ ?_ ?_) rfl
    · intro u ws fs hna
      have e := Kp.mk (hR1.out hna)
      go_wp2_with fail
      go_ret2
      exact ⟨by rw [e.out]; rfl, f1.no fs⟩
    · intro u B c9 ws fs hal ho
      have HAL := Kp.mk hal
      have HO := Kp.mk ho
      have bz := bz.no fs
      clear hal ho
      go_upto_block 2 with fail
      refine wp_u (fun u => fill_loop2 (gotF get size names) N (by rw [gotF_len]; exact HN.out) hN4 A B c c9 gz w1.heap.size size c1' c2' ws u bz HO.out hcs.out _ ?_ ?_) rfl
      · intro u hno
        have e := Kp.mk (hR2.out HAL.out hno)
        go_wp2_with fail
        go_ret2
        exact ⟨by rw [e.out]; rfl, f1.no fs⟩
      · intro u hok
        have e := Kp.mk (hR3.out HAL.out hok)
        have HOK := Kp.mk hok
        clear hok
        generalize gotF get size names = cs at CJ HO HOK e
        go_wp2_with (go_at_call 33; refine (CJ.out _ B c9 _ HO.out HOK.out).mono ?_; rintro e w5 ⟨rfl, f5⟩)
        go_ret2
        exact ⟨by rw [e.out]; rfl, (f1.no fs).no f5⟩
  · have hf : fillL get names size = ([], 1) := by unfold fillL; rw [if_neg c1, if_neg c2, if_pos (by rw [← hN]; exact c3)]
    rw [hf]
    clear hf hs0 hs1 c1 c2 hN
    have c4 : ((N : Int) != (size + 15) / 16) = true := by simpa using c3
    have c5 : ((N : Int) != (size + 16 - 1) / 16) = true := by rw [show size + 16 - 1 = size + 15 by omega]; exact c4
    clear c3
    go_enter Tryd.func23, Tryd.ntmps23
    go_wp2_with ((with_reducible refine gate_dst (N := 4) rfl ?_); refine ev_box rfl 3 (.tmp 1) rfl (.int .i64 size) rfl [.int .i64 size] rfl ?_; intro gz w1 hgz f1 bz; have cz := bz.at_ 0 rfl)
    go_ret2
    exact ⟨rfl, f1⟩
end Go.Proofs.YtaohfmmapammcaaDoor.ChA

/- The law's awake: it says yes. No conditions. -/
set_option linter.unusedSimpArgs false
set_option linter.unusedVariables false
namespace Go.Proofs.YtaohfmmapammcaaDoor.Ch
open Go Go.RowKit Go.Proofs.YtaohfmmapammcaaDoorW.PrintWords Go.Proofs.YtaohfmmapammcaaDoor.Sha Go.Proofs.YtaohfmmapammcaaDoor.Dig Go.Proofs.YtaohfmmapammcaaDoor.Ev

def t16 : List UInt8 := [48, 49, 50, 51, 52, 53, 54, 55, 56, 57, 97, 98, 99, 100, 101, 102]
def t18 : List UInt8 := [48, 49, 50, 51, 52, 53, 54, 55, 56, 57, 97, 98, 99, 100, 101, 102, 0, 0]
theorem cut18 : cutL t18 = [t16, [0, 0]] := by decide +kernel
theorem names18 : namesL t18 = [sumL t16, []] := by
  unfold namesL
  rw [cut18]
  have h1 : nameL t16 = sumL t16 := by unfold nameL; rw [if_neg (by decide +kernel)]
  have h2 : nameL [0, 0] = [] := by unfold nameL; rw [if_pos (by decide +kernel)]
  simp only [List.map_cons, List.map_nil, h1, h2]
theorem fill18 (S : List UInt8) (hS : S ≠ []) : fillL (fun _ => some t16) [S, []] 18 = (t18, 0) := by
  have h0 : oneF (fun _ => some t16) 18 0 S = some t16 := by unfold oneF; rw [if_neg hS]
  have h1 : oneF (fun _ => some t16) 18 1 [] = some [0, 0] := by unfold oneF; rw [if_pos rfl]; decide +kernel
  have hg : gotF (fun _ => some t16) 18 [S, []] = [t16, [0, 0]] := by
    simp only [gotF, List.mapIdx_cons, List.mapIdx_nil, h0, h1, Nat.zero_add, Option.getD_some]
  have ha : allF (fun _ => some t16) 18 [S, []] := by
    intro i n hi
    match i, hi with
    | 0, hi => cases hi; rw [h0]; rfl
    | 1, hi => cases hi; rw [h1]; rfl
    | i + 2, hi => simp at hi
  have ho : okF 18 [t16, [0, 0]] := by
    intro i n hi
    match i, hi with
    | 0, hi => cases hi; decide +kernel
    | 1, hi => cases hi; decide +kernel
    | i + 2, hi => simp at hi
  unfold fillL
  rw [if_neg (by decide), if_neg (by decide), if_neg (by simp), if_neg (fun h => h ha), hg, if_neg (fun h => h ho)]
  rfl

set_option maxHeartbeats 2000000 in
theorem clo_any (W : World) (n : List UInt8) : Calls Tryd.prog 28 #[.string (bs n)] W fun e w' => e = .returned (.tuple #[.string (bs ((((fun _ => some t16 : List UInt8 → Option (List UInt8)) n)).getD [])), .bool (((fun _ => some t16 : List UInt8 → Option (List UInt8)) n).isSome)]) ∧ Fr No W w' := by
  go_enter Tryd.func28, Tryd.ntmps28
  go_wp2_with fail
  go_ret2
  exact ⟨rfl, Fr.refl _ _⟩
theorem gets_awake (w : World) : ChA.Gets w (fun _ => some t16) := ⟨fun W' _ n => clo_any W' n, fun n c h => by cases h; decide⟩

/-- Names in the call's own memory. -/
theorem namesC_own {W : World} {base : Nat} {A : Option Addr} {c : Nat} {xs : List (List UInt8)} (h : W.ownsRow base 9 1 (.slice A xs.length c) xs.length (vals xs)) : NamesC W A xs := ⟨fun h0 => by
  rcases h.2 with ⟨h1, h2⟩ | ⟨g, cap, cur, h1, _⟩
  · injection h1 with h1 h3 h4
    omega
  · injection h1 with h1 _ _
    subst h1
    refine ⟨g, 0, rfl, fun W' f i n hi => ?_⟩
    have hi2 := (List.getElem?_eq_some_iff.1 hi).1
    rw [Nat.zero_add]
    refine Fr.cell ?_ f (fun h => h)
    rw [h.cellAt i (by omega), vals_get, hi]
    rfl⟩

set_option maxHeartbeats 8000000 in
set_option maxRecDepth 100000 in
theorem awake_any (W : World) : Calls Tryd.prog 8 #[] W fun e w' => e = .returned (.bool true) ∧ Fr No W w' := by
  have c1 : Kp (∀ W, Calls Tryd.prog 9 #[.string ⟨#[97, 98]⟩, .int .i64 4, .string ⟨#[99]⟩] W fun e w' => e = .returned (.tuple #[.string ⟨#[97, 98, 0, 0, 99]⟩, .int .i64 0]) ∧ Fr No W w') := ⟨fun W => by
    have h := put_any [97, 98] 4 [99] (by decide) (by decide) W
    rw [show putL [97, 98] 4 [99] = ([97, 98, 0, 0, 99], 0) by decide +kernel] at h
    exact h⟩
  have c2 : Kp (∀ W, Calls Tryd.prog 11 #[.string ⟨#[97, 98, 99]⟩, .int .i64 1] W fun e w' => e = .returned (.tuple #[.string ⟨#[97]⟩, .int .i64 0]) ∧ Fr No W w') := ⟨fun W => by
    have h := trunc_any [97, 98, 99] 1 (by decide) W
    rw [show truncL [97, 98, 99] 1 = ([97], 0) by decide +kernel] at h
    exact h⟩
  have c3 : Kp (∀ W, Calls Tryd.prog 13 #[.string ⟨#[97, 98, 99]⟩, .int .i64 1, .int .i64 9] W fun e w' => e = .returned (.tuple #[.string ⟨#[98, 99]⟩, .int .i64 0]) ∧ Fr No W w') := ⟨fun W => by
    have h := get_any [97, 98, 99] 1 9 (by decide) (by decide) (by decide) W
    rw [show getL [97, 98, 99] 1 9 = ([98, 99], 0) by decide +kernel] at h
    exact h⟩
  have c4 : Kp (∀ W, Calls Tryd.prog 15 #[.string ⟨#[120, 121]⟩, .int .i64 1, .string ⟨#[97, 98, 99]⟩, .int .i64 1, .int .i64 2] W fun e w' => e = .returned (.tuple #[.string ⟨#[120, 98, 99]⟩, .int .i64 0]) ∧ Fr No W w') := ⟨fun W => by
    have h := copy_chunk_any [120, 121] 1 [97, 98, 99] 1 2 (by decide) (by decide) (by decide) (by decide) W
    rw [show copyL [120, 121] 1 [97, 98, 99] 1 2 = ([120, 98, 99], 0) by decide +kernel] at h
    exact h⟩
  have c5 : Kp (∀ W, Calls Tryd.prog 9 #[.string ⟨#[]⟩, .int .i64 4096, .string ⟨#[99]⟩] W fun e w' => e = .returned (.tuple #[.string ⟨#[]⟩, .int .i64 3]) ∧ Fr No W w') := ⟨fun W => by
    have h := put_any [] 4096 [99] (by decide) (by decide) W
    rw [show putL [] 4096 [99] = ([], 3) by decide +kernel] at h
    exact h⟩
  obtain ⟨S, hS⟩ : ∃ S, S = sumL t16 := ⟨_, rfl⟩
  have hSl : S.length = 32 := by rw [hS, sumL_len]
  have hSn : S ≠ [] := by intro h; rw [h] at hSl; cases hSl
  have c6 : Kp (∀ W, Calls Tryd.prog 20 #[.string ⟨#[48, 49, 50, 51, 52, 53, 54, 55, 56, 57, 97, 98, 99, 100, 101, 102, 0, 0]⟩] W fun e w' => ∃ g c, e = .returned (.slice (some ⟨g, 0, none⟩) 2 c) ∧ w'.ownsRow W.heap.size 9 1 (.slice (some ⟨g, 0, none⟩) 2 c) 2 (vals [S, []]) ∧ Fr No W w') := ⟨fun W => by
    have h := names_any t18 (by decide) W
    rw [names18, ← hS] at h
    refine h.mono fun e w' ⟨v, he, ho, hf⟩ => ?_
    rcases ho.2 with ⟨_, h2⟩ | ⟨g, cap, cur, hv, _⟩
    · cases h2
    · exact ⟨g, cap, by rw [he, hv]; rfl, by rw [hv] at ho; exact ho, hf⟩⟩
  have c7 : Kp (∀ W base g c, W.ownsRow base 9 1 (.slice (some ⟨g, 0, none⟩) 2 c) 2 (vals [S, []]) → Calls Tryd.prog 23 #[.slice (some ⟨g, 0, none⟩) 2 c, .int .i64 18, .func (.func 28) #[] #[]] W fun e w' => e = .returned (.tuple #[.string ⟨#[48, 49, 50, 51, 52, 53, 54, 55, 56, 57, 97, 98, 99, 100, 101, 102, 0, 0]⟩, .int .i64 0]) ∧ Fr No W w') := ⟨fun W base g c ho => by
    have h := ChA.fill_any W _ (gets_awake W) [S, []] (some ⟨g, 0, none⟩) c 18 (by decide) (by decide) (namesC_own ho) (by simp)
    rw [fill18 S hSn] at h
    exact h⟩
  have c8 : Kp (∀ W, Calls Tryd.prog 18 #[.string ⟨#[97]⟩] W fun e w' => ∃ A c, e = .returned (.slice A 1 c) ∧ Fr No W w') := ⟨fun W => by
    refine (cut_any [97] (by decide) W).mono fun e w' ⟨v, he, ho, hb⟩ => ?_
    obtain ⟨A, c, rfl⟩ := own_slice ho
    exact ⟨A, c, he, Fr.of_below hb⟩⟩
  have c9 : Kp (∀ W, Calls Tryd.prog 26 #[.string ⟨#[0]⟩] W fun e w' => e = .returned (.string ⟨#[]⟩) ∧ Fr No W w') := ⟨fun W => by
    have h := name_any [0] (by decide) W
    rw [show nameL [0] = [] by unfold nameL; rw [if_pos (by decide +kernel)]] at h
    exact h⟩
  have hS32 : (bs S).size = 32 := by rw [bs_size]; exact hSl
  clear hS hSn
  go_enter Tryd.func8, Tryd.ntmps8
  go_wp2_with (first
    | (go_at_call 9; refine (c1.out _).mono ?_; rintro e w1 ⟨rfl, f1⟩; clear c1)
    | (go_at_call 11; refine (c2.out _).mono ?_; rintro e w2 ⟨rfl, f2⟩)
    | (go_at_call 13; refine (c3.out _).mono ?_; rintro e w3 ⟨rfl, f3⟩)
    | (go_at_call 15; refine (c4.out _).mono ?_; rintro e w4 ⟨rfl, f4⟩)
    | (go_at_call 9; refine (c5.out _).mono ?_; rintro e w5 ⟨rfl, f5⟩)
    | (go_at_call 20; refine (c6.out _).mono ?_; rintro e w6 ⟨g, c, rfl, ho, f6⟩; have HO := Kp.mk ho; clear ho)
    | (go_at_call 23; refine (c7.out _ _ _ _ HO.out).mono ?_; rintro e w7 ⟨rfl, f7⟩; have q0 := (own_no HO.out f7).cellAt 0 (by decide); have q1 := (own_no HO.out f7).cellAt 1 (by decide); simp only [vals, List.map_cons, List.map_nil, List.getElem?_cons_zero, List.getElem?_cons_succ] at q0 q1)
    | (go_at_call 18; refine (c8.out _).mono ?_; rintro e w8 ⟨A8, c8', rfl, f8⟩)
    | (go_at_call 26; refine (c9.out _).mono ?_; rintro e w9 ⟨rfl, f9⟩))
  go_ret
  exact ⟨rfl, (((((((f1.no f2).no f3).no f4).no f5).no f6).no f7).no f8).no f9⟩
end Go.Proofs.YtaohfmmapammcaaDoor.Ch
