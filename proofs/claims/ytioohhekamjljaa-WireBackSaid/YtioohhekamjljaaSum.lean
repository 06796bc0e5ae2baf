/- digest.Sum. Conditions: the texts' lengths together at most 2^40. -/
import Derived.Test.YtioohhekamjljaaShaSum
set_option linter.unusedSimpArgs false
set_option linter.unusedVariables false
namespace Go.Proofs.Ytioohhekamjljaa.Dig
open Go Go.RowKit Go.Proofs.Ytioohhekamjljaa.Sha Go.Proofs.YtioohhekamjljaaW.PrintWords Go.Proofs.YtioohhekamjljaaW.PrintLast Go.Proofs.Ytioohhekamjljaa.PWireTells Go.Proofs.Ytioohhekamjljaa.Reg Go.Proofs.Ytioohhekamjljaa.Ev Go.Proofs.Ytioohhekamjljaa.Press

/-- A row of texts that can be read. -/
abbrev Strs (w : World) (A : Option Addr) (xs : List ByteArray) : Prop := Kd.C Kd.string w A xs.length xs
/-- Texts, one behind the other. -/
def cat (xs : List ByteArray) : List UInt8 := (xs.map (·.data.toList)).flatten

theorem join_empty (xs : List (List UInt8)) : Lib.join xs [] = xs.flatten := by
  cases xs with
  | nil => rfl
  | cons x r => rw [Lib.join_cons]; simp [Lib.joinTail]

theorem strs_cells {w : World} {A : Option Addr} {xs : List ByteArray} (h : Strs w A xs) (h0 : 0 < xs.length) :
    ∃ b o, A = some ⟨b, o, none⟩ ∧ b < w.heap.size ∧ ∀ (j : Nat) x, xs[j]? = some x → w.cell? ⟨b, o + j, none⟩ = some (.string x) := by
  obtain ⟨ad, e, hc⟩ := (Kd.reads_of_C (d := ByteArray.empty) h).2.2 h0
  have c0 := hc 0 h0
  obtain ⟨b, o, sp⟩ := ad
  have hsp : sp = none := by
    have := World.cell?_spot c0
    simpa [Addr.add] using this
  subst hsp
  refine ⟨b, o, e, World.block_lt_of_cell? w _ c0, fun j x hx => ?_⟩
  have hj := (List.getElem?_eq_some_iff.1 hx).1
  have := hc j hj
  rw [Addr.add_lit] at this
  rw [this]
  simp [List.getD_eq_getElem?_getD, hx]

theorem join_any (A : Option Addr) (c : Nat) (xs : List ByteArray) (w : World) (h : Strs w A xs) (hc : xs.length ≤ c) (hl : (cat xs).length ≤ 140737488355328) (hn : xs.length ≤ 140737488355328) :
    Calls Try.prog 45 #[.slice A xs.length c, .string ⟨#[]⟩] w fun e w' => e = .returned (.string (bs (cat xs))) ∧ Below w.heap.size w w' := by
  by_cases h0 : xs.length = 0
  · have hx := List.eq_nil_of_length_eq_zero h0
    subst hx
    exact (Try.strings_Join_none A c ⟨#[]⟩ w).mono fun e w' ⟨h1, h2⟩ => ⟨h1, by rw [h2]; exact Below.refl _ _⟩
  · obtain ⟨b, o, rfl, hb, hcell⟩ := strs_cells h (by omega)
    have hj : Lib.join (xs.map (·.data.toList)) (⟨#[]⟩ : ByteArray).data.toList = cat xs := join_empty _
    have := Try.strings_Join b o c xs ⟨#[]⟩ w hcell hb hn hc (by rw [hj]; exact hl)
    rw [hj] at this
    exact this

theorem rep_any (k : Int) (h0 : 0 ≤ k) (h1 : k ≤ 64) (w : World) :
    Calls Try.prog 46 #[.string ⟨#[0]⟩, .int .i64 k] w fun e w' => e = .returned (.string (bs (List.replicate k.toNat 0))) ∧ Below w.heap.size w w' := by
  obtain ⟨c, rfl⟩ := Int.eq_ofNat_of_zero_le h0
  have hr : ∀ c, Lib.repeatL [0] c = List.replicate c 0 := fun c => by
    induction c with
    | zero => rfl
    | succ c ih => simp [Lib.repeatL, ih, List.replicate_succ]
  have h2 : (⟨#[0]⟩ : ByteArray).size = 1 := rfl
  have := Try.strings_Repeat ⟨#[0]⟩ c w (by omega) (by rw [h2]; omega)
  rw [show (⟨#[0]⟩ : ByteArray).data.toList = [0] from rfl, hr] at this
  exact this
theorem num_int (v n : Int) (h0 : 0 ≤ n) (h1 : n ≤ 64) (w : World) :
    Calls Try.prog 47 #[.int .i64 v, .int .i64 n] w fun e w' => e = .returned (.string (bs (numB n.toNat v))) ∧ Below w.heap.size w w' := by
  obtain ⟨c, rfl⟩ := Int.eq_ofNat_of_zero_le h0
  exact num_any v c (by omega) w

theorem index_any {P : Program} (t e n : Nat) (C : List Int) (i : Nat) (h : i < n) (hC : C.length = n) (ht : P.underlying t = some (.array n e)) (he : P.underlying e = some (.int .u32)) (hs : (P.info? e).map (·.size) = some 1) :
    ∀ W : World, (Instr.index t (.agg (nums .u32 C).toArray) (.int .i64 (i : Int))).run P W = .ok (.int .u32 (C.getD i 0)) W := by
  intro W
  have hsz : (sizeOf e).run P W = .ok 1 W := by
    obtain ⟨q, hq, hq1⟩ := Option.map_eq_some_iff.1 hs
    simp [sizeOf, typeInfo, hq, hq1]
  have hg : (nums .u32 C)[i]? = some (.int .u32 (C[i]?.getD 0)) := by
    simp [nums, show i < C.length by omega]
  have h1 : (0 : Int) ≤ i ∧ (i : Int) < n := by omega
  simp [Instr.index, asIntOf, run_underlying ht, h, hsz, part, isAgg, run_underlying he, hg, Sem.run_bind, Result.andThen, Sem.run_pure]

set_option maxHeartbeats 4000000 in
set_option maxRecDepth 100000 in
theorem sum_any (A : Option Addr) (c : Nat) (xs : List ByteArray) (w : World) (h : Strs w A xs) (hc : xs.length ≤ c) (hl : (cat xs).length ≤ 1099511627776) (hn : xs.length ≤ 1099511627776) :
    Calls Try.prog 30 #[.slice A xs.length c] w fun e w' => e = .returned (.string (bs (sumL (cat xs)))) ∧ Below w.heap.size w w' := by
  have hp0 := padd_len (cat xs)
  have hp1 := padd_size (cat xs)
  obtain ⟨L, hL⟩ : ∃ L, L = cat xs := ⟨_, rfl⟩
  have HL := Kp.mk hL
  have HJ := join_any A c xs w h hc (by omega) (by omega)
  rw [← hL] at hl HJ hp0 hp1 ⊢
  have HJJ := Kp.mk HJ
  clear HJ
  have h8 : 0 ≤ (120 - ((L.length : Int) + 1)) % 64 := by omega
  have h9 : (120 - ((L.length : Int) + 1)) % 64 ≤ 64 := by omega
  have h10 : (numB 8 (8 * (L.length : Int))).length ≤ 8 := by rw [numB_len]; omega
  obtain ⟨R, hR⟩ : ∃ R, R = padd L := ⟨_, rfl⟩
  obtain ⟨n, hnn⟩ : ∃ n, n = R.length / 64 := ⟨_, rfl⟩
  have hPl : Kp (R.length = 64 * n) := ⟨by rw [hnn, hR]; omega⟩
  have hPb : Kp (R.length ≤ 1099511627976) := ⟨by rw [hR]; omega⟩
  have hres : sumL L = outB (chain n R hS) := by rw [hnn, hR]; rfl
  have HR := Kp.mk hR
  rw [hres]
  clear hL h hp0 hp1 hR hnn hres
  go_enter Try.func30, Try.ntmps30
  go_wp2_with (first | (go_at_call 45; refine HJJ.out.mono ?_; rintro e w1 ⟨rfl, hb1⟩) | (go_at_call 46; refine (rep_any _ h8 h9 _).mono ?_; rintro e w2 ⟨rfl, hb2⟩) | (go_at_call 47; refine (num_int _ _ (by decide) (by decide) _).mono ?_; rintro e w3 ⟨rfl, hb3⟩) | ((with_reducible refine gate_dst (N := 5) rfl ?_); refine ev_alloc rfl 113 rfl _ (nums .u32 z8) zero82 rfl ?_; intro g5 w4 hg5 f4 b5) | ((with_reducible refine gate_store (t := 113) (p := 5) rfl ?_); refine ev_store_row rfl 113 (.tmp 5) (.tmp 29) rfl g5 (nums .u32 hS).toArray rfl rfl 113 _ b5 size82 rfl (nums_one hS) ?_; intro w5 f5 b5'; clear b5) | (go_at_call 48; refine (constants_any _).mono ?_; rintro e w6 ⟨rfl, hb6⟩)  | ((with_reducible refine gate_dst (N := 6) rfl ?_); refine ev_alloc rfl 114 rfl _ (nums .u32 z64) zero83 rfl ?_; intro g6 w7 hg6 f7 b6) | ((with_reducible refine gate_store (t := 114) (p := 6) rfl ?_); refine ev_store_row rfl 114 (.tmp 6) (.tmp 30) rfl g6 (nums .u32 kT).toArray rfl rfl 114 _ b6 size83 rfl (nums_one kT) ?_; intro w8 f8 b6'; clear b6))
  have F : Kp (Fr No w w8) := ⟨((((((((Fr.of_below hb1).no (Fr.of_below hb2)).no (Fr.of_below hb3)).no f4).one f5 (.inr (by have := hb1.size; have := hb2.size; have := hb3.size; omega))).no (Fr.of_below hb6)).no f7).one f8 (.inr (by have := hb1.size; have := hb2.size; have := hb3.size; have := f4.size; have := f5.size; have := hb6.size; omega)))⟩
  have hg5w : w.heap.size ≤ g5 := by have := hb1.size; have := hb2.size; have := hb3.size; omega
  have hg6w : w.heap.size ≤ g6 := by have := hb1.size; have := hb2.size; have := hb3.size; have := f4.size; have := f5.size; have := hb6.size; omega
  have h56 : g5 ≠ g6 := by have := b5'.lt; have := hb6.size; omega
  have B5 : Kp (Arr w8 g5 113 hS) := ⟨((b5'.no (Fr.of_below hb6)).no f7).one f8 h56⟩
  have B6 : Kp (Arr w8 g6 114 kT) := ⟨b6'⟩
  have h120 : ((120 - ((L.length : Int) + 1)) % 64).toNat = (120 - (L.length + 1) % 64) % 64 := by omega
  have hpad : bs L ++ { data := #[128] } ++ (bs (List.replicate ((120 - ((L.length : Int) + 1)) % 64).toNat 0) ++ bs (numB 8 (8 * (L.length : Int)))) = bs (padd L) := by
    rw [h120, bs_append, show ({ data := #[128] } : ByteArray) = bs [128] from rfl, bs_append, bs_append]; rfl
  clear hb1 hb2 hb3 hb6 f4 f5 f7 f8 b5' b6' hg5 hg6 h8 h9 h10 h120 hc hn HJJ
  rw [hpad]
  clear hpad
  rw [← HR.out]
  clear HR HL hl
  go_loopg [3] n (fun kq v3 wr => ∃ k : Nat, k + kq = n ∧ v3 = .string (bs (R.drop (64 * k))) ∧ Kp (Fr No w wr) ∧ Kp (Arr wr g5 113 (chain k R hS)) ∧ Kp (Arr wr g6 114 kT))
  case atStart => exact ⟨0, by omega, rfl, F, B5, B6⟩
  case round =>
    clear F B5 B6
    obtain ⟨k, hk, rfl, F, B5, B6⟩ := hrel
    by_cases hkn : k < n
    · obtain ⟨S, hS'⟩ : ∃ S, S = R.drop (64 * k) := ⟨_, rfl⟩
      have hSl : 64 ≤ S.length := by rw [hS', List.length_drop]; have := hPl.out; omega
      have hSb : S.length ≤ 1099511627976 := by rw [hS', List.length_drop]; have := hPb.out; omega
      have hSd : Kp (S.drop 64 = R.drop (64 * (k + 1))) := ⟨by rw [hS', List.drop_drop]; congr 1⟩
      have hSe : S.isEmpty = false := by cases S with | nil => simp at hSl | cons _ _ => rfl
      have hSn : ¬ S = [] := by intro h; rw [h] at hSl; simp at hSl
      have hch : Kp (chain (k + 1) R hS = comp (bs S) (chain k R hS) kT) := ⟨by rw [hS', chain_snoc]⟩
      have hcl : Kp ((chain k R hS).length = 8) := ⟨chain_len _ _ _ rfl⟩
      have hex : (bs S).extract 64 S.length = bs (S.drop 64) := by rw [← extract_bs, bs_size]
      have HK := Kp.mk hk
      rw [← hS']
      clear hS' hk
      go_wp2_with (first | ((with_reducible refine gate_dst (N := 35) rfl ?_); refine ev_load_row rfl 113 (.tmp 5) rfl g5 rfl 113 _ B5.out _ Try.underlying113 rfl (by rw [size82, nums_length, hcl.out]) ?_) | ((with_reducible refine gate_dst (N := 7) rfl ?_); refine ev_alloc rfl 113 rfl _ (nums .u32 z8) zero82 rfl ?_; intro g7 w2 hg7 f2 b7) | ((with_reducible refine gate_store (t := 113) (p := 7) rfl ?_); refine ev_store_row rfl 113 (.tmp 7) (.tmp 35) rfl g7 _ rfl rfl 113 _ b7 (by rw [size82]; simp [nums_length, hcl.out]) (by simp [nums_length, hcl.out, z8_len]) (nums_one _) ?_; intro w3 f3 b7') | (go_at_call 49; refine (press_any g7 g5 g6 (chain k R hS) (chain k R hS) kT (bs S) _ (by rw [bs_size]; exact hSl) (by rw [bs_size]; omega) (by simpa [Arr, nums] using b7') ((Blk.no B5.out f2).one f3 (by have := B5.out.lt; omega)) ((Blk.no B6.out f2).one f3 (by have := B6.out.lt; omega)) hcl.out hcl.out rfl (by have := B5.out.lt; omega)).mono ?_; rintro e w4 ⟨rfl, f4, b5⟩))
      go_roundg (gk - 1)
      case measure => have := HK.out; omega
      case rel =>
        have h7 : ¬ (One g7) g6 := fun h => by have h2 : g6 = g7 := h; have := B6.out.lt; omega
        exact ⟨k + 1, by have := HK.out; omega, by rw [hSd.out], ⟨((F.out.no f2).one f3 (.inr (Nat.le_trans F.out.size hg7))).one f4 (.inr hg5w)⟩, ⟨by rw [hch.out]; exact b5⟩, ⟨((B6.out.no f2).one f3 h7).one f4 (Ne.symm h56)⟩⟩
    · obtain rfl : k = n := by omega
      have hdr : R.drop (64 * k) = [] := List.drop_of_length_le (by have := hPl.out; omega)
      have hcl : Kp ((chain k R hS).length = 8) := ⟨chain_len _ _ _ rfl⟩
      have hcr : Kp (∀ i, i < 8 → 0 ≤ (chain k R hS).getD i 0 ∧ (chain k R hS).getD i 0 < 4294967296) := ⟨chain_range k R⟩
      rw [hdr]
      clear hdr hPl hPb hk hkn h56 hg5w hg6w B6
      obtain ⟨C, hC⟩ : ∃ C, C = chain k R hS := ⟨_, rfl⟩
      rw [← hC] at B5 hcl hcr
      have HC := Kp.mk hC
      clear hC
      go_wp2_with (first | ((with_reducible refine gate_dst (N := 38) rfl ?_); refine ev_load_row rfl 113 (.tmp 5) rfl g5 rfl 113 _ B5.out _ Try.underlying113 rfl (by rw [size82, nums_length, hcl.out]) ?_))
      clear B5
      go_loopg [8, 39] 8 (fun kq v8 v39 w' => ∃ i : Nat, i + kq = 8 ∧ v8 = .string (bs (outB (C.take i))) ∧ v39 = .int .i64 i ∧ Kp (Fr No w w'))
      case atStart => exact ⟨0, rfl, rfl, rfl, F⟩
      case round =>
        clear F
        obtain ⟨i, hi, rfl, rfl, F⟩ := hrel
        by_cases hi8 : i < 8
        · have hix := index_any (P := Try.prog) 113 66 8 C i hi8 (by rw [hcl.out]) Try.underlying113 Try.underlying66 size81
          have hnx : Kp (outB (C.take (i + 1)) = outB (C.take i) ++ numB 4 (C.getD i 0)) := ⟨out_snoc C i (by rw [hcl.out]; omega)⟩
          have HI := Kp.mk hi
          have hb0 : (outB (C.take i)).length ≤ 32 := by rw [outB_len, List.length_take]; omega
          have hxr := hcr.out i hi8
          generalize C.getD i 0 = x at hix hnx hxr
          have hx0 := hxr.1
          have hx1 := hxr.2
          clear hxr
          have hb1 : (numB 4 x).length ≤ 4 := by rw [numB_len]; omega
          clear hi
          go_wp2_with (go_at_call 47; refine (num_int _ _ (by decide) (by decide) _).mono ?_; rintro e w3 ⟨rfl, hb3⟩)
          go_roundg (gk - 1)
          case measure => have := HI.out; omega
          case rel => exact ⟨i + 1, by have := HI.out; omega, by rw [hnx.out, bs_append], by go_num, ⟨F.out.no (Fr.of_below hb3)⟩⟩
        · obtain rfl : i = 8 := by omega
          have htk : C.take 8 = C := List.take_of_length_le (by rw [hcl.out]; omega)
          rw [htk]
          clear htk
          go_wp2_with fail
          go_ret
          exact ⟨by rw [← HC.out]; rfl, F.out.below⟩
end Go.Proofs.Ytioohhekamjljaa.Dig
