/- The reference's Sum. Conditions: the texts' lengths together at most 2^40. -/
import Derived.Test.YtaohfmmapammcaaDoorRefBlocks
import Derived.Test.YtaohfmmapammcaaDoorRefHead
set_option linter.unusedSimpArgs false
set_option linter.unusedVariables false
namespace Go.Proofs.YtaohfmmapammcaaDoor.RefSum
open Go Go.RowKit Go.Proofs.YtaohfmmapammcaaDoor.Sha Go.Proofs.YtaohfmmapammcaaDoorW.PrintWords Go.Proofs.YtaohfmmapammcaaDoorW.PrintLast Go.Proofs.YtaohfmmapammcaaDoor.PChunkTells Go.Proofs.YtaohfmmapammcaaDoor.Reg Go.Proofs.YtaohfmmapammcaaDoor.Ev Go.Proofs.YtaohfmmapammcaaDoor.Press Go.Proofs.YtaohfmmapammcaaDoor.Dig

theorem padd_pz (l : List UInt8) : padd l = pz l ((120 - (l.length + 1) % 64) % 64) ++ numB 8 (8 * (l.length : Int)) := by simp [padd, pz]

set_option maxHeartbeats 4000000 in
set_option maxRecDepth 100000 in
theorem rsum_any (A : Option Addr) (c : Nat) (xs : List ByteArray) (w : World) (h : Strs w A xs) (hc : xs.length ≤ c) (hl : (cat xs).length ≤ 1099511627776) (hn : xs.length ≤ 1099511627776) :
    Calls Tryd.prog 31 #[.slice A xs.length c] w fun e w' => e = .returned (.string (bs (sumL (cat xs)))) ∧ Below w.heap.size w w' := by
  have HS := Kp.mk h
  have HN := Kp.mk hn
  clear h hn
  go_enter Tryd.func31, Tryd.ntmps31
  go_upto_block 0 with fail
  refine wp_u (fun u => ref_cat A c xs w u HS.out hl HN.out _ ?_) rfl
  intro w1 A1 c1 f1 o1 u
  obtain ⟨l, hll⟩ : ∃ l, l = cat xs := ⟨_, rfl⟩
  rw [← hll] at hl o1 ⊢
  have HLL := Kp.mk hll
  have O1 := Kp.mk o1
  have F1 := Kp.mk f1
  clear hll o1 f1
  go_upto_block 2 with (first | ((with_reducible refine gate_dst (N := 39) rfl ?_); refine ev_lit rfl 5 [.int .u8 128] 1 (by first | (go_simp; done) | (go_simp; rfl)) ?_; intro gl w2 hgl f2 bl) | ((with_reducible refine gate_dst (N := 40) rfl ?_); refine ev_append rfl (.tmp 38) (.tmp 39) 49 5 (.int .u8 0) 1 1 rfl Tryd.underlying49 info5z rfl (by decide) (by decide) w.heap.size _ _ _ rfl (own_no O1.out f2) (by have := F1.out.size; have := f2.size; omega) ⟨gl, 0, none⟩ 1 1 _ rfl rfl (news_blk bl) (by simp [Value.oneCell']) (by omega) ?_; intro A2 c2 w3 o2 f3 hat))
  have F3 : Kp (Fr No w w3) := ⟨(F1.out.no f2).trans f3 (fun k hk => .inr (own_new_base O1.out k hk))⟩
  have O2 : w3.ownsRow w.heap.size 5 1 (.slice A2 (l.length + 1) c2) (l.length + 1) (u8s (pz l 0)) := by simpa [pz] using o2
  obtain ⟨z, hz⟩ : ∃ z, z = (120 - (l.length + 1) % 64) % 64 := ⟨_, rfl⟩
  have hzl : z ≤ 64 := by omega
  have HZ := Kp.mk hz
  clear o2 hat bl f2 f3 F1 O1 HS
  refine wp_u (fun u => ref_pad l A2 c2 w.heap.size z (8 * (l.length : Int)) w3 u hl HZ.out F3.out.size O2 _ ?_) rfl
  intro w4 A4 c4 g4 hA4 f4 o4 u
  have O4 := Kp.mk o4
  have F4 : Kp (Fr No w w4) := ⟨F3.out.trans f4 (fun k hk => .inr hk)⟩
  have h80 : 8 * (0 : Int) ≤ 8 * (l.length : Int) := by omega
  have h81 : (0 : Int) ≤ 8 * (l.length : Int) := by omega
  have h82 : 8 * (l.length : Int) ≤ 9223372036854775807 := by omega
  have hnl : (bs (numB 8 (8 * (l.length : Int)))).size = 8 := by rw [bs_size, numB_len]
  clear o4 f4 hA4 hz O2
  go_upto_block 4 with (first | (go_at_call 38; refine (rnum_any _ _ h81 h82 (by decide) (by decide) _).mono ?_; rintro e w5 ⟨rfl, hb5⟩) | ((with_reducible refine gate_dst (N := 51) rfl ?_); refine ev_append_str rfl (.tmp 48) (.tmp 50) 49 9 5 rfl Tryd.underlying49 Tryd.underlying9 info5z w.heap.size _ _ _ (bs (numB 8 (8 * (l.length : Int)))) rfl rfl (own_no O4.out (Fr.of_below hb5)) (by have := F4.out.size; have := hb5.size; omega) (by omega) ?_; intro A5 c5 w6 o6 f6 hat) | ((with_reducible refine gate_dst (N := 6) rfl ?_); refine ev_alloc rfl 62 rfl _ (nums .u32 z8) zero82 rfl ?_; intro g6 w7 hg6 f7 b7) | ((with_reducible refine gate_store (t := 62) (p := 6) rfl ?_); refine ev_store_row rfl 62 (.tmp 6) (.tmp 52) rfl g6 (nums .u32 hS).toArray rfl rfl 62 _ b7 size82 rfl (nums_one hS) ?_; intro w8 f8 b8) | (go_at_call 39; refine (rconst_any _).mono ?_; rintro e w9 ⟨rfl, hb9⟩) | ((with_reducible refine gate_dst (N := 7) rfl ?_); refine ev_alloc rfl 63 rfl _ (nums .u32 z64) zero83 rfl ?_; intro g7 w10 hg7 f10 b10) | ((with_reducible refine gate_store (t := 63) (p := 7) rfl ?_); refine ev_store_row rfl 63 (.tmp 7) (.tmp 53) rfl g7 (nums .u32 kT).toArray rfl rfl 63 _ b10 size83 rfl (nums_one kT) ?_; intro w11 f11 b11))
  rw [hnl] at o6
  have hPS : padd l = pz l z ++ numB 8 (8 * (l.length : Int)) := by rw [padd_pz, ← HZ.out]
  have hRl : (padd l).length = l.length + 1 + z + 8 := by rw [hPS, List.length_append, pz_len, numB_len]
  have hR64 := padd_len l
  have o7 : w6.ownsRow w.heap.size 5 1 (.slice A5 (l.length + 1 + z + 8) c5) (l.length + 1 + z + 8) (u8s (padd l)) := by
    have e : u8s (padd l) = u8s (pz l z) ++ Lib.strCells (bs (numB 8 (8 * (l.length : Int)))) := by rw [hPS]; simp [Lib.strCells]
    rw [e]; exact o6
  obtain ⟨g3, rfl⟩ := own_ptr o7 (by omega)
  have hg3w : w.heap.size ≤ g3 := own_new_base o7 g3 rfl
  obtain ⟨cells3, hc3⟩ := own_typed o7 g3 rfl
  have hg3l : g3 < w6.heap.size := (Array.getElem?_eq_some_iff.1 hc3).1
  have s7 := f7.size
  have s8 := f8.size
  have s9 := hb9.size
  have s10 := f10.size
  have s5 := hb5.size
  have s6 := f6.size
  have s4 := F4.out.size
  have lg6 := b8.lt
  have F : Fr No w6 w11 := (((f7.one f8 (.inr hg6)).no (Fr.of_below hb9)).no f10).one f11 (.inr (by omega))
  have o8 := own_no o7 F
  have F6 : Fr No w w11 := ((F4.out.no (Fr.of_below hb5)).trans f6 (fun k hk => .inr (own_new_base O4.out k hk))).no F
  have b6 : Arr w11 g6 62 hS := Blk.one (Blk.no (Blk.no b8 (Fr.of_below hb9)) f10) f11 (by omega)
  have b7' : Arr w11 g7 63 kT := b11
  have hcell : ∀ j, j < l.length + 1 + z + 8 → w11.cell? ⟨g3, j, none⟩ = some (.int .u8 (bAt (bs (padd l)) j)) := by
    intro j hj
    have hj' : j < (padd l).length := by omega
    have := o8.cells (g := g3) rfl j (.int .u8 (bAt (bs (padd l)) j)) (by simp [bAt, List.getElem?_map, List.getElem?_eq_getElem hj', List.getD_eq_getElem?_getD])
    rwa [Addr.add_lit, Nat.zero_add] at this
  have hm : l.length + 1 + z + 8 = 64 * ((padd l).length / 64) := by omega
  have hC := chain_len ((padd l).length / 64) (padd l) hS rfl
  have hr := chain_range ((padd l).length / 64) (padd l)
  have HR : Kp (outB (chain ((padd l).length / 64) (padd l) hS) = sumL (cat xs)) := ⟨by rw [← HLL.out]; rfl⟩
  have F6' := Kp.mk F6
  clear o6 o7 o8 f6 hat f7 f8 f10 f11 b7 b8 b10 b11 hb5 hb9 F F6 hc3 hPS F3 F4 O4
  refine wp_u (fun u => ref_blocks g3 _ c5 g6 g7 ((padd l).length / 64) (padd l) w11 u hm (by omega) hcell b6 b7' (by omega) (by omega) _ ?_) rfl
  intro w12 f12 b12 u
  generalize chain ((padd l).length / 64) (padd l) hS = C at *
  go_upto_block 12 with fail
  refine wp_u (fun u => ref_out g6 C w12 u hC hr b12 _ ?_) rfl
  intro w13 f13 u
  go_wp2_with fail
  go_ret
  rw [HR.out]
  exact ⟨rfl, ((F6'.out.one f12 (.inr (by omega))).no f13).below⟩
end Go.Proofs.YtaohfmmapammcaaDoor.RefSum
