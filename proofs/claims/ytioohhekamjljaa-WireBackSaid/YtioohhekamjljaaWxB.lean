/- Texts joined by merge.py: CrcSum, CrcSeal, CrcOpen, WkBits, TlvPrint, TlvParse, TlvFeed. -/
import Derived.Test.YtioohhekamjljaaEv3
import Derived.Test.YtioohhekamjljaaSha
import Derived.Test.YtioohhekamjljaaOwn
import Derived.Test.YtioohhekamjljaaReg
import Derived.Test.YtioohhekamjljaaWxA
import Derived.Laws.BitsAllLaws
import Derived.Lib.Strings
import Derived.Test.YtioohhekamjljaaSb
import Derived.Laws.BitsLemmas
import Derived.Scope
import Derived.ScopeJumps
import Derived.BigQuiet
/- crc.Sum. Conditions: the texts' lengths together at most 2^40. -/
set_option linter.unusedSimpArgs false
set_option linter.unusedVariables false
namespace Go.Proofs.Ytioohhekamjljaa.Crc
open Go Go.RowKit Go.Proofs.YtioohhekamjljaaW.PrintWords Go.Proofs.YtioohhekamjljaaW.PrintLast Go.Proofs.Ytioohhekamjljaa.Ev Go.Proofs.Ytioohhekamjljaa.Reg Go.Proofs.Ytioohhekamjljaa.Sha

/-- Texts, one behind the other. -/
def cat (xs : List ByteArray) : List UInt8 := (xs.map (·.data.toList)).flatten
def ones : Nat := 4294967295

theorem strs_cells {w : World} {A : Option Addr} {xs : List ByteArray} (h : Kd.C Kd.string w A xs.length xs) (h0 : 0 < xs.length) :
    ∃ b o, A = some ⟨b, o, none⟩ ∧ b < w.heap.size ∧ ∀ (j : Nat) x, xs[j]? = some x → w.cell? ⟨b, o + j, none⟩ = some (.string x) := by
  obtain ⟨ad, e, hc⟩ := (Kd.reads_of_C (d := ByteArray.empty) h).2.2 h0
  have c0 := hc 0 h0
  obtain ⟨b, o, sp⟩ := ad
  have hsp : sp = none := by
    have := World.cell?_spot c0
    simpa [Addr.add] using this
  subst hsp
  refine ⟨b, o, e, World.block_lt_of_cell? w _ c0, fun j x hx => ?_⟩
  have hj := (List.getElem?_eq_some_iff.1 hx).1
  have := hc j hj
  rw [Addr.add_lit] at this
  rw [this]
  simp [List.getD_eq_getElem?_getD, hx]
theorem inv32 {x : Nat} (h : x < 4294967296) : bits BinOp.xor IntKind.u32 IntKind.u32.max (x : Int) = ((x ^^^ 4294967295 : Nat) : Int) := by
  rw [show (IntKind.u32.max : Int) = ((4294967295 : Nat) : Int) from rfl, u32_xor_nat _ _ (by decide) h, Nat.xor_comm]

theorem stepT {x : Nat} (h : x < 4294967296) : bits BinOp.xor IntKind.u32 ((x : Int) / 2) (2197175160 * bits BinOp.and IntKind.u32 (x : Int) 1 % 4294967296) = ((T x : Nat) : Int) := by
  have h1 : bits BinOp.and IntKind.u32 (x : Int) 1 = ((x % 2 : Nat) : Int) := by
    have := u32_and_nat x 1 h (by decide)
    rw [Nat.and_one_is_mod] at this
    exact this
  have h2 : (2197175160 * ((x % 2 : Nat) : Int) % 4294967296) = (((if x % 2 = 1 then 2197175160 else 0) : Nat) : Int) := by
    rcases Nat.mod_two_eq_zero_or_one x with e | e
    · rw [e]; rfl
    · rw [e]; rfl
  have h3 : ((x : Int) / 2) = ((x / 2 : Nat) : Int) := by omega
  rw [h1, h2, h3, u32_xor_nat _ _ (by omega) (by split <;> omega)]
  rfl
theorem Tn_succ (t x : Nat) : Tn (t + 1) x = T (Tn t x) := Tn_add t 1 x

set_option maxHeartbeats 4000000 in
set_option maxRecDepth 100000 in
theorem sum_any (A : Option Addr) (c : Nat) (xs : List ByteArray) (w : World) (h : Kd.C Kd.string w A xs.length xs) (hc : xs.length ≤ c) (hl : xs.length ≤ 1099511627776) (hs : ∀ s ∈ xs, s.size ≤ 1099511627776) :
    Calls Try.prog 62 #[.slice A xs.length c] w fun e w' => e = .returned (.int .u32 (sumC (cat xs) : Nat)) ∧ Fr No w w' := by
  have HA := Kp.mk h
  have HZ := Kp.mk hs
  clear hs
  obtain ⟨n, hn⟩ : ∃ n, n = xs.length := ⟨_, rfl⟩
  go_enter Try.func62, Try.ntmps62
  go_wp2_with (fail)
  go_loopg [3, 11] n (fun kq v3 v11 wr => ∃ k : Nat, k + kq = n ∧ v3 = .int .u32 (runC ones (cat (xs.take k)) : Nat) ∧ v11 = .int .i64 (k : Int) ∧ Kp (Fr No w wr))
  case atStart => exact ⟨0, by omega, rfl, rfl, ⟨Fr.refl _ _⟩⟩
  case round =>
    obtain ⟨k, hk, rfl, rfl, F⟩ := hrel
    by_cases hkn : k < xs.length
    · have hk2 : (k : Int) < xs.length := by omega
      obtain ⟨s, hs⟩ : ∃ s, xs[k]? = some s := ⟨_, List.getElem?_eq_getElem hkn⟩
      obtain ⟨b, o, rfl, hb, hcs⟩ := strs_cells HA.out (by omega)
      have c0 := hcs k s hs
      have c1 : wr.cell? ⟨b, o + k, none⟩ = some (.string s) := Fr.cell c0 F.out (fun h => h)
      have hz : s.size ≤ 1099511627776 := HZ.out s (List.mem_of_getElem? hs)
      have hcat : cat (xs.take (k + 1)) = cat (xs.take k) ++ s.data.toList := by
        unfold cat
        rw [List.take_add_one, hs]
        simp
      obtain ⟨l, hl2⟩ : ∃ l, s.data.toList = l := ⟨_, rfl⟩
      have hsl : s.size = l.length := by rw [Lib.size_eq, ← hl2]
      rw [hl2] at hcat
      have HC := Kp.mk hcat
      have hz2 : l.length ≤ 1099511627776 := by rw [← hsl]; exact hz
      have HS := Kp.mk hsl
      have HB : Kp (∀ i, i < l.length → bAt s i = ((l.getD i 0).toNat : Int)) := ⟨fun i hi => by rw [← hl2]; rfl⟩
      have HCS := Kp.mk hcs
      clear hcs c0 hs hcat hl2 hsl
      obtain ⟨y, hy⟩ : ∃ y, y = runC ones (cat (xs.take k)) := ⟨_, rfl⟩
      rw [← hy]
      go_wp2_with ((with_reducible refine gate_dst (N := 16) rfl ?_); refine ev_bytes rfl 9 67 (.tmp 15) rfl s rfl 5 Try.underlying9 Try.underlying67 Try.underlying5 ?_; rw [HS.out]; intro gb cb w1 hgb hgb2 hcb f1 cbs)
      have CBS := Kp.mk cbs
      clear cbs
      go_loopg [3, 18] l.length (fun gg s3 s18 wq => ∃ i : Nat, i ≤ l.length ∧ l.length - i ≤ gg ∧ s3 = .int .u32 (runC y (l.take i) : Nat) ∧ s18 = .int .i64 i ∧ wq = w1)
      case atStart => exact ⟨0, Nat.zero_le _, by omega, by rw [hy]; rfl, rfl, rfl⟩
      case round =>
        obtain ⟨i, hi, hg, rfl, rfl, rfl⟩ := hrel
        by_cases hlt : i < l.length
        · have hltz : (i : Int) < (l.length : Int) := by omega
          have l1 := CBS.out i hlt
          rw [HB.out i hlt] at l1
          have hx0 : runC y (l.take i) < 4294967296 := run_lt _ (by rw [hy]; exact run_lt _ (by decide))
          have hxl : l[i].toNat < 256 := l[i].toNat_lt
          have hget : l.getD i 0 = l[i] := by simp [List.getD_eq_getElem?_getD, hlt]
          have hnx : runC y (l.take (i + 1)) = Tn 8 (runC y (l.take i) ^^^ l[i].toNat) := by
            rw [List.take_add_one, List.getElem?_eq_getElem hlt]
            exact run_append _ _ _
          have HX := Kp.mk hnx
          rw [hget] at l1
          have X32 := Kp.mk (u32_xor_nat _ _ hx0 (by omega : l[i].toNat < 4294967296))
          have hxx : runC y (l.take i) ^^^ l[i].toNat < 4294967296 := Nat.xor_lt_two_pow (n := 32) hx0 (by omega)
          clear hnx hget
          generalize l[i].toNat = q at *
          generalize runC y (l.take i) = p at *
          go_wp2_with fail
          refine wp_scope_ghost 0 (fun m a' w' => ∃ (t : Nat) (u : Nat → Value), (m + t = 7 ∧ w' = wr) ∧ a' = { tmps := List.toArray (.slice (some ⟨b, o, none⟩) xs.length c :: undef :: .int .u32 0 :: .int .u32 (Tn t (p ^^^ q) : Nat) :: undef :: .string s :: undef :: u 7 :: .int .i64 (t : Int) :: .slice (some ⟨b, o, none⟩) xs.length c :: .int .i64 (xs.length : Int) :: .int .i64 (k : Int) :: .bool true :: .pointer (some ⟨b, o + k, none⟩) :: .string s :: .string s :: .slice (some ⟨gb, 0, none⟩) l.length cb :: .int .i64 (l.length : Int) :: .int .i64 (i : Int) :: u 19 :: u 20 :: u 21 :: u 22 :: u 23 :: u 24 :: u 25 :: u 26 :: u 27 :: u 28 :: u 29 :: u 30 :: u 31 :: u 32 :: u 33 :: u 34 :: u 35 :: u 36 :: u37 :: undef :: undef :: []), defers := [] }) rfl ?_ ?_
          · intro Q' hQ
            have HQ := Kp.mk hQ
            clear hQ
            go_wp2_with fail
            go_step3
            go_step
            go_step
            refine HQ.out 7 _ _ ⟨0, ?_⟩
            refine ex_u ⟨rfl, rfl⟩ ?_
            rw [X32.out]
            rfl
          · rintro m a' W ⟨t, u, ⟨hn8, rfl⟩, rfl⟩ J hJ
            have ST := Kp.mk (stepT (Tn_lt t hxx))
            rw [← Tn_succ] at ST
            by_cases ht : t < 7
            · have hz8 : (t : Int) + 1 < 8 := by omega
              go_wp2_with fail
              go_step3
              simp only [Exit.jump, if_true]
              refine ⟨trivial, hJ (m - 1) _ _ (by omega) ⟨t + 1, ?_⟩⟩
              refine ex_u ⟨by omega, rfl⟩ ?_
              rw [ST.out]
              rfl
            · obtain rfl : t = 7 := by omega
              have hz8 : ¬ ((7 : Nat) : Int) + 1 < 8 := by omega
              rw [show 7 + 1 = 8 from rfl] at ST
              go_wp2_with fail
              simp only [Exit.jump, Exit.inBlock, Exit.then]
              go_wp2_with fail
              go_roundg (l.length - (i + 1))
              case measure => omega
              case rel => exact ⟨i + 1, by omega, by omega, by rw [HX.out, ← ST.out], by go_num, rfl⟩
        · obtain rfl : i = l.length := by omega
          have hltz : ¬ (l.length : Int) < (l.length : Int) := by omega
          rw [List.take_length]
          go_wp2_with fail
          go_roundg (n - (k + 1))
          case measure => omega
          case rel =>
            exact ⟨k + 1, by omega, by rw [HC.out, run_append, ← hy], by go_num, ⟨F.out.no f1⟩⟩
    · obtain rfl : k = xs.length := by omega
      have hk2 : ¬ (xs.length : Int) < (xs.length : Int) := by omega
      rw [List.take_length]
      have HI := Kp.mk (inv32 (run_lt (cat xs) (show ones < 4294967296 by decide)))
      go_wp2_with fail
      go_ret
      exact ⟨by rw [HI.out]; rfl, F.out⟩
end Go.Proofs.Ytioohhekamjljaa.Crc

/- crc.Seal. Conditions: the text's length at most 2^30. -/
set_option linter.unusedSimpArgs false
set_option linter.unusedVariables false
namespace Go.Proofs.Ytioohhekamjljaa.Crc
open Go Go.RowKit Go.Proofs.YtioohhekamjljaaW.PrintWords Go.Proofs.YtioohhekamjljaaW.PrintLast Go.Proofs.Ytioohhekamjljaa.Ev Go.Proofs.Ytioohhekamjljaa.Reg Go.Proofs.Ytioohhekamjljaa.Sha Go.Proofs.Ytioohhekamjljaa.Sb

theorem sumOne_any (c : List UInt8) (hl : c.length ≤ 1099511627776) (W : World) (g : Nat) (hb : Blk W g 9 [.string (bs c)]) : Calls Try.prog 62 #[.slice (some ⟨g, 0, none⟩) 1 1] W fun e w' => e = .returned (.int .u32 (sumC c : Nat)) ∧ Fr No W w' := by
  have hC : Kd.C Kd.string W (some ⟨g, 0, none⟩) 1 [bs c] := by
    obtain ⟨A, cc, hv, _, hC⟩ := own_strs (xs := [bs c]) (hb.owns (size := 1) (n := 1) (base := 0) (by simp) (by simp [maxLen]) (Nat.zero_le _)) rfl
    injection hv with h1 h2 h3
    rw [← h1] at hC
    exact hC
  have hcat : cat [bs c] = c := by simp [cat, bs]
  have := sum_any (some ⟨g, 0, none⟩) 1 [bs c] W hC (by simp) (by simp) (by intro s hs; rw [List.mem_singleton.1 hs]; simpa [bs, ByteArray.size] using hl)
  rw [hcat] at this
  exact this
set_option maxHeartbeats 4000000 in
set_option maxRecDepth 100000 in
theorem seal_any (l : List UInt8) (hl : l.length ≤ 1073741824) (w : World) : Calls Try.prog 41 #[.string (bs l)] w fun e w' => e = .returned (.string (bs (sealC l))) ∧ Fr No w w' := by
  have CS := Kp.mk (fun W g hb' => sumOne_any l (by omega) W g hb')
  have hx : sumC l < 4294967296 := Nat.xor_lt_two_pow (n := 32) (run_lt l (by decide)) (by decide)
  have hsl : sealC l = l ++ le4 (sumC l) := rfl
  have HSL := Kp.mk hsl
  clear hsl
  generalize sumC l = x at CS hx HSL
  have h4 : [Value.int .u8 ((x : Int) % 256), .int .u8 ((x : Int) / 256 % 256), .int .u8 ((x : Int) / 65536 % 256), .int .u8 ((x : Int) / 16777216)] = (le4 x).map fun b => Value.int .u8 b.toNat := by
    simp only [le4, List.map_cons, List.map_nil, ofNat_toNat]
    have e1 : ((x % 256 : Nat) : Int) = (x : Int) % 256 := by omega
    have e2 : ((x / 256 % 256 : Nat) : Int) = (x : Int) / 256 % 256 := by omega
    have e3 : ((x / 65536 % 256 : Nat) : Int) = (x : Int) / 65536 % 256 := by omega
    have e4 : ((x / 16777216 % 256 : Nat) : Int) = (x : Int) / 16777216 := by omega
    rw [e1, e2, e3, e4]
  have H4 := Kp.mk h4
  have z1 : (bs l).size = l.length := by simp [bs, ByteArray.size]
  have z2 : (bs (le4 x)).size = 4 := rfl
  have z3 : (bs l).size + (bs (le4 x)).size ≤ 9223372036854775807 := by omega
  clear h4
  go_enter Try.func41, Try.ntmps41
  go_wp2_with (first
    | ((with_reducible refine gate_dst (N := 5) rfl ?_); refine ev_lit rfl 9 [.string (bs l)] 1 (by first | (go_simp; done) | (go_simp; rfl)) ?_; intro g w1 hg f1 b1)
    | (go_at_call 62; refine (CS.out _ _ b1).mono ?_; rintro e w2 ⟨rfl, f2⟩)
    | ((with_reducible refine gate_dst (N := 19) rfl ?_); refine ev_lit rfl 5 [Value.int .u8 ((x : Int) % 256), .int .u8 ((x : Int) / 256 % 256), .int .u8 ((x : Int) / 65536 % 256), .int .u8 ((x : Int) / 16777216)] 4 (by first | (go_simp; done) | (go_simp; rfl)) ?_; intro g3 w3 hg3 f3 b3; rw [H4.out] at b3)
    | ((with_reducible refine gate_dst (N := 20) rfl ?_); refine ev_str rfl 67 9 5 (.tmp 19) rfl Try.underlying67 Try.underlying5 Try.underlying9 0 _ 4 5 (le4 x) rfl (b3.owns (size := 1) (n := 4) (base := 0) (by simp [le4]) (by simp [maxLen]) (Nat.zero_le _)) ?_))
  go_ret
  exact ⟨by rw [HSL.out]; first | rfl | simp [bs], (f1.no f2).no f3⟩
end Go.Proofs.Ytioohhekamjljaa.Crc

/- crc.Open. Conditions: the text's length at most 2^30. -/
set_option linter.unusedSimpArgs false
set_option linter.unusedVariables false
namespace Go.Proofs.Ytioohhekamjljaa.Crc
open Go Go.RowKit Go.Proofs.YtioohhekamjljaaW.PrintWords Go.Proofs.YtioohhekamjljaaW.PrintLast Go.Proofs.Ytioohhekamjljaa.Ev Go.Proofs.Ytioohhekamjljaa.Reg Go.Proofs.Ytioohhekamjljaa.Sha Go.Proofs.Ytioohhekamjljaa.Sb

/-- A sealed text, opened. -/
def openC (l : List UInt8) : List UInt8 × Int := if l.length < 4 then ([], 2) else if sealC (l.take (l.length - 4)) ≠ l then ([], 8) else (l.take (l.length - 4), 0)
set_option maxHeartbeats 4000000 in
set_option maxRecDepth 100000 in
theorem open_any (l : List UInt8) (hl : l.length ≤ 1073741824) (w : World) : Calls Try.prog 71 #[.string (bs l)] w fun e w' => e = .returned (.tuple #[.string (bs (openC l).1), .int .i64 (openC l).2]) ∧ Fr No w w' := by
  have z1 : (bs l).size = l.length := by simp [bs, ByteArray.size]
  by_cases h : l.length < 4
  · have ho : openC l = ([], 2) := if_pos h
    rw [ho]
    have h2 : (l.length : Int) - 4 < 0 := by omega
    go_enter Try.func71, Try.ntmps71
    go_wp2_with fail
    go_ret2
    exact ⟨rfl, Fr.refl _ _⟩
  · have h2 : ¬ (l.length : Int) - 4 < 0 := by omega
    obtain ⟨t, ht⟩ : ∃ t, t = l.take (l.length - 4) := ⟨_, rfl⟩
    have hx : (bs l).extract 0 (l.length - 4) = bs t := by
      rw [ht]
      apply ByteArray.ext
      apply Array.toList_inj.1
      simp [bs]
    have CS := Kp.mk (seal_any t (by rw [ht, List.length_take]; omega))
    have ho : openC l = if sealC t ≠ l then ([], 8) else (t, 0) := by rw [ht]; exact if_neg h
    rw [ho]
    have HX := Kp.mk hx
    clear ho ht hx
    have hn : ((l.length : Int) - 4).toNat = l.length - 4 := by omega
    by_cases he : sealC t = l
    · rw [if_neg (by rw [he]; exact fun h => h rfl)]
      go_enter Try.func71, Try.ntmps71
      go_wp2_with (go_at_call 41; first | (rw [hn, HX.out]) | rw [HX.out]; refine (CS.out _).mono ?_; rintro e w2 ⟨rfl, f2⟩)
      go_ret2
      exact ⟨by show _ = Ending.returned (.tuple #[.string (bs t), .int .i64 0]); rw [← HX.out]; rfl, f2⟩
    · rw [if_pos he]
      have hne : ¬ bs (sealC t) = bs l := fun h => he (by have := congrArg (fun z => z.data.toList) h; simpa [bs] using this)
      go_enter Try.func71, Try.ntmps71
      go_wp2_with (go_at_call 41; first | (rw [hn, HX.out]) | rw [HX.out]; refine (CS.out _).mono ?_; rintro e w2 ⟨rfl, f2⟩)
      all_goals first
        | (go_ret2; exact ⟨rfl, f2⟩)
        | (exfalso; contradiction)
        | (exfalso; simp_all; done)
end Go.Proofs.Ytioohhekamjljaa.Crc

/- Small laws for the walks of streams: bytes' places, slices of texts, bits, cells of a record. No conditions beside those written out. -/
set_option linter.unusedSimpArgs false
set_option linter.unusedVariables false
namespace Go.Proofs.Ytioohhekamjljaa.Wk
open Go Go.RowKit Go.Proofs.YtioohhekamjljaaW.PrintWords Go.Proofs.YtioohhekamjljaaW.PrintLast Go.Proofs.Ytioohhekamjljaa.Ev Go.Proofs.Ytioohhekamjljaa.Reg Go.Proofs.Ytioohhekamjljaa.Sha Go.Proofs.Ytioohhekamjljaa.Sb Go.Proofs.Ytioohhekamjljaa.Crc Go.Proofs.Ytioohhekamjljaa.Wi
theorem wraps_i64 (n : Int) (h0 : 0 ≤ n) (h1 : n < 2 ^ 40) : IntKind.i64.wrap n = n := by rw [IntKind.wrap_i64]; omega
theorem i64_or8 (x y : Int) (h0 : 0 ≤ x) (hx : x % 256 = 0) (h1 : x < 1099511627776) (h2 : 0 ≤ y) (h3 : y < 256) : bits .or .i64 x y = x + y := bits_join .i64 40 (by decide) wraps_i64 8 x y h0 hx h1 h2 h3 (by omega)
theorem i64_or16 (x y : Int) (h0 : 0 ≤ x) (hx : x % 65536 = 0) (h1 : x < 1099511627776) (h2 : 0 ≤ y) (h3 : y < 65536) : bits .or .i64 x y = x + y := bits_join .i64 40 (by decide) wraps_i64 16 x y h0 hx h1 h2 h3 (by omega)
theorem i64_or24 (x y : Int) (h0 : 0 ≤ x) (hx : x % 16777216 = 0) (h1 : x < 1099511627776) (h2 : 0 ≤ y) (h3 : y < 16777216) : bits .or .i64 x y = x + y := bits_join .i64 40 (by decide) wraps_i64 24 x y h0 hx h1 h2 h3 (by omega)
theorem idx_any (t : List UInt8) (i : Nat) (x : UInt8) (k : Int) (hk : k = (i : Int)) (h : t[i]? = some x) : ∀ W : World, (Instr.index 9 (.string (bs t)) (.int .i64 k)).run Try.prog W = .ok (.int .u8 (x.toNat : Int)) W := by
  intro W
  subst hk
  obtain ⟨hl, hx⟩ := List.getElem?_eq_some_iff.1 h
  have h1 : (bs t)[i]? = some x := by
    have e : i < (bs t).size := by rw [bs_size]; exact hl
    rw [getElem?_pos (bs t) i e]
    rw [← hx]
    have e3 : (bs t).data.toList[i]'(by simpa [bs] using hl) = (bs t)[i]'e := by rw [Array.getElem_toList]; rfl
    rw [← e3]
  simp [Instr.index, asIntOf, run_underlying Try.underlying9, h1, Sem.run_bind, Result.andThen, Sem.run_pure]
theorem ext_bs (l : List UInt8) (a b : Nat) : (bs l).extract a b = bs ((l.drop a).take (b - a)) := by
  apply ByteArray.ext
  apply Array.toList_inj.1
  rw [extract_list]
theorem sl_to (t : List UInt8) (i : Nat) (k : Int) (hk : k = (i : Int)) (h : i ≤ t.length) : ∀ W : World, (Instr.slice 9 (.string (bs t)) none (some (.int .i64 k)) none).run Try.prog W = .ok (.string (bs (t.take i))) W := by
  intro W
  subst hk
  rw [run_slice_string_h W 9 (bs t) Try.underlying9 .i64 _ (by omega) (by rw [bs_size]; omega), Int.toNat_natCast, ext_bs]
  rfl
theorem sl_from (t : List UInt8) (i : Nat) (k : Int) (hk : k = (i : Int)) (h : i ≤ t.length) : ∀ W : World, (Instr.slice 9 (.string (bs t)) (some (.int .i64 k)) none none).run Try.prog W = .ok (.string (bs (t.drop i))) W := by
  intro W
  subst hk
  rw [run_slice_string_l W 9 (bs t) Try.underlying9 .i64 _ (by omega) (by rw [bs_size]; omega), Int.toNat_natCast, ext_bs, bs_size, List.take_of_length_le (by rw [List.length_drop]; exact Nat.le_refl _)]
theorem sl_mid (t : List UInt8) (i j : Nat) (k m : Int) (hk : k = (i : Int)) (hm : m = (j : Int)) (h : i ≤ j) (hj : j ≤ t.length) : ∀ W : World, (Instr.slice 9 (.string (bs t)) (some (.int .i64 k)) (some (.int .i64 m)) none).run Try.prog W = .ok (.string (bs ((t.drop i).take (j - i)))) W := by
  intro W
  subst hk hm
  rw [run_slice_string W 9 (bs t) .i64 .i64 _ _ Try.underlying9 (by omega) (by omega) (by rw [bs_size]; omega), Int.toNat_natCast, Int.toNat_natCast, ext_bs]
/-- Three results: a struct that lies in memory, and two slots' values. -/
theorem results_row_tmp2 {P : Program} {fn : Func} {p q r : Tmp} {ty : TypeId} (h : fn.results = #[.cell p ty, .tmp q, .tmp r]) (tmps : Array Value) (w : World) (g : Nat) (t : TypeId) (cs : List Value) (d : TypeDesc)
    (hp : tmps.getD p undef = .pointer (some ⟨g, 0, none⟩)) (hb : Blk w g t cs) (hu : P.underlying ty = some d) (hd : (match d with | .struct _ | .array _ _ => true | _ => false) = true) (hi : (P.info? ty).map (·.size) = some cs.length) :
    (results fn tmps).run P w = .ok (.tuple #[.agg cs.toArray, tmps.getD q undef, tmps.getD r undef]) w := by
  have hp' : tmps[p]?.getD undef = .pointer (some ⟨g, 0, none⟩) := by simpa using hp
  simp [results, h, hp', asAddr, run_loadVar_row w g t ty cs.toArray (0, 0) d hb.out hu hd (by simpa using hi)]
theorem blk_drew {w : World} {g : Nat} {t : TypeId} {cs : List Value} (h : Blk w g t cs) : Blk w.drew g t cs := ⟨h.out⟩
/-- An array's element. -/
theorem index_arr {P : Program} {t e : TypeId} {n : Nat} {cs : Array Value} {d : TypeDesc} (h : P.underlying t = some (.array n e)) (hu : P.underlying e = some d) (hd : (match d with | .struct _ | .array _ _ => true | _ => false) = false) (hs : (P.info? e).map (·.size) = some 1)
    (i : Nat) (k : Int) (hk : k = (i : Int)) (v : Value) (hv : cs[i]? = some v) (hi : i < n) : ∀ w : World, (Instr.index t (.agg cs) (.int .i64 k)).run P w = .ok v w := by
  intro w
  subst hk
  obtain ⟨q, hq, hq1⟩ := Option.map_eq_some_iff.1 hs
  have hn : (0 : Int) ≤ (i : Int) ∧ (i : Int) < (n : Int) := by omega
  have h1 : (isAgg e).run P w = .ok false w := by
    simp only [isAgg, Sem.run_bind, run_underlying hu, Result.andThen_ok]
    cases d <;> simp_all
  simp [Instr.index, run_underlying h, asIntOf, hn, part, h1, sizeOf, typeInfo, hq, hq1, Sem.run_bind, Result.andThen, hv]
  intro hc
  omega
/-- A record's cells. -/
abbrev rcL (k q : Int) (p : ByteArray) : List Value := [.int .i64 k, .int .i64 q, .string p]
theorem rcL_one (k q : Int) (p : ByteArray) : (rcL k q p).toArray.all (·.oneCell') = true := by
  show (rcL k q p).toArray.all (fun x => x.oneCell') = true
  simp only [List.all_toArray, List.all_cons, List.all_nil]
  rfl
theorem zeroRc : (Try.prog.info? 77).bind (·.zero) = some (.agg (rcL 0 0 ⟨#[]⟩).toArray) := by kernel_rfl
theorem sizeRc : (Try.prog.info? 77).map (·.size) = some 3 := by kernel_rfl
abbrev rcV (x : Rc) : Value := .agg (rcL x.kind x.seq (bs x.pay)).toArray
end Go.Proofs.Ytioohhekamjljaa.Wk

/- tlv.Print. Conditions: sizes are bounded, as written out. -/
set_option linter.unusedSimpArgs false
set_option linter.unusedVariables false
namespace Go.Proofs.Ytioohhekamjljaa.Wk
open Go Go.RowKit Go.Proofs.YtioohhekamjljaaW.PrintWords Go.Proofs.YtioohhekamjljaaW.PrintLast Go.Proofs.Ytioohhekamjljaa.Ev Go.Proofs.Ytioohhekamjljaa.Reg Go.Proofs.Ytioohhekamjljaa.Sha Go.Proofs.Ytioohhekamjljaa.Sb Go.Proofs.Ytioohhekamjljaa.Crc Go.Proofs.Ytioohhekamjljaa.Wi

/-- A record's bytes, or why there are none. -/
def printT (k q : Int) (p : B) : B × Int := if k < 1 ∨ 255 < k ∨ q < 0 ∨ 2147483647 < q then ([], 1) else if 8192 < p.length then ([], 3) else (recB ⟨k.toNat, q.toNat, p⟩, 0)
set_option maxHeartbeats 4000000 in
set_option maxRecDepth 100000 in
theorem tprint_any (k q : Int) (p : B) (hp : p.length ≤ 1073741824) (w : World) : Calls Try.prog 25 #[.agg #[.int .i64 k, .int .i64 q, .string (bs p)]] w fun e w' => e = .returned (.tuple #[.string (bs (printT k q p).1), .int .i64 (printT k q p).2]) ∧ Fr No w w' := by
  have z1 : (bs p).size = p.length := by simp [bs, ByteArray.size]
  obtain ⟨R, hR⟩ : ∃ R, printT k q p = R := ⟨_, rfl⟩
  rw [hR]
  unfold printT at hR
  by_cases h1 : k < 1 ∨ 255 < k ∨ q < 0 ∨ 2147483647 < q
  · rw [if_pos h1] at hR
    subst hR
    rcases (by omega : k < 1 ∨ (¬ k < 1 ∧ 255 < k) ∨ (¬ k < 1 ∧ ¬ 255 < k ∧ q < 0) ∨ (¬ k < 1 ∧ ¬ 255 < k ∧ ¬ q < 0 ∧ 2147483647 < q)) with h | ⟨h, h2⟩ | ⟨h, h2, h3⟩ | ⟨h, h2, h3, h4⟩
    all_goals
      clear h1
      go_enter Try.func25, Try.ntmps25
      go_wp2_with (first | ((with_reducible refine gate_dst (N := 1) rfl ?_); go_must (refine ev_box rfl 77 _ rfl _ rfl [.int .i64 k, .int .i64 q, .string (bs p)] rfl ?_); intro g w1 hg f1 b1; have c0 := b1.at_ 0 rfl; have c1 := b1.at_ 1 rfl; have c2 := b1.at_ 2 rfl))
      go_ret2
      exact ⟨rfl, f1⟩
  · rw [if_neg h1] at hR
    have ⟨h2, h3, h4, h5⟩ : ¬ k < 1 ∧ ¬ 255 < k ∧ ¬ q < 0 ∧ ¬ 2147483647 < q := by omega
    clear h1
    by_cases h6 : 8192 < p.length
    · rw [if_pos h6] at hR
      subst hR
      have h7 : (8192 : Int) < (p.length : Int) := by omega
      go_enter Try.func25, Try.ntmps25
      go_wp2_with (first | ((with_reducible refine gate_dst (N := 1) rfl ?_); go_must (refine ev_box rfl 77 _ rfl _ rfl [.int .i64 k, .int .i64 q, .string (bs p)] rfl ?_); intro g w1 hg f1 b1; have c0 := b1.at_ 0 rfl; have c1 := b1.at_ 1 rfl; have c2 := b1.at_ 2 rfl))
      go_ret2
      exact ⟨rfl, f1⟩
    · rw [if_neg h6] at hR
      subst hR
      have h7 : ¬ (8192 : Int) < (p.length : Int) := by omega
      obtain ⟨K, rfl⟩ : ∃ K : Nat, k = K := ⟨k.toNat, by omega⟩
      obtain ⟨Q, rfl⟩ : ∃ Q : Nat, q = Q := ⟨q.toNat, by omega⟩
      simp only [Int.toNat_natCast]
      obtain ⟨hd, hhd⟩ : ∃ hd, hd = UInt8.ofNat K :: (be4 Q ++ [UInt8.ofNat (p.length / 256), UInt8.ofNat p.length]) := ⟨_, rfl⟩
      have h8 : [Value.int .u8 (K : Int), .int .u8 ((Q : Int) / 16777216), .int .u8 ((Q : Int) / 65536 % 256), .int .u8 ((Q : Int) / 256 % 256), .int .u8 ((Q : Int) % 256), .int .u8 ((p.length : Int) / 256), .int .u8 ((p.length : Int) % 256)] = hd.map fun b => Value.int .u8 b.toNat := by
        rw [hhd]
        simp only [be4, List.cons_append, List.nil_append, List.map_cons, List.map_nil, ofNat_toNat]
        have e0 : ((K % 256 : Nat) : Int) = (K : Int) := by omega
        have e1 : ((Q / 16777216 % 256 : Nat) : Int) = (Q : Int) / 16777216 := by omega
        have e2 : ((Q / 65536 % 256 : Nat) : Int) = (Q : Int) / 65536 % 256 := by omega
        have e3 : ((Q / 256 % 256 : Nat) : Int) = (Q : Int) / 256 % 256 := by omega
        have e4 : ((Q % 256 : Nat) : Int) = (Q : Int) % 256 := by omega
        have e5 : ((p.length / 256 % 256 : Nat) : Int) = (p.length : Int) / 256 := by omega
        have e6 : ((p.length % 256 : Nat) : Int) = (p.length : Int) % 256 := by omega
        rw [e0, e1, e2, e3, e4, e5, e6]
      have hb : bs hd ++ bs p = bs (bodyR ⟨K, Q, p⟩) := by
        rw [bs_append, hhd]
        show bs ((UInt8.ofNat K :: (be4 Q ++ [UInt8.ofNat (p.length / 256), UInt8.ofNat p.length])) ++ p) = bs (UInt8.ofNat K :: (be4 Q ++ [UInt8.ofNat (p.length / 256), UInt8.ofNat p.length] ++ p))
        rw [List.cons_append]
      have hl : (bodyR ⟨K, Q, p⟩).length ≤ 1073741824 := by rw [body_len]; show 7 + p.length ≤ _; omega
      have CS := Kp.mk (fun w' => seal_any (bodyR ⟨K, Q, p⟩) hl w')
      have hz : (bs hd).size + (bs p).size ≤ 9223372036854775807 := by
        have : (bs hd).size = 7 := by rw [hhd]; simp [bs, ByteArray.size, be4]
        omega
      have hdl : hd.length = 7 := by rw [hhd]; simp [be4]
      have hz' : hd.length + p.length ≤ 9223372036854775807 := by omega
      have H8 := Kp.mk h8
      have HB := Kp.mk hb
      have HD := Kp.mk hdl
      clear h8 hb hhd hl hdl
      go_enter Try.func25, Try.ntmps25
      go_wp2_with (first
        | ((with_reducible refine gate_dst (N := 1) rfl ?_); go_must (refine ev_box rfl 77 _ rfl _ rfl [.int .i64 (K : Int), .int .i64 (Q : Int), .string (bs p)] rfl ?_); intro g w1 hg f1 b1; have c0 := b1.at_ 0 rfl; have c1 := b1.at_ 1 rfl; have c2 := b1.at_ 2 rfl)
        | ((with_reducible refine gate_dst (N := 53) rfl ?_); refine ev_lit rfl 5 [Value.int .u8 (K : Int), .int .u8 ((Q : Int) / 16777216), .int .u8 ((Q : Int) / 65536 % 256), .int .u8 ((Q : Int) / 256 % 256), .int .u8 ((Q : Int) % 256), .int .u8 ((p.length : Int) / 256), .int .u8 ((p.length : Int) % 256)] 7 (by first | (go_simp; done) | (go_simp; rfl)) ?_; intro g3 w3 hg3 f3 b3; rw [H8.out] at b3; have b1 := b1.no f3; have c0 := b1.at_ 0 rfl; have c1 := b1.at_ 1 rfl; have c2 := b1.at_ 2 rfl)
        | ((with_reducible refine gate_dst (N := 54) rfl ?_); go_must (refine ev_str rfl 67 9 5 (.tmp 53) rfl Try.underlying67 Try.underlying5 Try.underlying9 0 _ 7 5 hd rfl (b3.owns (size := 1) (n := 7) (base := 0) (by rw [List.length_map, HD.out]) (by simp [maxLen]) (Nat.zero_le _)) ?_))
        | (go_at_call 41; go_must (rw [HB.out]); refine (CS.out _).mono ?_; rintro e w4 ⟨rfl, f4⟩))
      go_ret2
      exact ⟨rfl, (f1.no f3).no f4⟩
end Go.Proofs.Ytioohhekamjljaa.Wk

/- tlv.Parse. Conditions: sizes are bounded, as written out. -/
set_option linter.unusedSimpArgs false
set_option linter.unusedVariables false
namespace Go.Proofs.Ytioohhekamjljaa.Wk
open Go Go.RowKit Go.Proofs.YtioohhekamjljaaW.PrintWords Go.Proofs.YtioohhekamjljaaW.PrintLast Go.Proofs.Ytioohhekamjljaa.Ev Go.Proofs.Ytioohhekamjljaa.Reg Go.Proofs.Ytioohhekamjljaa.Sha Go.Proofs.Ytioohhekamjljaa.Sb Go.Proofs.Ytioohhekamjljaa.Crc Go.Proofs.Ytioohhekamjljaa.Wi

/-- What parsing answers: a record's cells, the rest, the error. -/
def parseV (s : B) : List Value × B × Int :=
  match parseT s with
  | .none => (rcL 0 0 ⟨#[]⟩, [], 4)
  | .err e => (rcL 0 0 ⟨#[]⟩, [], e)
  | .got x t => (rcL x.kind x.seq (bs x.pay), t, 0)
set_option maxHeartbeats 8000000 in
set_option maxRecDepth 100000 in
theorem tparse_any (s : B) (hl : s.length ≤ 1073741824) (w : World) : Calls Try.prog 59 #[.string (bs s)] w fun e w' => e = .returned (.tuple #[.agg (parseV s).1.toArray, .string (bs (parseV s).2.1), .int .i64 (parseV s).2.2]) ∧ Fr No w w' := by
  obtain ⟨R, hR⟩ : ∃ R, parseV s = R := ⟨_, rfl⟩
  rw [hR]
  unfold parseV parseT at hR
  have hsz : (bs s).size = s.length := bs_size s
  by_cases h7 : s.length < 7
  · rw [if_pos h7] at hR
    subst hR
    have h7z : (s.length : Int) < 7 := by omega
    go_enter Try.func59, Try.ntmps59
    go_wp2_with (first
      | ((with_reducible refine gate_dst (N := 2) rfl ?_); go_must (refine ev_alloc rfl 77 rfl _ (rcL 0 0 ⟨#[]⟩) zeroRc rfl ?_); intro g2 w2 hg2 f2 b2)
      | ((with_reducible refine gate_store (t := 77) (p := 2) rfl ?_); go_must (refine ev_store_row rfl 77 _ _ rfl g2 (rcL 0 0 ⟨#[]⟩).toArray rfl rfl 77 _ b2 sizeRc rfl (rcL_one _ _ _) ?_); intro wA fA bA))
    have F := f2
    (refine bodyPost_ret (results_row_tmp2 rfl _ _ g2 _ _ _ rfl bA Try.underlying77 rfl sizeRc) rfl ⟨rfl, F.one fA (.inr hg2)⟩)
  · rw [if_neg h7] at hR
    obtain ⟨a0, a1, a2, a3, a4, a5, a6, t, hs⟩ := seven h7
    have h7z : ¬ (s.length : Int) < 7 := by omega
    have b5 := a5.toNat_lt
    have b6 := a6.toNat_lt
    have i5 := idx_any s 5 a5 5 rfl (by rw [hs]; rfl)
    have i6 := idx_any s 6 a6 6 rfl (by rw [hs]; rfl)
    have hw5 : IntKind.i64.wrap (a5.toNat : Int) = (a5.toNat : Int) := wraps_i64 _ (by omega) (by omega)
    have hw6 : IntKind.i64.wrap (a6.toNat : Int) = (a6.toNat : Int) := wraps_i64 _ (by omega) (by omega)
    have hm5 : IntKind.i64.wrap ((a5.toNat : Int) * 256) = (a5.toNat : Int) * 256 := wraps_i64 _ (by omega) (by omega)
    obtain ⟨n, hn⟩ : ∃ n, lenS s = n := ⟨_, rfl⟩
    have hn' : a5.toNat * 256 + a6.toNat = n := by rw [← hn, hs]; rfl
    have ho : bits BinOp.or IntKind.i64 ((a5.toNat : Int) * 256) (a6.toNat : Int) = (n : Int) := by rw [i64_or8 _ _ (by omega) (by omega) (by omega) (by omega) (by omega)]; omega
    rw [hn] at hR
    have HS := Kp.mk hs
    have HN := Kp.mk hn
    have HN' := Kp.mk hn'
    clear hn' hn hs
    by_cases h8 : 8192 < n
    · rw [if_pos h8] at hR
      subst hR
      have h8z : (8192 : Int) < (n : Int) := by omega
      go_enter Try.func59, Try.ntmps59
      go_wp2_with (first
        | ((with_reducible refine gate_dst (N := 2) rfl ?_); go_must (refine ev_alloc rfl 77 rfl _ (rcL 0 0 ⟨#[]⟩) zeroRc rfl ?_); intro g2 w2 hg2 f2 b2)
        | ((with_reducible refine gate_store (t := 77) (p := 2) rfl ?_); go_must (refine ev_store_row rfl 77 _ _ rfl g2 (rcL 0 0 ⟨#[]⟩).toArray rfl rfl 77 _ b2 sizeRc rfl (rcL_one _ _ _) ?_); intro wA fA bA))
      go_quiet (fail)
      have F := f2.drewN nq
      have b2 := b2.drewN nq
      go_wp2_with (first
        | ((with_reducible refine gate_store (t := 77) (p := 2) rfl ?_); go_must (refine ev_store_row rfl 77 _ _ rfl g2 (rcL 0 0 ⟨#[]⟩).toArray rfl rfl 77 _ b2 sizeRc rfl (rcL_one _ _ _) ?_); intro wA fA bA))
      (refine bodyPost_ret (results_row_tmp2 rfl _ _ g2 _ _ _ rfl bA Try.underlying77 rfl sizeRc) rfl ⟨rfl, F.one fA (.inr hg2)⟩)
    · rw [if_neg h8] at hR
      have h8z : ¬ (8192 : Int) < (n : Int) := by omega
      by_cases h9 : s.length < n + 11
      · rw [if_pos h9] at hR
        subst hR
        have h9z : (s.length : Int) < 7 + (n : Int) + 4 := by omega
        go_enter Try.func59, Try.ntmps59
        go_wp2_with (first
          | ((with_reducible refine gate_dst (N := 2) rfl ?_); go_must (refine ev_alloc rfl 77 rfl _ (rcL 0 0 ⟨#[]⟩) zeroRc rfl ?_); intro g2 w2 hg2 f2 b2)
          | ((with_reducible refine gate_store (t := 77) (p := 2) rfl ?_); go_must (refine ev_store_row rfl 77 _ _ rfl g2 (rcL 0 0 ⟨#[]⟩).toArray rfl rfl 77 _ b2 sizeRc rfl (rcL_one _ _ _) ?_); intro wA fA bA))
        go_quiet (fail)
        have F := f2.drewN nq
        have b2 := b2.drewN nq
        go_wp2_with (first
          | ((with_reducible refine gate_store (t := 77) (p := 2) rfl ?_); go_must (refine ev_store_row rfl 77 _ _ rfl g2 (rcL 0 0 ⟨#[]⟩).toArray rfl rfl 77 _ b2 sizeRc rfl (rcL_one _ _ _) ?_); intro wA fA bA))
        (refine bodyPost_ret (results_row_tmp2 rfl _ _ g2 _ _ _ rfl bA Try.underlying77 rfl sizeRc) rfl ⟨rfl, F.one fA (.inr hg2)⟩)
      · rw [if_neg h9] at hR
        have h9z : ¬ (s.length : Int) < 7 + (n : Int) + 4 := by omega
        have S1 := sl_to s (n + 11) (7 + (n : Int) + 4) (by omega) (by omega)
        have hOl : (s.take (n + 11)).length = n + 11 := by rw [List.length_take]; omega
        have hO : openC (s.take (n + 11)) = if sealC (s.take (n + 7)) ≠ s.take (n + 11) then ([], 8) else (s.take (n + 7), 0) := by
          unfold openC
          rw [if_neg (by omega), hOl, List.take_take, show min (n + 11 - 4) (n + 11) = n + 7 by omega]
        by_cases h10 : sealC (s.take (n + 7)) ≠ s.take (n + 11)
        · rw [if_pos h10] at hR hO
          subst hR
          have CO := Kp.mk (fun w' => open_any (s.take (n + 11)) (by omega) w')
          rw [hO] at CO
          clear hO hOl h10
          go_enter Try.func59, Try.ntmps59
          go_wp2_with (first
            | ((with_reducible refine gate_dst (N := 2) rfl ?_); go_must (refine ev_alloc rfl 77 rfl _ (rcL 0 0 ⟨#[]⟩) zeroRc rfl ?_); intro g2 w2 hg2 f2 b2)
            | ((with_reducible refine gate_store (t := 77) (p := 2) rfl ?_); go_must (refine ev_store_row rfl 77 _ _ rfl g2 (rcL 0 0 ⟨#[]⟩).toArray rfl rfl 77 _ b2 sizeRc rfl (rcL_one _ _ _) ?_); intro wA fA bA))
          go_quiet (fail)
          have F := f2.drewN nq
          have b2 := b2.drewN nq
          go_wp2_with (first
            | (go_at_call 71; go_must (refine (CO.out _).mono ?_); rintro e w3 ⟨rfl, f3⟩; have F := F.no f3; have b2 := b2.no f3)
            | ((with_reducible refine gate_store (t := 77) (p := 2) rfl ?_); go_must (refine ev_store_row rfl 77 _ _ rfl g2 (rcL 0 0 ⟨#[]⟩).toArray rfl rfl 77 _ b2 sizeRc rfl (rcL_one _ _ _) ?_); intro wA fA bA))
          (refine bodyPost_ret (results_row_tmp2 rfl _ _ g2 _ _ _ rfl bA Try.underlying77 rfl sizeRc) rfl ⟨rfl, F.one fA (.inr hg2)⟩)
        · rw [if_neg h10] at hR hO
          have b0 := a0.toNat_lt
          have b1 := a1.toNat_lt
          have b2 := a2.toNat_lt
          have b3 := a3.toNat_lt
          have b4 := a4.toNat_lt
          obtain ⟨d, hd⟩ : ∃ d, s.take (n + 7) = d := ⟨_, rfl⟩
          have hd' : d = a0 :: a1 :: a2 :: a3 :: a4 :: a5 :: a6 :: t.take n := by rw [← hd, HS.out]; rfl
          rw [hd] at hO
          obtain ⟨sq, hq⟩ : ∃ sq, ((a1.toNat * 256 + a2.toNat) * 256 + a3.toNat) * 256 + a4.toNat = sq := ⟨_, rfl⟩
          have hr : recS s = ⟨a0.toNat, sq, t.take n⟩ := by
            rw [← hq, HS.out]
            unfold recS
            rw [← HS.out, HN.out, HS.out]
            simp [beN]
          rw [hr] at hR
          have CO := Kp.mk (fun w' => open_any (s.take (n + 11)) (by omega) w')
          rw [hO] at CO
          have j0 := idx_any d 0 a0 0 rfl (by rw [hd']; rfl)
          have j1 := idx_any d 1 a1 1 rfl (by rw [hd']; rfl)
          have j2 := idx_any d 2 a2 2 rfl (by rw [hd']; rfl)
          have j3 := idx_any d 3 a3 3 rfl (by rw [hd']; rfl)
          have j4 := idx_any d 4 a4 4 rfl (by rw [hd']; rfl)
          have hw0 : IntKind.i64.wrap (a0.toNat : Int) = (a0.toNat : Int) := wraps_i64 _ (by omega) (by omega)
          have hw1 : IntKind.i64.wrap (a1.toNat : Int) = (a1.toNat : Int) := wraps_i64 _ (by omega) (by omega)
          have hw2 : IntKind.i64.wrap (a2.toNat : Int) = (a2.toNat : Int) := wraps_i64 _ (by omega) (by omega)
          have hw3 : IntKind.i64.wrap (a3.toNat : Int) = (a3.toNat : Int) := wraps_i64 _ (by omega) (by omega)
          have hw4 : IntKind.i64.wrap (a4.toNat : Int) = (a4.toNat : Int) := wraps_i64 _ (by omega) (by omega)
          have hm1 : IntKind.i64.wrap ((a1.toNat : Int) * 16777216) = (a1.toNat : Int) * 16777216 := wraps_i64 _ (by omega) (by omega)
          have hm2 : IntKind.i64.wrap ((a2.toNat : Int) * 65536) = (a2.toNat : Int) * 65536 := wraps_i64 _ (by omega) (by omega)
          have hm3 : IntKind.i64.wrap ((a3.toNat : Int) * 256) = (a3.toNat : Int) * 256 := wraps_i64 _ (by omega) (by omega)
          have ho1 : bits BinOp.or IntKind.i64 ((a1.toNat : Int) * 16777216) ((a2.toNat : Int) * 65536) = (a1.toNat : Int) * 16777216 + (a2.toNat : Int) * 65536 := i64_or24 _ _ (by omega) (by omega) (by omega) (by omega) (by omega)
          have ho2 : bits BinOp.or IntKind.i64 ((a1.toNat : Int) * 16777216 + (a2.toNat : Int) * 65536) ((a3.toNat : Int) * 256) = (a1.toNat : Int) * 16777216 + (a2.toNat : Int) * 65536 + (a3.toNat : Int) * 256 := i64_or16 _ _ (by omega) (by omega) (by omega) (by omega) (by omega)
          have ho3 : bits BinOp.or IntKind.i64 ((a1.toNat : Int) * 16777216 + (a2.toNat : Int) * 65536 + (a3.toNat : Int) * 256) (a4.toNat : Int) = (sq : Int) := by
            rw [i64_or8 _ _ (by omega) (by omega) (by omega) (by omega) (by omega)]
            omega
          have hdl : d.length = n + 7 := by rw [← hd, List.length_take]; omega
          have S2 : ∀ W : World, (Instr.slice 9 (.string (bs d)) (some (.int .i64 7)) none none).run Try.prog W = .ok (.string (bs (t.take n))) W := by
            have := sl_from d 7 7 rfl (by omega)
            rw [show d.drop 7 = t.take n by rw [hd']; rfl] at this
            exact this
          have S3 := sl_from s (n + 11) (7 + (n : Int) + 4) (by omega) (by omega)
          clear hO hOl h10 hd hd' hq hr hdl
          clear b0 b1 b2 b3 b4
          go_enter Try.func59, Try.ntmps59
          go_wp2_with (first
            | ((with_reducible refine gate_dst (N := 2) rfl ?_); go_must (refine ev_alloc rfl 77 rfl _ (rcL 0 0 ⟨#[]⟩) zeroRc rfl ?_); intro g2 w2 hg2 f2 b2)
            | ((with_reducible refine gate_store (t := 77) (p := 2) rfl ?_); go_must (refine ev_store_row rfl 77 _ _ rfl g2 (rcL 0 0 ⟨#[]⟩).toArray rfl rfl 77 _ b2 sizeRc rfl (rcL_one _ _ _) ?_); intro wA fA bA))
          go_quiet (fail)
          have F := f2.drewN nq
          have b2 := b2.drewN nq
          go_wp2_with (first
            | (go_at_call 71; go_must (refine (CO.out _).mono ?_); rintro e w3 ⟨rfl, f3⟩; have F := F.no f3; have b2 := b2.no f3)
            | ((with_reducible refine gate_store (t := 77) (p := 2) rfl ?_); go_must (refine ev_store_row rfl 77 _ _ rfl g2 (rcL 0 0 ⟨#[]⟩).toArray rfl rfl 77 _ b2 sizeRc rfl (rcL_one _ _ _) ?_); intro wA fA bA))
          refine start_ (n := 26) (S := (fun _ : World => True)) (ds := [25]) #[false, false, false, false, false, false, false, false, false, false, false, false, false, false, false, false, false, false, false, false, false, false, false, false, false, false] (by kernel_rfl) rfl rfl trivial (fun hHeld => ?_)
          refine pure_ (i := 0) (N := some 43) (v := ?_) (a' := ?_) #[true, false, false, false, false, false, false, false, false, false, false, false, false, false, false, false, false, false, false, false, false, false, false, false, false, false] rfl rfl (by kernel_rfl) (fun _ _ _ h => h) (Or.inl ⟨by rfl, ?_⟩) ?_ ?_
          rotate_left
          · intro w'; go_simp; with_reducible rfl
          rotate_left
          · simp only [Act.put, List.setIfInBounds_toArray, List.set_cons_zero, List.set_cons_succ]; rfl
          refine pure_ (i := 1) (N := some 44) (v := ?_) (a' := ?_) #[true, true, false, false, false, false, false, false, false, false, false, false, false, false, false, false, false, false, false, false, false, false, false, false, false, false] rfl rfl (by kernel_rfl) (fun _ _ _ h => h) (Or.inl ⟨by rfl, ?_⟩) ?_ ?_
          rotate_left
          · intro w'; go_simp; with_reducible rfl
          rotate_left
          · simp only [Act.put, List.setIfInBounds_toArray, List.set_cons_zero, List.set_cons_succ]; rfl
          refine pure_ (i := 2) (N := some 45) (v := ?_) (a' := ?_) #[true, true, true, false, false, false, false, false, false, false, false, false, false, false, false, false, false, false, false, false, false, false, false, false, false, false] rfl rfl (by kernel_rfl) (fun _ _ _ h => h) (Or.inl ⟨by rfl, ?_⟩) ?_ ?_
          rotate_left
          · intro w'; go_simp; with_reducible rfl
          rotate_left
          · simp only [Act.put, List.setIfInBounds_toArray, List.set_cons_zero, List.set_cons_succ]; rfl
          refine pure_ (i := 3) (N := some 46) (v := ?_) (a' := ?_) #[true, true, true, true, false, false, false, false, false, false, false, false, false, false, false, false, false, false, false, false, false, false, false, false, false, false] rfl rfl (by kernel_rfl) (fun _ _ _ h => h) (Or.inl ⟨by rfl, ?_⟩) ?_ ?_
          rotate_left
          · intro w'; go_simp; with_reducible rfl
          rotate_left
          · simp only [Act.put, List.setIfInBounds_toArray, List.set_cons_zero, List.set_cons_succ]; rfl
          refine pure_ (i := 4) (N := some 47) (v := ?_) (a' := ?_) #[true, true, true, true, true, false, false, false, false, false, false, false, false, false, false, false, false, false, false, false, false, false, false, false, false, false] rfl rfl (by kernel_rfl) (fun _ _ _ h => h) (Or.inl ⟨by rfl, ?_⟩) ?_ ?_
          rotate_left
          · intro w'; go_simp; with_reducible rfl
          rotate_left
          · simp only [Act.put, List.setIfInBounds_toArray, List.set_cons_zero, List.set_cons_succ]; rfl
          refine pure_ (i := 5) (N := some 48) (v := ?_) (a' := ?_) #[true, true, true, true, true, true, false, false, false, false, false, false, false, false, false, false, false, false, false, false, false, false, false, false, false, false] rfl rfl (by kernel_rfl) (fun _ _ _ h => h) (Or.inl ⟨by rfl, ?_⟩) ?_ ?_
          rotate_left
          · intro w'; go_simp; with_reducible rfl
          rotate_left
          · simp only [Act.put, List.setIfInBounds_toArray, List.set_cons_zero, List.set_cons_succ]; rfl
          refine pure_ (i := 6) (N := some 49) (v := ?_) (a' := ?_) #[true, true, true, true, true, true, true, false, false, false, false, false, false, false, false, false, false, false, false, false, false, false, false, false, false, false] rfl rfl (by kernel_rfl) (fun _ _ _ h => h) (Or.inl ⟨by rfl, ?_⟩) ?_ ?_
          rotate_left
          · intro w'; go_simp; with_reducible rfl
          rotate_left
          · simp only [Act.put, List.setIfInBounds_toArray, List.set_cons_zero, List.set_cons_succ]; rfl
          refine pure_ (i := 7) (N := some 50) (v := ?_) (a' := ?_) #[true, true, true, true, true, true, true, true, false, false, false, false, false, false, false, false, false, false, false, false, false, false, false, false, false, false] rfl rfl (by kernel_rfl) (fun _ _ _ h => h) (Or.inl ⟨by rfl, ?_⟩) ?_ ?_
          rotate_left
          · intro w'; go_simp; with_reducible rfl
          rotate_left
          · simp only [Act.put, List.setIfInBounds_toArray, List.set_cons_zero, List.set_cons_succ]; rfl
          refine pure_ (i := 8) (N := some 51) (v := ?_) (a' := ?_) #[true, true, true, true, true, true, true, true, true, false, false, false, false, false, false, false, false, false, false, false, false, false, false, false, false, false] rfl rfl (by kernel_rfl) (fun _ _ _ h => h) (Or.inl ⟨by rfl, ?_⟩) ?_ ?_
          rotate_left
          · intro w'; go_simp; with_reducible rfl
          rotate_left
          · simp only [Act.put, List.setIfInBounds_toArray, List.set_cons_zero, List.set_cons_succ]; rfl
          refine pure_ (i := 9) (N := some 52) (v := ?_) (a' := ?_) #[true, true, true, true, true, true, true, true, true, true, false, false, false, false, false, false, false, false, false, false, false, false, false, false, false, false] rfl rfl (by kernel_rfl) (fun _ _ _ h => h) (Or.inl ⟨by rfl, ?_⟩) ?_ ?_
          rotate_left
          · intro w'; go_simp; with_reducible rfl
          rotate_left
          · simp only [Act.put, List.setIfInBounds_toArray, List.set_cons_zero, List.set_cons_succ]; rfl
          refine pure_ (i := 10) (N := some 53) (v := ?_) (a' := ?_) #[true, true, true, true, true, true, true, true, true, true, true, false, false, false, false, false, false, false, false, false, false, false, false, false, false, false] rfl rfl (by kernel_rfl) (fun _ _ _ h => h) (Or.inl ⟨by rfl, ?_⟩) ?_ ?_
          rotate_left
          · intro w'; go_simp; with_reducible rfl
          rotate_left
          · simp only [Act.put, List.setIfInBounds_toArray, List.set_cons_zero, List.set_cons_succ]; rfl
          refine pure_ (i := 11) (N := some 54) (v := ?_) (a' := ?_) #[true, true, true, true, true, true, true, true, true, true, true, true, false, false, false, false, false, false, false, false, false, false, false, false, false, false] rfl rfl (by kernel_rfl) (fun _ _ _ h => h) (Or.inl ⟨by rfl, ?_⟩) ?_ ?_
          rotate_left
          · intro w'; go_simp; with_reducible rfl
          rotate_left
          · simp only [Act.put, List.setIfInBounds_toArray, List.set_cons_zero, List.set_cons_succ]; rfl
          refine pure_ (i := 12) (N := some 55) (v := ?_) (a' := ?_) #[true, true, true, true, true, true, true, true, true, true, true, true, true, false, false, false, false, false, false, false, false, false, false, false, false, false] rfl rfl (by kernel_rfl) (fun _ _ _ h => h) (Or.inl ⟨by rfl, ?_⟩) ?_ ?_
          rotate_left
          · intro w'; go_simp; with_reducible rfl
          rotate_left
          · simp only [Act.put, List.setIfInBounds_toArray, List.set_cons_zero, List.set_cons_succ]; rfl
          refine pure_ (i := 13) (N := some 56) (v := ?_) (a' := ?_) #[true, true, true, true, true, true, true, true, true, true, true, true, true, true, false, false, false, false, false, false, false, false, false, false, false, false] rfl rfl (by kernel_rfl) (fun _ _ _ h => h) (Or.inl ⟨by rfl, ?_⟩) ?_ ?_
          rotate_left
          · intro w'; go_simp; with_reducible rfl
          rotate_left
          · simp only [Act.put, List.setIfInBounds_toArray, List.set_cons_zero, List.set_cons_succ]; rfl
          refine pure_ (i := 14) (N := some 57) (v := ?_) (a' := ?_) #[true, true, true, true, true, true, true, true, true, true, true, true, true, true, true, false, false, false, false, false, false, false, false, false, false, false] rfl rfl (by kernel_rfl) (fun _ _ _ h => h) (Or.inl ⟨by rfl, ?_⟩) ?_ ?_
          rotate_left
          · intro w'; go_simp; with_reducible rfl
          rotate_left
          · simp only [Act.put, List.setIfInBounds_toArray, List.set_cons_zero, List.set_cons_succ]; rfl
          refine pure_ (i := 15) (N := some 58) (v := ?_) (a' := ?_) #[true, true, true, true, true, true, true, true, true, true, true, true, true, true, true, true, false, false, false, false, false, false, false, false, false, false] rfl rfl (by kernel_rfl) (fun _ _ _ h => h) (Or.inl ⟨by rfl, ?_⟩) ?_ ?_
          rotate_left
          · intro w'; go_simp; with_reducible rfl
          rotate_left
          · simp only [Act.put, List.setIfInBounds_toArray, List.set_cons_zero, List.set_cons_succ]; rfl
          refine pure_ (i := 16) (N := some 59) (v := ?_) (a' := ?_) #[true, true, true, true, true, true, true, true, true, true, true, true, true, true, true, true, true, false, false, false, false, false, false, false, false, false] rfl rfl (by kernel_rfl) (fun _ _ _ h => h) (Or.inl ⟨by rfl, ?_⟩) ?_ ?_
          rotate_left
          · intro w'; go_simp; with_reducible rfl
          rotate_left
          · simp only [Act.put, List.setIfInBounds_toArray, List.set_cons_zero, List.set_cons_succ]; rfl
          refine pure_ (i := 17) (N := some 60) (v := ?_) (a' := ?_) #[true, true, true, true, true, true, true, true, true, true, true, true, true, true, true, true, true, true, false, false, false, false, false, false, false, false] rfl rfl (by kernel_rfl) (fun _ _ _ h => h) (Or.inl ⟨by rfl, ?_⟩) ?_ ?_
          rotate_left
          · intro w'; go_simp; with_reducible rfl
          rotate_left
          · simp only [Act.put, List.setIfInBounds_toArray, List.set_cons_zero, List.set_cons_succ]; rfl
          refine pure_ (i := 18) (N := some 61) (v := ?_) (a' := ?_) #[true, true, true, true, true, true, true, true, true, true, true, true, true, true, true, true, true, true, true, false, false, false, false, false, false, false] rfl rfl (by kernel_rfl) (fun _ _ _ h => h) (Or.inl ⟨by rfl, ?_⟩) ?_ ?_
          rotate_left
          · intro w'; go_simp; with_reducible rfl
          rotate_left
          · simp only [Act.put, List.setIfInBounds_toArray, List.set_cons_zero, List.set_cons_succ]; rfl
          refine pure_ (i := 19) (N := some 62) (v := ?_) (a' := ?_) #[true, true, true, true, true, true, true, true, true, true, true, true, true, true, true, true, true, true, true, true, false, false, false, false, false, false] rfl rfl (by kernel_rfl) (fun _ _ _ h => h) (Or.inl ⟨by rfl, ?_⟩) ?_ ?_
          rotate_left
          · intro w'; go_simp; with_reducible rfl
          rotate_left
          · simp only [Act.put, List.setIfInBounds_toArray, List.set_cons_zero, List.set_cons_succ]; rfl
          refine pure_ (i := 20) (N := some 63) (v := ?_) (a' := ?_) #[true, true, true, true, true, true, true, true, true, true, true, true, true, true, true, true, true, true, true, true, true, false, false, false, false, false] rfl rfl (by kernel_rfl) (fun _ _ _ h => h) (Or.inl ⟨by rfl, ?_⟩) ?_ ?_
          rotate_left
          · intro w'; go_simp; with_reducible rfl
          rotate_left
          · simp only [Act.put, List.setIfInBounds_toArray, List.set_cons_zero, List.set_cons_succ]; rfl
          refine pure_ (i := 21) (N := some 64) (v := ?_) (a' := ?_) #[true, true, true, true, true, true, true, true, true, true, true, true, true, true, true, true, true, true, true, true, true, true, false, false, false, false] rfl rfl (by kernel_rfl) (fun _ _ _ h => h) (Or.inl ⟨by rfl, ?_⟩) ?_ ?_
          rotate_left
          · intro w'; go_simp; with_reducible rfl
          rotate_left
          · simp only [Act.put, List.setIfInBounds_toArray, List.set_cons_zero, List.set_cons_succ]; rfl
          refine pure_ (i := 22) (N := some 65) (v := ?_) (a' := ?_) #[true, true, true, true, true, true, true, true, true, true, true, true, true, true, true, true, true, true, true, true, true, true, true, false, false, false] rfl rfl (by kernel_rfl) (fun _ _ _ h => h) (Or.inl ⟨by rfl, ?_⟩) ?_ ?_
          rotate_left
          · intro w'; go_simp; with_reducible rfl
          rotate_left
          · simp only [Act.put, List.setIfInBounds_toArray, List.set_cons_zero, List.set_cons_succ]; rfl
          refine pure_ (i := 23) (N := some 66) (v := ?_) (a' := ?_) #[true, true, true, true, true, true, true, true, true, true, true, true, true, true, true, true, true, true, true, true, true, true, true, true, false, false] rfl rfl (by kernel_rfl) (fun _ _ _ h => h) (Or.inl ⟨by rfl, ?_⟩) ?_ ?_
          rotate_left
          · intro w'; go_simp; with_reducible rfl
          rotate_left
          · simp only [Act.put, List.setIfInBounds_toArray, List.set_cons_zero, List.set_cons_succ]; rfl
          refine one_ (i := 24) (N := some 9) #[true, true, true, true, true, true, true, true, true, true, true, true, true, true, true, true, true, true, true, true, true, true, true, true, true, false] rfl rfl (by kernel_rfl) (by decide) (fun K hK => ?_)
          refine step_alloc (N := some 9) rfl rfl 77 rfl _ (rcL 0 0 ⟨#[]⟩) zeroRc rfl ?_; intro g9 w9 hg9 f9 b9; refine hK.out _ _ trivial (fun hHeld => ?_)
          clear hK K
          refine norm_ (a' := ?_) ?_ ?_
          rotate_left
          · simp only [Act.put, List.setIfInBounds_toArray, List.set_cons_zero, List.set_cons_succ]; rfl
          refine last_ (i := 25) (N := none) #[true, true, true, true, true, true, true, true, true, true, true, true, true, true, true, true, true, true, true, true, true, true, true, true, true, true] rfl rfl (by kernel_rfl) (by decide) (fun K hK => ?_)
          refine step_store_row rfl rfl 77 _ _ rfl g9 (rcL (a0.toNat : Int) (sq : Int) (bs (t.take n))).toArray rfl rfl 77 (rcL 0 0 ⟨#[]⟩) b9 sizeRc rfl (rcL_one _ _ _) ?_; intro w10 f10 b10; refine hK.out _ _ ?_
          clear hK K
          refine norm_ (a' := ?_) ?_ ?_
          rotate_left
          · simp only [Act.put, List.setIfInBounds_toArray, List.set_cons_zero, List.set_cons_succ]; rfl
          refine done_ (by kernel_rfl) ?_
          have q0 := b10.at_ 0 rfl
          have q1 := b10.at_ 1 rfl
          have q2 := b10.at_ 2 rfl
          have h29 : g2 < g9 := Nat.lt_of_lt_of_le (blk_drew b2).lt hg9
          have hWg : w.heap.size ≤ g9 := Nat.le_trans hg2 (Nat.le_of_lt h29)
          have b2 : Blk w10 g2 77 (rcL 0 0 ⟨#[]⟩) := ((blk_drew b2).no f9).one f10 (Nat.ne_of_lt h29)
          have F : Fr No w w10 := (F.drew.no f9).one f10 (.inr hWg)
          by_cases h11 : a0.toNat = 0
          · have h11z : (a0.toNat : Int) = 0 := by omega
            rw [if_pos h11] at hR
            subst hR
            go_wp2_with (first
              | ((with_reducible refine gate_store (t := 77) (p := 2) rfl ?_); go_must (refine ev_store_row rfl 77 _ _ rfl g2 (rcL 0 0 ⟨#[]⟩).toArray rfl rfl 77 _ b2 sizeRc rfl (rcL_one _ _ _) ?_); intro wA fA bA))
            (refine bodyPost_ret (results_row_tmp2 rfl _ _ g2 _ _ _ rfl bA Try.underlying77 rfl sizeRc) rfl ⟨rfl, F.one fA (.inr hg2)⟩)
          · have h11z : ¬ (a0.toNat : Int) = 0 := by omega
            rw [if_neg h11] at hR
            by_cases h12 : 2147483647 < sq
            · have h12z : (2147483647 : Int) < (sq : Int) := by omega
              rw [if_pos h12] at hR
              subst hR
              go_wp2_with (first
                | ((with_reducible refine gate_store (t := 77) (p := 2) rfl ?_); go_must (refine ev_store_row rfl 77 _ _ rfl g2 (rcL 0 0 ⟨#[]⟩).toArray rfl rfl 77 _ b2 sizeRc rfl (rcL_one _ _ _) ?_); intro wA fA bA))
              (refine bodyPost_ret (results_row_tmp2 rfl _ _ g2 _ _ _ rfl bA Try.underlying77 rfl sizeRc) rfl ⟨rfl, F.one fA (.inr hg2)⟩)
            · have h12z : ¬ (2147483647 : Int) < (sq : Int) := by omega
              rw [if_neg h12] at hR
              subst hR
              go_wp2_with (first
                | ((with_reducible refine gate_store (t := 77) (p := 2) rfl ?_); go_must (refine ev_store_row rfl 77 _ _ rfl g2 (rcL 0 0 ⟨#[]⟩).toArray rfl rfl 77 _ b2 sizeRc rfl (rcL_one _ _ _) ?_); intro wA fA bA))
              refine start_ (n := 7) (S := (fun w'' : World => Blk w'' g9 77 (rcL (a0.toNat : Int) (sq : Int) (bs (t.take n))))) (ds := [4]) #[false, false, false, false, false, false, false] (by kernel_rfl) rfl rfl (blk_drew b10) (fun hHeld => ?_)
              refine pure_ (i := 1) (N := some 78) (v := ?_) (a' := ?_) #[false, true, false, false, false, false, false] rfl rfl (by kernel_rfl) (fun _ _ _ h => h) (Or.inl ⟨by rfl, ?_⟩) ?_ ?_
              rotate_left
              · intro w'; go_simp; with_reducible rfl
              rotate_left
              · simp only [Act.put, List.setIfInBounds_toArray, List.set_cons_zero, List.set_cons_succ]; rfl
              refine pure_ (i := 2) (N := some 79) (v := ?_) (a' := ?_) #[false, true, true, false, false, false, false] rfl rfl (by kernel_rfl) (fun _ _ _ h => h) (Or.inl ⟨by rfl, ?_⟩) ?_ ?_
              rotate_left
              · intro w'; go_simp; with_reducible rfl
              rotate_left
              · simp only [Act.put, List.setIfInBounds_toArray, List.set_cons_zero, List.set_cons_succ]; rfl
              refine pure_ (i := 3) (N := some 80) (v := ?_) (a' := ?_) #[false, true, true, true, false, false, false] rfl rfl (by kernel_rfl) (fun _ _ _ h => h) (Or.inl ⟨by rfl, ?_⟩) ?_ ?_
              rotate_left
              · intro w'; go_simp; with_reducible rfl
              rotate_left
              · simp only [Act.put, List.setIfInBounds_toArray, List.set_cons_zero, List.set_cons_succ]; rfl
              refine take_ (i := 0) (N := some 77) (v := ?_) (a' := ?_) #[true, true, true, true, false, false, false] rfl rfl (by kernel_rfl) (fun _ _ _ h => h) (Or.inl ⟨by rfl, ?_⟩) hHeld ?_ ?_
              rotate_left
              · rintro w' s0; have c0 := s0.at_ 0 rfl; have c1 := s0.at_ 1 rfl; have c2 := s0.at_ 2 rfl; go_simp; with_reducible rfl
              rotate_left
              · simp only [Act.put, List.setIfInBounds_toArray, List.set_cons_zero, List.set_cons_succ]; rfl
              refine last_ (i := 4) (N := none) #[true, true, true, true, true, false, false] rfl rfl (by kernel_rfl) (by decide) (fun K hK => ?_)
              refine step_store_row rfl rfl 77 _ _ rfl g2 (rcL (a0.toNat : Int) (sq : Int) (bs (t.take n))).toArray rfl rfl 77 (rcL 0 0 ⟨#[]⟩) (blk_drew b2) sizeRc rfl (rcL_one _ _ _) ?_; intro w11 f11 b11; refine hK.out _ _ ?_
              clear hK K
              refine norm_ (a' := ?_) ?_ ?_
              rotate_left
              · simp only [Act.put, List.setIfInBounds_toArray, List.set_cons_zero, List.set_cons_succ]; rfl
              refine pure_ (i := 5) (N := some 3) (v := ?_) (a' := ?_) #[true, true, true, true, true, true, false] rfl rfl (by kernel_rfl) (fun _ _ _ h => h) (Or.inl ⟨by rfl, ?_⟩) ?_ ?_
              rotate_left
              · intro w'; go_simp; with_reducible rfl
              rotate_left
              · simp only [Act.put, List.setIfInBounds_toArray, List.set_cons_zero, List.set_cons_succ]; rfl
              refine pure_ (i := 6) (N := some 4) (v := ?_) (a' := ?_) #[true, true, true, true, true, true, true] rfl rfl (by kernel_rfl) (fun _ _ _ h => h) (Or.inl ⟨by rfl, ?_⟩) ?_ ?_
              rotate_left
              · intro w'; go_simp; with_reducible rfl
              rotate_left
              · simp only [Act.put, List.setIfInBounds_toArray, List.set_cons_zero, List.set_cons_succ]; rfl
              refine done_ (by kernel_rfl) ?_
              skip
              have bA := b11
              have F : Fr No w w11 := F.drew.one f11 (.inr hg2)
              simp only [Exit.then]
              refine ‹∀ (a : Act) (w : World), Code.wp Try.prog _ _ a w → _› _ _ ?_
              go_wp2_with fail
              refine bodyPost_ret (results_row_tmp2 rfl _ _ g2 _ _ _ rfl bA Try.underlying77 rfl sizeRc) rfl ⟨rfl, F⟩
end Go.Proofs.Ytioohhekamjljaa.Wk

/- tlv's Reader.Feed. Conditions: sizes are bounded, as written out. -/
set_option linter.unusedSimpArgs false
set_option linter.unusedVariables false
namespace Go.Proofs.Ytioohhekamjljaa.Wk
open Go Go.RowKit Go.Proofs.YtioohhekamjljaaW.PrintWords Go.Proofs.YtioohhekamjljaaW.PrintLast Go.Proofs.Ytioohhekamjljaa.Ev Go.Proofs.Ytioohhekamjljaa.Reg Go.Proofs.Ytioohhekamjljaa.Sha Go.Proofs.Ytioohhekamjljaa.Sb Go.Proofs.Ytioohhekamjljaa.Crc Go.Proofs.Ytioohhekamjljaa.Wi

abbrev rdL (wt : B) (n e : Int) : List Value := [.string (bs wt), .int .i64 n, .int .i64 e]
/-- Records' cells. -/
def rcsL (l : List Rc) : List Value := l.flatMap fun x => rcL x.kind x.seq (bs x.pay)
theorem rcsL_len (l : List Rc) : (rcsL l).length = l.length * 3 := by
  induction l with
  | nil => rfl
  | cons x l ih =>
    have : rcsL (x :: l) = rcL x.kind x.seq (bs x.pay) ++ rcsL l := rfl
    rw [this, List.length_append, ih]
    simp
    omega
theorem rcsL_snoc (l : List Rc) (x : Rc) : rcsL (l ++ [x]) = rcsL l ++ rcL x.kind x.seq (bs x.pay) := by simp [rcsL]
theorem sizeStr : (Try.prog.info? 9).map (·.size) = some 1 := by kernel_rfl
theorem sizeInt : (Try.prog.info? 3).map (·.size) = some 1 := by kernel_rfl
theorem rcL_all (k q : Int) (p : ByteArray) : ∀ u ∈ rcL k q p, u.oneCell' = true := by
  intro u hu
  simp only [rcL, List.mem_cons, List.not_mem_nil, or_false] at hu
  rcases hu with rfl | rfl | rfl <;> rfl
theorem sizeErr : (Try.prog.info? 27).map (·.size) = some 1 := by kernel_rfl
theorem infoRc : (Try.prog.info? 77).map (fun i => (i.zero, i.size, i.bytes)) = some (some (.agg (rcL 0 0 ⟨#[]⟩).toArray), 3, 32) := by kernel_rfl
/-- A row of the call's own stays where a block is written that was made behind it. -/
theorem own_new {w0 w7 w8 : World} {base n size g7 : Nat} {e : TypeId} {v : Value} {cs : List Value} (h0 : w0.ownsRow base e size v n cs) (hg : w0.heap.size ≤ g7) (h : w7.ownsRow base e size v n cs) (f : Fr (One g7) w7 w8) : w8.ownsRow base e size v n cs :=
  own_keep h f (fun k hk hh => by
    obtain ⟨cells, hc⟩ := own_typed h0 k hk
    have hlt := (Array.getElem?_eq_some_iff.1 hc).1
    have : k = g7 := hh
    omega)
set_option maxHeartbeats 8000000 in
set_option maxRecDepth 100000 in
theorem tfeed_any (wt s : B) (n0 : Nat) (w : World) (g : Nat) (hB : Blk w g 124 (rdL wt n0 0)) (hl : (wt ++ s).length ≤ 1073741824) (hn : n0 ≤ 1073741824) :
    Calls Try.prog 39 #[.pointer (some ⟨g, 0, none⟩), .string (bs s)] w fun e w' => ∃ A c, e = .returned (.tuple #[.slice A (recs n0 (wt ++ s)).1.length c, .int .i64 ((recs n0 (wt ++ s)).2.2 : Int)])
      ∧ w'.ownsRow w.heap.size 77 3 (.slice A (recs n0 (wt ++ s)).1.length c) (recs n0 (wt ++ s)).1.length (rcsL (recs n0 (wt ++ s)).1)
      ∧ Blk w' g 124 (rdL (recs n0 (wt ++ s)).2.1 ((n0 + (recs n0 (wt ++ s)).1.length : Nat) : Int) ((recs n0 (wt ++ s)).2.2 : Int)) ∧ Fr (One g) w w' := by
  obtain ⟨R, hR⟩ : ∃ R, recs n0 (wt ++ s) = R := ⟨_, rfl⟩
  rw [hR]
  have HR := Kp.mk hR
  have HGB : Kp (∀ k, w.heap.size ≤ k → ¬ k = g) := ⟨fun k hk e => by have := hB.lt; omega⟩
  have c0 := hB.at_ 0 rfl
  have c1 := hB.at_ 1 rfl
  have c2 := hB.at_ 2 rfl
  have z1 : (bs wt).size + (bs s).size ≤ 9223372036854775807 := by rw [bs_size, bs_size]; rw [List.length_append] at hl; omega
  have z2 : wt.length + s.length ≤ 9223372036854775807 := by rw [List.length_append] at hl; omega
  clear hR
  go_enter Try.func39, Try.ntmps39
  go_wp2_with fail
  refine wp_scope_ghost 0 (fun m a' w' => ∃ (l : List Rc) (N nt : Nat) (s' : B) (A : Option Addr) (c : Nat) (u : Nat → Value), (m = s'.length ∧ N = l.length ∧ nt = n0 + l.length ∧ recs n0 (wt ++ s) = (l ++ (recs nt s').1, (recs nt s').2) ∧ N + s'.length ≤ 1073741824 ∧ w'.ownsRow w.heap.size 77 3 (.slice A N c) N (rcsL l) ∧ Blk w' g 124 (rdL s' (nt : Int) 0) ∧ Fr (One g) w w') ∧ a' = { tmps := List.toArray (.pointer (some ⟨g, 0, none⟩) :: .string (bs s) :: u 2 :: u 3 :: u 4 :: u 5 :: .slice A N c :: u 7 :: u 8 :: u 9 :: u 10 :: u 11 :: u 12 :: u 13 :: u 14 :: u 15 :: u 16 :: u 17 :: u 18 :: u 19 :: u 20 :: u 21 :: u 22 :: u 23 :: u 24 :: u 25 :: u 26 :: u 27 :: u 28 :: u 29 :: u 30 :: u 31 :: u 32 :: u 33 :: u 34 :: u 35 :: u 36 :: u 37 :: u 38 :: u 39 :: u 40 :: u 41 :: u 42 :: u 43 :: u 44 :: u 45 :: u 46 :: u 47 :: u 48 :: u 49 :: u 50 :: u 51 :: u 52 :: u 53 :: u 54 :: u 55 :: u 56 :: u 57 :: u 58 :: u 59 :: u 60 :: u 61 :: u 62 :: u 63 :: u 64 :: u 65 :: u 66 :: u 67 :: u 68 :: u 69 :: u 70 :: u 71 :: u 72 :: u 73 :: u 74 :: u 75 :: u 76 :: u 77 :: u 78 :: u 79 :: u 80 :: u 81 :: []), defers := [] }) rfl ?_ ?_
  · intro Q' hQ
    have HQ := Kp.mk hQ
    clear hQ
    have hfz := hB.free 0
    go_wp2_with fail
    go_step3
    go_step
    go_step
    have bS : Blk (w.setCell ⟨g, 0, none⟩ (.string (bs wt ++ bs s))) g 124 (rdL (wt ++ s) n0 0) := by
      have := hB.set 0 (.string (bs wt ++ bs s))
      rw [bs_append] at this ⊢
      exact this
    refine HQ.out (wt ++ s).length _ _ ⟨[], 0, n0, wt ++ s, none, 0, ?_⟩
    refine ex_u ⟨rfl, rfl, rfl, rfl, by rw [Nat.zero_add]; exact hl, ⟨rfl, .inl ⟨rfl, rfl⟩⟩, bS, Fr.setCell _ _ _ _⟩ rfl
  · rintro m a' W ⟨l, N, nt, s', A, c, u, ⟨hm, hN, hnt, hrec, hls, OW, BR, F⟩, rfl⟩ J hJ
    have CP := Kp.mk (fun w' => tparse_any s' (by omega) w')
    have c0 := BR.at_ 0 rfl
    have HREC := Kp.mk hrec
    clear hrec
    cases hp : parseT s' with
    | none =>
      have hv : parseV s' = (rcL 0 0 ⟨#[]⟩, [], 4) := by unfold parseV; rw [hp]
      rw [hv] at CP
      have hr := HREC.out
      rw [HR.out, recs_none hp, List.append_nil] at hr
      subst hr
      go_wp2_with (first
        | (go_at_call 59; go_must (refine (CP.out _).mono ?_); rintro e w3 ⟨rfl, f3⟩; have BR := BR.no f3; have c0 := BR.at_ 0 rfl; have c1 := BR.at_ 1 rfl; have c2 := BR.at_ 2 rfl; have OW := own_no OW f3; have F := F.no f3)
        | ((with_reducible refine gate_dst (N := 7) rfl ?_); go_must (refine ev_alloc rfl 77 rfl _ (rcL 0 0 ⟨#[]⟩) zeroRc rfl ?_); intro g7 w7 hg7 f7 b7)
        | ((with_reducible refine gate_store (t := 77) (p := 7) rfl ?_); go_must (refine ev_store_row rfl 77 _ _ rfl g7 ((rcL 0 0 ⟨#[]⟩)).toArray rfl rfl 77 _ b7 sizeRc rfl (rcL_one _ _ _) ?_); intro w8 f8 b8; have b8 : Blk w8 g7 77 (rcL 0 0 ⟨#[]⟩) := b8; have hg7' : w3.heap.size ≤ g7 := hg7; have OW := own_new OW hg7' (own_no OW f7) f8; have BR := (BR.no f7).one f8 (Nat.ne_of_lt (Nat.lt_of_lt_of_le BR.lt hg7')); have F := (F.no f7).one f8 (.inr (Nat.le_trans F.size hg7')); have c0 := BR.at_ 0 rfl; have c1 := BR.at_ 1 rfl; have c2 := BR.at_ 2 rfl; have d0 := b8.at_ 0 rfl; have d1 := b8.at_ 1 rfl; have d2 := b8.at_ 2 rfl))
      simp only [Exit.jump]
      go_ret2
      subst hN hnt
      exact ⟨A, c, rfl, OW, BR, F⟩
    | err e =>
      have hr := HREC.out
      rw [HR.out, recs_err hp, List.append_nil] at hr
      subst hr
      have hv : parseV s' = (rcL 0 0 ⟨#[]⟩, [], (e : Int)) := by unfold parseV; rw [hp]
      rw [hv] at CP
      have BN := Kp.mk hN
      have BT := Kp.mk hnt
      clear hN hnt hv HREC HR
      rcases parse_err hp with rfl | rfl | rfl | rfl
      all_goals
        clear hp
        go_wp2_with (first
          | (go_at_call 59; go_must (refine (CP.out _).mono ?_); rintro e w3 ⟨rfl, f3⟩; have BR := BR.no f3; have c0 := BR.at_ 0 rfl; have c1 := BR.at_ 1 rfl; have c2 := BR.at_ 2 rfl; have OW := own_no OW f3; have F := F.no f3)
          | ((with_reducible refine gate_dst (N := 7) rfl ?_); go_must (refine ev_alloc rfl 77 rfl _ (rcL 0 0 ⟨#[]⟩) zeroRc rfl ?_); intro g7 w7 hg7 f7 b7)
          | ((with_reducible refine gate_store (t := 77) (p := 7) rfl ?_); go_must (refine ev_store_row rfl 77 _ _ rfl g7 ((rcL 0 0 ⟨#[]⟩)).toArray rfl rfl 77 _ b7 sizeRc rfl (rcL_one _ _ _) ?_); intro w8 f8 b8; have b8 : Blk w8 g7 77 (rcL 0 0 ⟨#[]⟩) := b8; have hg7' : w3.heap.size ≤ g7 := hg7; have OW := own_new OW hg7' (own_no OW f7) f8; have BR := (BR.no f7).one f8 (Nat.ne_of_lt (Nat.lt_of_lt_of_le BR.lt hg7')); have F := (F.no f7).one f8 (.inr (Nat.le_trans F.size hg7')); have c0 := BR.at_ 0 rfl; have c1 := BR.at_ 1 rfl; have c2 := BR.at_ 2 rfl; have d0 := b8.at_ 0 rfl; have d1 := b8.at_ 1 rfl; have d2 := b8.at_ 2 rfl))
        go_quiet (fail)
        have F := F.drewN nq
        have BR := BR.drewN nq
        have OW := own_no OW ((Fr.refl No w8).drewN nq)
        go_wp2_with (first
          | ((with_reducible refine gate_store (t := 27) (p := 62) rfl ?_); go_must (refine ev_store rfl 27 _ _ rfl g 2 _ rfl rfl rfl 124 _ BR (by simp) sizeErr ?_); intro wE fE bE; have OW := own_keep OW fE (fun k hk hh => HGB.out k (own_base OW k hk) hh); have F := F.one fE (.inl rfl))
          | ((with_reducible refine gate_store (t := 9) (p := 64) rfl ?_); go_must (refine ev_store rfl 9 _ _ rfl g 0 _ rfl rfl rfl 124 _ bE (by simp) sizeStr ?_); intro wF fF bF; have OW := own_keep OW fF (fun k hk hh => HGB.out k (own_base OW k hk) hh); have F := F.one fF (.inl rfl)))
        simp only [Exit.jump]
        go_ret2
        cases BN.out
        cases BT.out
        exact ⟨A, c, rfl, OW, bF, F⟩
    | got x t =>
      have hv : parseV s' = (rcL x.kind x.seq (bs x.pay), t, 0) := by unfold parseV; rw [hp]
      rw [hv] at CP
      by_cases hq : x.seq = nt
      · obtain ⟨xk, xq, xp⟩ := x
        have hq : xq = nt := hq
        subst hq
        have hsh := got_shorter hp
        have hq2 : (xq : Int) + 1 ≤ 1099511627776 := by omega
        have hq3 : (0 : Int) ≤ (xq : Int) := by omega
        have hr : recs n0 (wt ++ s) = (l ++ [⟨xk, xq, xp⟩] ++ (recs (xq + 1) t).1, (recs (xq + 1) t).2) := by
          rw [HREC.out, recs_got hp rfl, List.append_assoc]
          rfl
        have HR2 := Kp.mk hr
        have hNb : N ≤ 1073741824 := by omega
        have BN := Kp.mk hN
        have BT := Kp.mk hnt
        have HSH := Kp.mk hsh
        have HLS := Kp.mk hls
        have HM := Kp.mk hm
        clear hN hnt hv hr HREC HR hp hsh hls hm
        go_wp2_with (first
          | (go_at_call 59; go_must (refine (CP.out _).mono ?_); rintro e w3 ⟨rfl, f3⟩; have BR := BR.no f3; have c0 := BR.at_ 0 rfl; have c1 := BR.at_ 1 rfl; have c2 := BR.at_ 2 rfl; have OW := own_no OW f3; have F := F.no f3)
          | ((with_reducible refine gate_dst (N := 7) rfl ?_); go_must (refine ev_alloc rfl 77 rfl _ (rcL 0 0 ⟨#[]⟩) zeroRc rfl ?_); intro g7 w7 hg7 f7 b7)
          | ((with_reducible refine gate_store (t := 77) (p := 7) rfl ?_); go_must (refine ev_store_row rfl 77 _ _ rfl g7 ((rcL xk xq (bs xp))).toArray rfl rfl 77 _ b7 sizeRc rfl (rcL_one _ _ _) ?_); intro w8 f8 b8; have b8 : Blk w8 g7 77 (rcL xk xq (bs xp)) := b8; have hg7' : w3.heap.size ≤ g7 := hg7; have OW := own_new OW hg7' (own_no OW f7) f8; have BR := (BR.no f7).one f8 (Nat.ne_of_lt (Nat.lt_of_lt_of_le BR.lt hg7')); have F := (F.no f7).one f8 (.inr (Nat.le_trans F.size hg7')); have c0 := BR.at_ 0 rfl; have c1 := BR.at_ 1 rfl; have c2 := BR.at_ 2 rfl; have d0 := b8.at_ 0 rfl; have d1 := b8.at_ 1 rfl; have d2 := b8.at_ 2 rfl))
        go_quiet (fail)
        have F := F.drewN nq
        have BR := BR.drewN nq
        have b8 := b8.drewN nq
        have OW := own_no OW ((Fr.refl No w8).drewN nq)
        go_wp2_with (first
          | ((with_reducible refine gate_dst (N := 69) rfl ?_); refine ev_lit rfl 77 (rcL xk xq (bs xp)) 1 (by first | (go_simp; done) | (go_simp; rfl)) ?_; intro g9 w9 hg9 f9 b9; have F := F.no f9; have BR := BR.no f9; have OW := own_no OW f9)
          | ((with_reducible refine gate_dst (N := 70) rfl ?_); go_must (refine ev_append rfl _ _ 101 77 _ 3 32 rfl Try.underlying101 infoRc rfl (by omega) (by omega) w.heap.size _ N (rcsL l) rfl OW F.size ⟨g9, 0, none⟩ 1 1 (rcL xk xq (bs xp)) rfl rfl (news_blk b9) (rcL_all _ _ _) (by omega) ?_); intro A1 c1 wA OW1 fA hat; have BR := BR.keep fA (fun hh => HGB.out g (own_base OW g hh) rfl); have F := F.trans fA (fun i hi => .inr (own_base OW i hi)); have c0 := BR.at_ 0 rfl; have c1' := BR.at_ 1 rfl; have c2 := BR.at_ 2 rfl)
          | ((with_reducible refine gate_store (t := 9) (p := 74) rfl ?_); go_must (refine ev_store rfl 9 _ _ rfl g 0 _ rfl rfl rfl 124 _ BR (by simp) sizeStr ?_); intro wE fE bE; have OW1 := own_keep OW1 fE (fun k hk hh => HGB.out k (own_base OW1 k hk) hh); have F := F.one fE (.inl rfl); have c0 := bE.at_ 0 rfl; have c1' := bE.at_ 1 rfl; have c2 := bE.at_ 2 rfl)
          | ((with_reducible refine gate_store (t := 3) (p := 81) rfl ?_); go_must (refine ev_store rfl 3 _ _ rfl g 1 _ rfl rfl rfl 124 _ bE (by simp) sizeInt ?_); intro wF fF bF; have OW1 := own_keep OW1 fF (fun k hk hh => HGB.out k (own_base OW1 k hk) hh); have F := F.one fF (.inl rfl)))
        have bF : Blk wF g 124 (rdL t ((xq + 1 : Nat) : Int) 0) := bF
        go_step3
        simp only [Exit.jump, if_true]
        refine ⟨trivial, hJ t.length _ _ (by have := HSH.out; have := HM.out; omega) ⟨l ++ [⟨xk, xq, xp⟩], N + 1, xq + 1, t, A1, c1, ?_⟩⟩
        refine ex_u ⟨rfl, by rw [List.length_append, ← BN.out]; rfl, by rw [List.length_append, BT.out]; rfl, HR2.out, by have := HSH.out; have := HLS.out; omega, by rw [rcsL_snoc]; exact OW1, bF, F⟩ rfl
      · have hqz : ¬ (x.seq : Int) = (nt : Int) := by omega
        have hr := HREC.out
        rw [HR.out, recs_other hp hq, List.append_nil] at hr
        subst hr
        have BN := Kp.mk hN
        have BT := Kp.mk hnt
        clear hN hnt hv HREC HR
        go_wp2_with (first
          | (go_at_call 59; go_must (refine (CP.out _).mono ?_); rintro e w3 ⟨rfl, f3⟩; have BR := BR.no f3; have c0 := BR.at_ 0 rfl; have c1 := BR.at_ 1 rfl; have c2 := BR.at_ 2 rfl; have OW := own_no OW f3; have F := F.no f3)
          | ((with_reducible refine gate_dst (N := 7) rfl ?_); go_must (refine ev_alloc rfl 77 rfl _ (rcL 0 0 ⟨#[]⟩) zeroRc rfl ?_); intro g7 w7 hg7 f7 b7)
          | ((with_reducible refine gate_store (t := 77) (p := 7) rfl ?_); go_must (refine ev_store_row rfl 77 _ _ rfl g7 ((rcL x.kind x.seq (bs x.pay))).toArray rfl rfl 77 _ b7 sizeRc rfl (rcL_one _ _ _) ?_); intro w8 f8 b8; have b8 : Blk w8 g7 77 (rcL x.kind x.seq (bs x.pay)) := b8; have hg7' : w3.heap.size ≤ g7 := hg7; have OW := own_new OW hg7' (own_no OW f7) f8; have BR := (BR.no f7).one f8 (Nat.ne_of_lt (Nat.lt_of_lt_of_le BR.lt hg7')); have F := (F.no f7).one f8 (.inr (Nat.le_trans F.size hg7')); have c0 := BR.at_ 0 rfl; have c1 := BR.at_ 1 rfl; have c2 := BR.at_ 2 rfl; have d0 := b8.at_ 0 rfl; have d1 := b8.at_ 1 rfl; have d2 := b8.at_ 2 rfl))
        go_quiet (fail)
        have F := F.drewN nq
        have BR := BR.drewN nq
        have OW := own_no OW ((Fr.refl No w8).drewN nq)
        go_wp2_with (first
          | ((with_reducible refine gate_store (t := 27) (p := 62) rfl ?_); go_must (refine ev_store rfl 27 _ _ rfl g 2 _ rfl rfl rfl 124 _ BR (by simp) sizeErr ?_); intro wE fE bE; have OW := own_keep OW fE (fun k hk hh => HGB.out k (own_base OW k hk) hh); have F := F.one fE (.inl rfl))
          | ((with_reducible refine gate_store (t := 9) (p := 64) rfl ?_); go_must (refine ev_store rfl 9 _ _ rfl g 0 _ rfl rfl rfl 124 _ bE (by simp) sizeStr ?_); intro wF fF bF; have OW := own_keep OW fF (fun k hk hh => HGB.out k (own_base OW k hk) hh); have F := F.one fF (.inl rfl)))
        simp only [Exit.jump]
        go_ret2
        cases BN.out
        cases BT.out
        exact ⟨A, c, rfl, OW, bF, F⟩
end Go.Proofs.Ytioohhekamjljaa.Wk
