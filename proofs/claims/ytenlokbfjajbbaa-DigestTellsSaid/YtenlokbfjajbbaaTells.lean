/- The law DigestTells' own function: it returns true. No conditions but the input's sizes. -/
import Derived.Test.YtenlokbfjajbbaaEmp
set_option linter.unusedSimpArgs false
set_option linter.unusedVariables false
namespace Go.Proofs.Ytenlokbfjajbbaa.RefSum
open Go Go.RowKit Go.Proofs.Ytenlokbfjajbbaa.Sha Go.Proofs.YtenlokbfjajbbaaW.PrintWords Go.Proofs.YtenlokbfjajbbaaW.PrintLast Go.Proofs.Ytenlokbfjajbbaa.PDigestTells Go.Proofs.Ytenlokbfjajbbaa.Reg Go.Proofs.Ytenlokbfjajbbaa.Ev Go.Proofs.Ytenlokbfjajbbaa.Press Go.Proofs.Ytenlokbfjajbbaa.Dig

theorem Strs.keep {w w' : World} {A : Option Addr} {xs : List ByteArray} (h : Strs w A xs) (f : Fr No w w') : Strs w' A xs := by
  have hA := (Kd.reads_of_C (d := ByteArray.empty) h)
  refine Kd.C_of_reads (d := ByteArray.empty) ⟨hA.1, hA.2.1, fun hh => ?_⟩
  obtain ⟨ad, e, hc⟩ := hA.2.2 hh
  exact ⟨ad, e, fun j hj => Fr.cell (hc j hj) f (fun hh => hh)⟩
theorem nil_strs' (w : World) (A : Option Addr) : Strs w A [] :=
  Kd.C_of_reads (d := ByteArray.empty) ⟨rfl, by decide, fun hh => absurd hh (by simp)⟩

set_option maxHeartbeats 2000000 in
set_option maxRecDepth 100000 in
theorem tells_any (tag : UInt8) (A : Option Addr) (c : Nat) (xs : List ByteArray) (w : World) (h : Strs w A xs) (hc : xs.length ≤ c) (hm : xs.length ≤ 4611686018427387904) (hx : ∀ x ∈ xs, x.size ≤ 4611686018427387904) :
    Calls Try.prog 3 #[.slice A xs.length c, .int .u8 tag.toNat] w fun e w' => e = .returned (.bool true) ∧ Below w.heap.size w w' := by
  obtain ⟨b, hb, hf⟩ := few_any A c xs w h hc hm hx
  have HF := Kp.mk hf
  have HB := Kp.mk hb
  have HS := Kp.mk h
  have ht : tag.toNat < 256 := tag.toNat_lt
  clear hf hb h hx
  cases b with
  | false =>
    go_enter Try.func3, Try.ntmps3
    go_wp2_with (first | (go_at_call 11; refine (awake_any _).mono ?_; rintro e w1 ⟨rfl, hb1⟩) | (go_at_call 12; refine (HF.out _ (Strs.keep HS.out (Fr.of_below hb1))).mono ?_; rintro e w2 ⟨rfl, n2, rfl⟩))
    go_ret
    exact ⟨rfl, ((Fr.of_below hb1).drewN n2).below⟩
  | true =>
    have hfew := HB.out rfl
    have hl1 := hfew.1
    have hl2 := hfew.2
    clear hfew HB
    go_enter Try.func3, Try.ntmps3
    go_upto_region 5 with (first | (go_at_call 11; refine (awake_any _).mono ?_; rintro e w1 ⟨rfl, hb1⟩) | (go_at_call 12; refine (HF.out _ (Strs.keep HS.out (Fr.of_below hb1))).mono ?_; rintro e w2 ⟨rfl, n2, rfl⟩))
    have hsl : Kp ((bs (sumL (cat xs))).size = 32) := ⟨by rw [bs_size, sumL_len]⟩
    by_cases h0 : xs = []
    · subst h0
      simp only [List.length_nil]
      go_upto_region 6 with (first | ((with_reducible refine gate_dst (N := 12) rfl ?_); refine ev_lit rfl 9 [] 0 (by first | (go_simp; done) | (go_simp; rfl)) ?_; intro g3 w3 hg3 f3 b3) | ((with_reducible refine gate_dst (N := 14) rfl ?_); refine run_value rfl (run_append_empty _ _ _ g3 c A rfl rfl rfl) ?_))
      have FF : Kp (Fr No w w3) := ⟨((Fr.of_below hb1).drewN n2).no f3⟩
      obtain ⟨L, hL⟩ : ∃ L, L = cat ([] : List ByteArray) := ⟨_, rfl⟩
      clear f3 b3 hb1
      go_wp2_with (first
      | (go_at_call 13; refine (sum_any (some ⟨g3, 0, none⟩) 0 [] _ (Strs.keep (Kp.mk (nil_strs' w3 (some ⟨g3, 0, none⟩))).out (Fr.refl No _)) (Nat.le_refl _) (by decide) (by decide)).mono ?_; rintro e w6 ⟨rfl, hb6⟩)
      | (go_at_call 14; refine (rsum_any A c [] _ (Strs.keep HS.out (FF.out.no (Fr.of_below hb6))) (Nat.zero_le _) (by decide) (by decide)).mono ?_; rintro e w7 ⟨rfl, hb7⟩)
      | (go_at_call 15; refine (dJoin_any tag (some ⟨g3, 0, none⟩) 0 [] _ (Strs.keep (Kp.mk (nil_strs' w3 (some ⟨g3, 0, none⟩))).out ((Fr.of_below hb6).no (Fr.of_below hb7))) (Nat.le_refl _) (by decide) (by decide)).mono ?_; rintro e w8 ⟨rfl, hb8⟩)
      | (go_at_call 16; refine (rJoin_any tag A c [] _ (Strs.keep HS.out (((FF.out.no (Fr.of_below hb6)).no (Fr.of_below hb7)).no (Fr.of_below hb8))) (Nat.zero_le _) (by decide) (by decide)).mono ?_; rintro e w9 ⟨rfl, hb9⟩)
      | (go_at_call 17; refine (digits_any (sumL (cat [])) _ (by rw [sumL_len]; decide)).mono ?_; rintro e w10 ⟨rfl, hb10⟩)
      | (go_at_call 18; refine (rdigits_any (sumL (cat [])) _ (by rw [sumL_len]; decide)).mono ?_; rintro e w11 ⟨rfl, hb11⟩))
      go_ret
      exact ⟨by simp [sumL_len], ((((((FF.out.no (Fr.of_below hb6)).no (Fr.of_below hb7)).no (Fr.of_below hb8)).no (Fr.of_below hb9)).no (Fr.of_below hb10)).no (Fr.of_below hb11)).below⟩
    · have hpos : 0 < xs.length := List.length_pos_iff.2 h0
      obtain ⟨b, o, rfl, hb, hcell⟩ := strs_cells HS.out hpos
      have HC := Kp.mk hcell
      clear hcell h0
      go_upto_region 6 with (first | ((with_reducible refine gate_dst (N := 12) rfl ?_); refine ev_lit rfl 9 [] 0 (by first | (go_simp; done) | (go_simp; rfl)) ?_; intro g3 w3 hg3 f3 b3) | ((with_reducible refine gate_dst (N := 14) rfl ?_); refine ev_append rfl (.tmp 12) (.tmp 13) 22 9 (.string ⟨#[]⟩) 1 16 rfl Try.underlying22 info9 rfl (by decide) (by decide) w.heap.size _ 0 [] rfl (Blk.owns b3 rfl (by simp [maxLen]) (by have := hb1.size; simp at hg3; omega)) (by have := hb1.size; have := f3.size; simp at this; omega) ⟨b, o, none⟩ xs.length c (xs.map .string) rfl (by simp) ?_ (by simp [Value.oneCell']) (by omega) ?_))
      · intro j u hu
        rw [Addr.add_lit]
        obtain ⟨x, hxj, rfl⟩ : ∃ x, xs[j]? = some x ∧ .string x = u := by simpa using hu
        exact Fr.cell (HC.out j x hxj) (((Fr.of_below hb1).drewN n2).no f3) (fun hh => hh)
      intro A5 c5 w5 o5 f5 hat5
      obtain ⟨A6, c6, hv, hc5, hS5⟩ := own_strs (xs := xs) (by simpa using o5) rfl
      injection hv with hv1 hv2 hv3
      subst hv1 hv3
      have S5 := Kp.mk hS5
      have FF : Kp (Fr No w w5) := ⟨(((Fr.of_below hb1).drewN n2).no f3).trans f5 (fun k hk => by
        have hk' : g3 = k := by simpa [Own, Value.ownBlock] using hk
        subst hk'
        have := hb1.size
        simp at hg3
        exact .inr (by omega))⟩
      clear f3 b3 hb1 f5 o5 hat5 hS5 HC
      go_wp2_with (first
      | (go_at_call 13; refine (sum_any A5 c5 xs _ (Strs.keep S5.out (Fr.refl No _)) hc5 (by omega) (by omega)).mono ?_; rintro e w6 ⟨rfl, hb6⟩)
      | (go_at_call 14; refine (rsum_any (some ⟨b, o, none⟩) c xs _ (Strs.keep HS.out (FF.out.no (Fr.of_below hb6))) hc (by omega) (by omega)).mono ?_; rintro e w7 ⟨rfl, hb7⟩)
      | (go_at_call 15; refine (dJoin_any tag A5 c5 xs _ (Strs.keep S5.out ((Fr.of_below hb6).no (Fr.of_below hb7))) hc5 (by omega) (by omega)).mono ?_; rintro e w8 ⟨rfl, hb8⟩)
      | (go_at_call 16; refine (rJoin_any tag (some ⟨b, o, none⟩) c xs _ (Strs.keep HS.out (((FF.out.no (Fr.of_below hb6)).no (Fr.of_below hb7)).no (Fr.of_below hb8))) hc (by omega) (by omega)).mono ?_; rintro e w9 ⟨rfl, hb9⟩)
      | (go_at_call 17; refine (digits_any (sumL (cat xs)) _ (by rw [sumL_len]; decide)).mono ?_; rintro e w10 ⟨rfl, hb10⟩)
      | (go_at_call 18; refine (rdigits_any (sumL (cat xs)) _ (by rw [sumL_len]; decide)).mono ?_; rintro e w11 ⟨rfl, hb11⟩))
      go_ret
      exact ⟨by simp [sumL_len], ((((((FF.out.no (Fr.of_below hb6)).no (Fr.of_below hb7)).no (Fr.of_below hb8)).no (Fr.of_below hb9)).no (Fr.of_below hb10)).no (Fr.of_below hb11)).below⟩
end Go.Proofs.Ytenlokbfjajbbaa.RefSum
