/- chunk.Put, Trunc, Get, Copy: what they answer. Conditions: sizes are bounded, as written out. -/
import Derived.Test.YtaohfmmapammcaaDoorChPlain
import Derived.Test.YtaohfmmapammcaaDoorOwn
import Derived.Test.YtaohfmmapammcaaDoorSum
set_option linter.unusedSimpArgs false
set_option linter.unusedVariables false
namespace Go.Proofs.YtaohfmmapammcaaDoor.Ch
open Go Go.RowKit Go.Proofs.YtaohfmmapammcaaDoorW.PrintWords Go.Proofs.YtaohfmmapammcaaDoor.Sha Go.Proofs.YtaohfmmapammcaaDoor.Dig Go.Proofs.YtaohfmmapammcaaDoor.Ev

theorem ext_bs (l : List UInt8) (a b : Nat) : (bs l).extract a b = bs ((l.drop a).take (b - a)) := by
  apply ByteArray.ext
  apply Array.toList_inj.1
  simp [ByteArray.data_extract, Array.toList_extract, List.extract_eq_take_drop]
theorem rep_gen (k : Int) (h0 : 0 ≤ k) (h1 : k ≤ 1099511627776) (w : World) :
    Calls Tryd.prog 36 #[.string ⟨#[0]⟩, .int .i64 k] w fun e w' => e = .returned (.string (bs (List.replicate k.toNat 0))) ∧ Below w.heap.size w w' := by
  obtain ⟨c, rfl⟩ := Int.eq_ofNat_of_zero_le h0
  have hr : ∀ c, Lib.repeatL [0] c = List.replicate c 0 := fun c => by
    induction c with
    | zero => rfl
    | succ c ih => simp [Lib.repeatL, ih, List.replicate_succ]
  have h2 : (⟨#[0]⟩ : ByteArray).size = 1 := rfl
  have := Tryd.strings_Repeat ⟨#[0]⟩ c w (by omega) (by rw [h2]; omega)
  rw [show (⟨#[0]⟩ : ByteArray).data.toList = [0] from rfl, hr] at this
  exact this
set_option maxHeartbeats 1000000 in
theorem noughts_any (n : Int) (h1 : n ≤ 1099511627776) (w : World) :
    Calls Tryd.prog 29 #[.int .i64 n] w fun e w' => e = .returned (.string (bs (zerosL n))) ∧ Fr No w w' := by
  have h2 : 0 ≤ max n 0 := by omega
  have h3 : max n 0 ≤ 1099511627776 := by omega
  go_enter Tryd.func29, Tryd.ntmps29
  go_wp2_with (go_at_call 36; refine (rep_gen _ h2 h3 _).mono ?_; rintro e w2 ⟨rfl, hb⟩)
  go_ret
  exact ⟨by rw [show (max n 0).toNat = n.toNat by omega]; rfl, Fr.of_below hb⟩

theorem drop_min (F : List UInt8) (x : Nat) (m : Nat) (hm : m = min F.length x) : F.drop m = F.drop x := by
  subst hm
  rcases Nat.le_total F.length x with h | h
  · rw [Nat.min_eq_left h, List.drop_of_length_le (Nat.le_refl _), List.drop_of_length_le h]
  · rw [Nat.min_eq_right h]
theorem put_fin (F d : List UInt8) (o : Nat) : (bs F).extract 0 o ++ bs d ++ (bs F).extract (min (F.length : Int) ((o : Int) + (d.length : Int))).toNat F.length = bs (F.take o ++ d ++ F.drop (o + d.length)) := by
  have e1 : (bs F).extract 0 o = bs (F.take o) := by rw [ext_bs, List.drop_zero, Nat.sub_zero]
  have e2 : (bs F).extract (min (F.length : Int) ((o : Int) + (d.length : Int))).toNat F.length = bs (F.drop (o + d.length)) := by
    rw [ext_bs, drop_min F (o + d.length) _ (by omega), List.take_of_length_le (by rw [List.length_drop]; omega)]
  rw [e1, e2, bs_append, bs_append]
theorem get_fin (s : List UInt8) (off n : Int) (h0 : 0 ≤ off) (h1 : 0 ≤ n) :
    ((bs s).extract (min off (s.length : Int)).toNat s.length).extract 0 (min n ((s.length - (min off (s.length : Int)).toNat : Nat) : Int)).toNat = bs ((s.drop off.toNat).take n.toNat) := by
  have e1 : (bs s).extract (min off (s.length : Int)).toNat s.length = bs (s.drop off.toNat) := by
    rw [ext_bs, drop_min s off.toNat _ (by omega), List.take_of_length_le (by rw [List.length_drop]; omega)]
  rw [e1, ext_bs, List.drop_zero, Nat.sub_zero]
  have e2 : (s.drop off.toNat).take (min n ((s.length - (min off (s.length : Int)).toNat : Nat) : Int)).toNat = (s.drop off.toNat).take n.toNat := by
    rcases Nat.le_total n.toNat (s.drop off.toNat).length with h | h
    · rw [List.length_drop] at h
      rw [show (min n ((s.length - (min off (s.length : Int)).toNat : Nat) : Int)).toNat = n.toNat by omega]
    · rw [List.take_of_length_le h, List.take_of_length_le]
      rw [List.length_drop] at h ⊢
      omega
  rw [e2]

set_option maxHeartbeats 4000000 in
theorem put_any (s : List UInt8) (off : Int) (d : List UInt8) (hs : s.length ≤ 4294967296) (hd : d.length ≤ 4294967296) (w : World) :
    Calls Tryd.prog 9 #[.string (bs s), .int .i64 off, .string (bs d)] w fun e w' => e = .returned (.tuple #[.string (bs (putL s off d).1), .int .i64 (putL s off d).2]) ∧ Fr No w w' := by
  have hsz : (bs s).size = s.length := bs_size s
  have hdz : (bs d).size = d.length := bs_size d
  by_cases h1 : off < 0
  · have hp : putL s off d = ([], 1) := by unfold putL; rw [if_pos h1]
    rw [hp]
    clear hp
    go_enter Tryd.func9, Tryd.ntmps9
    go_wp2_with fail
    go_ret2
    exact ⟨rfl, Fr.refl _ _⟩
  by_cases h2 : 4096 < off
  · have hp : putL s off d = ([], 3) := by unfold putL; rw [if_neg h1, if_pos h2]
    rw [hp]
    clear hp
    go_enter Tryd.func9, Tryd.ntmps9
    go_wp2_with fail
    go_ret2
    exact ⟨rfl, Fr.refl _ _⟩
  have h2' : off ≤ 4096 := by omega
  have h1' : 0 ≤ off := by omega
  by_cases h3 : 4096 - off < (d.length : Int)
  · have hp : putL s off d = ([], 3) := by unfold putL; rw [if_neg h1, if_neg h2, if_pos h3]
    rw [hp]
    clear hp
    go_enter Tryd.func9, Tryd.ntmps9
    go_wp2_with fail
    go_ret2
    exact ⟨rfl, Fr.refl _ _⟩
  have h3' : (d.length : Int) ≤ 4096 - off := by omega
  by_cases h4 : d = []
  · have hp : putL s off d = (s, 0) := by unfold putL; rw [if_neg h1, if_neg h2, if_neg h3, if_pos h4]
    rw [hp]
    subst h4
    clear hp
    go_enter Tryd.func9, Tryd.ntmps9
    go_wp2_with fail
    go_ret2
    exact ⟨rfl, Fr.refl _ _⟩
  · have hp : putL s off d = ((fullL s off).take off.toNat ++ d ++ (fullL s off).drop (off.toNat + d.length), 0) := by unfold putL; rw [if_neg h1, if_neg h2, if_neg h3, if_neg h4]
    rw [hp]
    have h4' : d.isEmpty = false := by cases d with | nil => exact absurd rfl h4 | cons _ _ => rfl
    obtain ⟨o, rfl⟩ := Int.eq_ofNat_of_zero_le h1'
    have hfl := fullL_len s (o : Int)
    have hap : bs s ++ bs (zerosL ((o : Int) - (s.length : Int))) = bs (fullL s (o : Int)) := bs_append _ _
    generalize fullL s (o : Int) = F at hap hfl ⊢
    have hF : F.length ≤ 4294971392 := by omega
    have hzl : (zerosL ((o : Int) - (s.length : Int))).length ≤ 4096 := by rw [zerosL_len]; omega
    have hoF : o ≤ F.length := by omega
    clear hp hfl h1 h2 h3
    go_enter Tryd.func9, Tryd.ntmps9
    go_wp2_with (go_at_call 29; refine (noughts_any _ (by omega) _).mono ?_; rintro e w2 ⟨rfl, f2⟩)
    go_ret2
    refine ⟨?_, f2⟩
    rw [put_fin]
    rfl

set_option maxHeartbeats 4000000 in
theorem trunc_any (s : List UInt8) (size : Int) (hs : s.length ≤ 4294967296) (w : World) :
    Calls Tryd.prog 11 #[.string (bs s), .int .i64 size] w fun e w' => e = .returned (.tuple #[.string (bs (truncL s size).1), .int .i64 (truncL s size).2]) ∧ Fr No w w' := by
  have hsz : (bs s).size = s.length := bs_size s
  by_cases h1 : size < 0
  · have hp : truncL s size = ([], 1) := by unfold truncL; rw [if_pos h1]
    rw [hp]
    clear hp
    go_enter Tryd.func11, Tryd.ntmps11
    go_wp2_with fail
    go_ret2
    exact ⟨rfl, Fr.refl _ _⟩
  by_cases h2 : 4096 < size
  · have hp : truncL s size = ([], 3) := by unfold truncL; rw [if_neg h1, if_pos h2]
    rw [hp]
    clear hp
    go_enter Tryd.func11, Tryd.ntmps11
    go_wp2_with fail
    go_ret2
    exact ⟨rfl, Fr.refl _ _⟩
  · have hp : truncL s size = ((fullL s size).take size.toNat, 0) := by unfold truncL; rw [if_neg h1, if_neg h2]
    rw [hp]
    have h2' : size ≤ 4096 := by omega
    have h1' : 0 ≤ size := by omega
    obtain ⟨o, rfl⟩ := Int.eq_ofNat_of_zero_le h1'
    have hfl := fullL_len s (o : Int)
    have hap : bs s ++ bs (zerosL ((o : Int) - (s.length : Int))) = bs (fullL s (o : Int)) := bs_append _ _
    generalize fullL s (o : Int) = F at hap hfl ⊢
    have hF : F.length ≤ 4294971392 := by omega
    have hzl : (zerosL ((o : Int) - (s.length : Int))).length ≤ 4096 := by rw [zerosL_len]; omega
    have hoF : o ≤ F.length := by omega
    clear hp hfl h1 h2
    go_enter Tryd.func11, Tryd.ntmps11
    go_wp2_with (go_at_call 29; refine (noughts_any _ (by omega) _).mono ?_; rintro e w2 ⟨rfl, f2⟩)
    go_ret2
    refine ⟨?_, f2⟩
    rw [ext_bs, List.drop_zero, Nat.sub_zero]
    rfl

set_option maxHeartbeats 4000000 in
theorem get_any (s : List UInt8) (off n : Int) (hs : s.length ≤ 4294967296) (hb : off ≤ 9223372036854775807) (hn : n ≤ 9223372036854775807) (w : World) :
    Calls Tryd.prog 13 #[.string (bs s), .int .i64 off, .int .i64 n] w fun e w' => e = .returned (.tuple #[.string (bs (getL s off n).1), .int .i64 (getL s off n).2]) ∧ Fr No w w' := by
  have hsz : (bs s).size = s.length := bs_size s
  by_cases h1 : off < 0
  · have hp : getL s off n = ([], 1) := by unfold getL; rw [if_pos h1]
    rw [hp]
    clear hp hb hn
    go_enter Tryd.func13, Tryd.ntmps13
    go_wp2_with fail
    go_ret2
    exact ⟨rfl, Fr.refl _ _⟩
  by_cases h2 : n < 0
  · have hp : getL s off n = ([], 1) := by unfold getL; rw [if_neg h1, if_pos h2]
    rw [hp]
    have h1' : 0 ≤ off := by omega
    clear hp hb hn h1
    go_enter Tryd.func13, Tryd.ntmps13
    go_wp2_with fail
    go_ret2
    exact ⟨rfl, Fr.refl _ _⟩
  · have hp : getL s off n = ((s.drop off.toNat).take n.toNat, 0) := by unfold getL; rw [if_neg h1, if_neg h2]
    rw [hp]
    have h2' : 0 ≤ n := by omega
    have h1' : 0 ≤ off := by omega
    have m1 : 0 ≤ min off (s.length : Int) := by omega
    have m2 : min off (s.length : Int) ≤ (s.length : Int) := by omega
    have m3 : (s.length : Int) ≤ 4294967296 := by omega
    clear hp h1 h2 hb hn
    go_enter Tryd.func13, Tryd.ntmps13
    go_wp2_with fail
    go_ret2
    exact ⟨by rw [get_fin s off n h1' h2']; rfl, Fr.refl _ _⟩

set_option maxHeartbeats 4000000 in
set_option maxRecDepth 100000 in
theorem copy_chunk_any (s : List UInt8) (off : Int) (src : List UInt8) (fr n : Int) (hs : s.length ≤ 4294967296) (hd : src.length ≤ 4294967296) (hb : fr ≤ 9223372036854775807) (hn : n ≤ 9223372036854775807) (w : World) :
    Calls Tryd.prog 15 #[.string (bs s), .int .i64 off, .string (bs src), .int .i64 fr, .int .i64 n] w fun e w' => e = .returned (.tuple #[.string (bs (copyL s off src fr n).1), .int .i64 (copyL s off src fr n).2]) ∧ Fr No w w' := by
  have hsz : (bs s).size = s.length := bs_size s
  have hdz : (bs src).size = src.length := bs_size src
  have bad : copyL s off src fr n = ([], 1) → (fr < 0 ∨ n < 0 ∨ (src.length : Int) < fr ∨ (0 ≤ fr ∧ fr ≤ (src.length : Int) ∧ (src.length : Int) - fr < n)) → Calls Tryd.prog 15 #[.string (bs s), .int .i64 off, .string (bs src), .int .i64 fr, .int .i64 n] w fun e w' => e = .returned (.tuple #[.string (bs (copyL s off src fr n).1), .int .i64 (copyL s off src fr n).2]) ∧ Fr No w w' := by
    intro hp hc
    rw [hp]
    clear hp
    by_cases c1 : fr < 0
    · clear hb hn hc
      go_enter Tryd.func15, Tryd.ntmps15
      go_wp2_with fail
      go_ret2
      exact ⟨rfl, Fr.refl _ _⟩
    have c1' : 0 ≤ fr := by omega
    by_cases c2 : n < 0
    · clear hb hn c1 hc
      go_enter Tryd.func15, Tryd.ntmps15
      go_wp2_with fail
      go_ret2
      exact ⟨rfl, Fr.refl _ _⟩
    have c2' : 0 ≤ n := by omega
    by_cases c3 : (src.length : Int) < fr
    · clear hb hn c1 c2 hc
      go_enter Tryd.func15, Tryd.ntmps15
      go_wp2_with fail
      go_ret2
      exact ⟨rfl, Fr.refl _ _⟩
    have c3' : fr ≤ (src.length : Int) := by omega
    have c4 : (src.length : Int) - fr < n := by omega
    clear hb hn c1 c2 c3 hc
    go_enter Tryd.func15, Tryd.ntmps15
    go_wp2_with fail
    go_ret2
    exact ⟨rfl, Fr.refl _ _⟩
  by_cases c1 : fr < 0
  · exact bad (by unfold copyL; rw [if_pos c1]) (.inl c1)
  by_cases c2 : n < 0
  · exact bad (by unfold copyL; rw [if_neg c1, if_pos c2]) (.inr (.inl c2))
  by_cases c3 : (src.length : Int) < fr
  · exact bad (by unfold copyL; rw [if_neg c1, if_neg c2, if_pos c3]) (.inr (.inr (.inl c3)))
  by_cases c4 : (src.length : Int) - fr < n
  · exact bad (by unfold copyL; rw [if_neg c1, if_neg c2, if_neg c3, if_pos c4]) (.inr (.inr (.inr ⟨by omega, by omega, c4⟩)))
  have hp : copyL s off src fr n = putL s off ((src.drop fr.toNat).take n.toNat) := by unfold copyL; rw [if_neg c1, if_neg c2, if_neg c3, if_neg c4]
  rw [hp]
  obtain ⟨f, rfl⟩ := Int.eq_ofNat_of_zero_le (by omega : 0 ≤ fr)
  obtain ⟨m, rfl⟩ := Int.eq_ofNat_of_zero_le (by omega : 0 ≤ n)
  have hfm : f + m ≤ src.length := by omega
  have c3' : (f : Int) ≤ (src.length : Int) := by omega
  have c4' : (m : Int) ≤ (src.length : Int) - (f : Int) := by omega
  have c5 : (f : Int) ≤ (f : Int) + (m : Int) := by omega
  have c6 : (f : Int) + (m : Int) ≤ (src.length : Int) := by omega
  have c7 : (0 : Int) ≤ (f : Int) + (m : Int) := by omega
  have hD : (src.drop f).take m = (src.drop (Int.toNat (f : Int))).take (Int.toNat (m : Int)) := rfl
  rw [← hD]
  have he : (bs src).extract f (f + m) = bs ((src.drop f).take m) := by rw [ext_bs, Nat.add_sub_cancel_left]
  have CP := Kp.mk (put_any s off ((src.drop f).take m) hs (by simp; omega))
  generalize putL s off ((src.drop f).take m) = R at CP ⊢
  generalize (src.drop f).take m = D at CP he
  clear hp bad hD c1 c2 c3 c4 hb hn
  go_enter Tryd.func15, Tryd.ntmps15
  go_wp2_with (go_at_call 9; refine (CP.out _).mono ?_; rintro e w2 ⟨rfl, f2⟩)
  go_ret2
  exact ⟨rfl, f2⟩
end Go.Proofs.YtaohfmmapammcaaDoor.Ch
