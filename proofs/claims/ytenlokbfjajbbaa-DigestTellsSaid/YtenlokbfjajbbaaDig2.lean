/- digest.Join and digest.Digits. Conditions: the texts' lengths are bounded, as written out. -/
import Derived.Test.YtenlokbfjajbbaaSum
import Derived.Test.YtenlokbfjajbbaaOwn
set_option linter.unusedSimpArgs false
set_option linter.unusedVariables false
namespace Go.Proofs.Ytenlokbfjajbbaa.Dig
open Go Go.RowKit Go.Proofs.Ytenlokbfjajbbaa.Sha Go.Proofs.YtenlokbfjajbbaaW.PrintWords Go.Proofs.YtenlokbfjajbbaaW.PrintLast Go.Proofs.Ytenlokbfjajbbaa.PDigestTells Go.Proofs.Ytenlokbfjajbbaa.Reg Go.Proofs.Ytenlokbfjajbbaa.Ev Go.Proofs.Ytenlokbfjajbbaa.Press

/-- What a branch's name is the name of: tag, and each text behind its length. -/
def joinX (tag : UInt8) (xs : List ByteArray) : List ByteArray := bs [tag] :: xs.flatMap fun x => [bs (numB 4 x.size), x]
theorem joinX_snoc (tag : UInt8) (xs : List ByteArray) (x : ByteArray) : joinX tag (xs ++ [x]) = joinX tag xs ++ [bs (numB 4 x.size), x] := by simp [joinX]
theorem cat_append (a b : List ByteArray) : cat (a ++ b) = cat a ++ cat b := by simp [cat]
theorem joinX_len (tag : UInt8) (xs : List ByteArray) : (joinX tag xs).length = 1 + 2 * xs.length := by
  induction xs with
  | nil => rfl
  | cons x xs ih => simp [joinX] at ih ⊢; omega
theorem joinX_cat (tag : UInt8) (xs : List ByteArray) : (cat (joinX tag xs)).length = 1 + 4 * xs.length + (cat xs).length := by
  induction xs with
  | nil => rfl
  | cons x xs ih =>
    simp [joinX, cat, numB_len] at ih ⊢
    omega

theorem cat_mem (xs : List ByteArray) (i : Nat) (x : ByteArray) (h : xs[i]? = some x) : x.size ≤ (cat xs).length := by
  induction xs generalizing i with
  | nil => simp at h
  | cons y ys ih =>
    have he : (cat (y :: ys)).length = y.size + (cat ys).length := by simp [cat, data_size]
    cases i with
    | zero =>
      have : y = x := by simpa using h
      subst this
      omega
    | succ i =>
      have := ih i (by simpa using h)
      omega

theorem info9 : (Try.prog.info? 9).map (fun i => (i.zero, i.size, i.bytes)) = some (some (.string ⟨#[]⟩), 1, 16) := by kernel_rfl

set_option maxHeartbeats 4000000 in
set_option maxRecDepth 100000 in
theorem dJoin_any (tag : UInt8) (A : Option Addr) (c : Nat) (xs : List ByteArray) (w : World) (h : Strs w A xs) (hc : xs.length ≤ c) (hl : (cat xs).length ≤ 4294967296) (hn : xs.length ≤ 4294967296) :
    Calls Try.prog 15 #[.int .u8 tag.toNat, .slice A xs.length c] w fun e w' => e = .returned (.string (bs (sumL (cat (joinX tag xs))))) ∧ Below w.heap.size w w' := by
  have HS := Kp.mk h
  have hl' := Kp.mk hl
  have ht : tag.toNat < 256 := tag.toNat_lt
  clear h hl
  have hone : Kp (Lib.byteCells [tag] = [.int .u8 tag.toNat]) := ⟨rfl⟩
  go_enter Try.func15, Try.ntmps15
  go_wp2_with (first | ((with_reducible refine gate_dst (N := 9) rfl ?_); refine ev_lit rfl 5 [.int .u8 tag.toNat] 1 (by first | (go_simp; done) | (go_simp; rfl)) ?_; intro g9 w1 hg9 f1 b9) | ((with_reducible refine gate_dst (N := 10) rfl ?_); refine ev_str rfl 43 9 5 (.tmp 9) rfl Try.underlying43 Try.underlying5 Try.underlying9 0 _ 1 5 [tag] rfl (Blk.owns b9 rfl (by simp [maxLen]) (Nat.zero_le _)) ?_) | ((with_reducible refine gate_dst (N := 11) rfl ?_); refine ev_lit rfl 9 [.string (bs [tag])] 1 (by first | (go_simp; done) | (go_simp; rfl)) ?_; intro g11 w2 hg11 f2 b11))
  have F : Kp (Fr No w w2) := ⟨f1.no f2⟩
  have O : Kp (w2.ownsRow w.heap.size 9 1 (.slice (some ⟨g11, 0, none⟩) 1 1) (joinX tag []).length ((joinX tag []).map .string)) := ⟨Blk.owns b11 rfl (by simp [maxLen]) (by have := f1.size; omega)⟩
  clear f1 f2 b9 b11 hg9 hg11
  go_loopg [5, 14] xs.length (fun kq v5 v14 wr => ∃ i : Nat, i + kq = xs.length ∧ v14 = .int .i64 i ∧ Kp (Fr No w wr) ∧ Kp (wr.ownsRow w.heap.size 9 1 v5 (joinX tag (xs.take i)).length ((joinX tag (xs.take i)).map .string)))
  case atStart => exact ⟨0, by omega, rfl, F, O⟩
  case round =>
    clear F O
    obtain ⟨i, hi, rfl, F, O⟩ := hrel
    by_cases hix : i < xs.length
    · obtain ⟨b, o, rfl, hb, hcell⟩ := strs_cells HS.out (by omega)
      obtain ⟨x, hx⟩ : ∃ x, xs[i]? = some x := ⟨_, List.getElem?_eq_getElem hix⟩
      have cx := Fr.cell (hcell i x hx) F.out (fun h => h)
      have hxl : x.size ≤ 4294967296 := Nat.le_trans (cat_mem xs i x hx) hl'.out
      have hjl : Kp ((joinX tag (xs.take i)).length ≤ 1 + 2 * 4294967296) := ⟨by rw [joinX_len, List.length_take]; omega⟩
      have hsn : Kp (joinX tag (xs.take (i + 1)) = joinX tag (xs.take i) ++ [bs (numB 4 x.size), x]) := ⟨by rw [← joinX_snoc, List.take_add_one, hx]; rfl⟩
      have HI := Kp.mk hi
      clear hi hx hcell
      go_wp2_with (first | (go_at_call 53; refine (num_int _ _ (by decide) (by decide) _).mono ?_; rintro e w3 ⟨rfl, hb3⟩) | ((with_reducible refine gate_dst (N := 23) rfl ?_); refine ev_lit rfl 9 [.string (bs (numB 4 x.size)), .string x] 2 (by first | (go_simp; done) | (go_simp; rfl)) ?_; intro g11 w4 hg11 f4 b11) | ((with_reducible refine gate_dst (N := 24) rfl ?_); refine ev_append rfl (.tmp 18) (.tmp 23) 22 9 (.string ⟨#[]⟩) 1 16 rfl Try.underlying22 info9 rfl (by decide) (by decide) w.heap.size u5 _ _ rfl (own_no (own_no O.out (Fr.of_below hb3)) f4) (by have := F.out.size; have := hb3.size; have := f4.size; omega) ⟨g11, 0, none⟩ 2 2 _ rfl rfl (news_blk b11) (by simp [Value.oneCell']) (by have := hjl.out; omega) ?_; intro A5 c5 w5 O' f5 hat))
      go_roundg (gk - 1)
      case measure => have := HI.out; omega
      case rel => exact ⟨i + 1, by have := HI.out; omega, by go_num, ⟨((F.out.no (Fr.of_below hb3)).no f4).trans f5 (fun k hk => .inr (own_new_base O.out k hk))⟩, ⟨by rw [hsn.out]; simpa using O'⟩⟩
    · obtain rfl : i = xs.length := by omega
      rw [List.take_length] at O
      obtain ⟨A', c', rfl, hc', hS'⟩ := own_strs O.out rfl
      have HS' := Kp.mk hS'
      have hjc := joinX_cat tag xs
      have hjl := joinX_len tag xs
      have hl := hl'.out
      have hb1 : (cat (joinX tag xs)).length ≤ 1099511627776 := by omega
      have hb2 : (joinX tag xs).length ≤ 1099511627776 := by omega
      clear hS' O hjc hjl hl hi hix
      go_wp2_with (go_at_call 13; refine (sum_any A' c' (joinX tag xs) _ HS'.out hc' hb1 hb2).mono ?_; rintro e w3 ⟨rfl, hb3⟩)
      go_ret
      exact ⟨rfl, (F.out.no (Fr.of_below hb3)).below⟩
end Go.Proofs.Ytenlokbfjajbbaa.Dig
