/- The reference's Join. Conditions: the texts' lengths are bounded. -/
import Derived.Test.YtenlokbfjajbbaaRefSum
import Derived.Deep.RegionHeld3
import Derived.Deep.AppendLies
set_option linter.unusedSimpArgs false
set_option linter.unusedVariables false
namespace Go.Proofs.Ytenlokbfjajbbaa.RefSum
open Go Go.RowKit Go.Proofs.Ytenlokbfjajbbaa.Sha Go.Proofs.YtenlokbfjajbbaaW.PrintWords Go.Proofs.YtenlokbfjajbbaaW.PrintLast Go.Proofs.Ytenlokbfjajbbaa.PDigestTells Go.Proofs.Ytenlokbfjajbbaa.Reg Go.Proofs.Ytenlokbfjajbbaa.Ev Go.Proofs.Ytenlokbfjajbbaa.Press Go.Proofs.Ytenlokbfjajbbaa.Dig

theorem step_app9 {ops : Array Oper} {o : Oper} {a : Act} {K : Act → World → Prop} {Q : Exit → Act → World → Prop} {E : Prop} {W : World} (base n : Nat) (xs : List Value) (v y : Value) (g : Nat) (hgd : o.guard = none) (s x : Operand)
    (ho : o.op = .call { callee := .builtin .append, args := #[s, x], argTypes := #[22, 22] }) (hs : a.eval s = v) (hx : a.eval x = .slice (some ⟨g, 0, none⟩) 1 1)
    (hown : W.ownsRow base 9 1 v n xs) (hc : W.cell? ⟨g, 0, none⟩ = some y) (h1 : y.oneCell' = true) (hn : n + 1 ≤ 8796093022208) (hbase : base ≤ W.heap.size)
    (h : ∀ g' cap w', w'.ownsRow base 9 1 (.slice (some ⟨g', 0, none⟩) (n + 1) cap) (n + 1) (xs ++ [y]) → Fr (Own v) W w' → (v.ownBlock = some g' ∨ g' = W.heap.size) → K (a.put o.dst (.slice (some ⟨g', 0, none⟩) (n + 1) cap)) w') :
    if Region.wanted o (yielded ops a.tmps) = true then Oper.wp Try.prog o a W K Q else E := by
  obtain ⟨i0, hi0, hz0, hz1, hz2⟩ := info_parts info9
  refine step_append_lies W hgd s x 22 ho base 9 i0 (.string ⟨#[]⟩) 1 16 Try.underlying22 hi0 hz0 hz1 hz2 rfl (by decide) v n xs hs hown ⟨g, 0, none⟩ 1 1 [y] hx rfl ?_ (by simpa using h1) (by decide) (by simp only [maxLen]; omega) (by omega) hbase _ rfl ?_
  · intro j u hu
    match j with
    | 0 =>
      have : y = u := by simpa using hu
      subst this
      rw [Addr.add_lit]
      exact hc
    | j + 1 => simp at hu
  · intro g' cap w' h1 h2 h3 _
    exact h g' cap w' h1 (Fr.of_grown h2) h3

theorem new2 (w : World) (o : Obj) (v : Value) : ((w.alloc o).alloc (.cells [v].toArray 9 (0, 0))).cell? ⟨w.heap.size + 1, 0, none⟩ = some v := by
  have := (Blk.new (w.alloc o) 9 [v]).at_ 0 rfl
  rw [show (w.alloc o).heap.size = w.heap.size + 1 by simp] at this
  exact this

theorem new3 (w : World) (v : Value) : (w.alloc (.cells [v].toArray 9 (0, 0))).drew.cell? ⟨w.heap.size, 0, none⟩ = some v := (Blk.new w 9 [v]).at_ 0 rfl

set_option maxHeartbeats 4000000 in
set_option maxRecDepth 100000 in
theorem rJoin_any (tag : UInt8) (A : Option Addr) (c : Nat) (xs : List ByteArray) (w : World) (h : Strs w A xs) (hc : xs.length ≤ c) (hl : (cat xs).length ≤ 4294967296) (hn : xs.length ≤ 4294967296) :
    Calls Try.prog 16 #[.int .u8 tag.toNat, .slice A xs.length c] w fun e w' => e = .returned (.string (bs (sumL (cat (joinX tag xs))))) ∧ Below w.heap.size w w' := by
  have HS := Kp.mk h
  have hl' := Kp.mk hl
  have ht : tag.toNat < 256 := tag.toNat_lt
  clear h hl
  have hone : Kp (Lib.byteCells [tag] = [.int .u8 tag.toNat]) := ⟨rfl⟩
  go_enter Try.func16, Try.ntmps16
  go_wp2_with (first | ((with_reducible refine gate_dst (N := 8) rfl ?_); refine ev_lit rfl 5 [.int .u8 tag.toNat] 1 (by first | (go_simp; done) | (go_simp; rfl)) ?_; intro g9 w1 hg9 f1 b9) | ((with_reducible refine gate_dst (N := 9) rfl ?_); refine ev_str rfl 43 9 5 (.tmp 8) rfl Try.underlying43 Try.underlying5 Try.underlying9 0 _ 1 5 [tag] rfl (Blk.owns b9 rfl (by simp [maxLen]) (Nat.zero_le _)) ?_) | ((with_reducible refine gate_dst (N := 10) rfl ?_); refine ev_lit rfl 9 [.string (bs [tag])] 1 (by first | (go_simp; done) | (go_simp; rfl)) ?_; intro g11 w2 hg11 f2 b11))
  have F : Kp (Fr No w w2) := ⟨f1.no f2⟩
  have O : Kp (w2.ownsRow w.heap.size 9 1 (.slice (some ⟨g11, 0, none⟩) 1 1) (joinX tag []).length ((joinX tag []).map .string)) := ⟨Blk.owns b11 rfl (by simp [maxLen]) (by have := f1.size; omega)⟩
  clear f1 f2 b9 b11 hg9 hg11
  go_loopg [5, 6] xs.length (fun kq v5 v6 wr => ∃ i : Nat, i + kq = xs.length ∧ v6 = .int .i64 i ∧ Kp (Fr No w wr) ∧ Kp (wr.ownsRow w.heap.size 9 1 v5 (joinX tag (xs.take i)).length ((joinX tag (xs.take i)).map .string)))
  case atStart => exact ⟨0, by omega, rfl, F, O⟩
  case round =>
    clear F O
    obtain ⟨i, hi, rfl, F, O⟩ := hrel
    by_cases hix : i < xs.length
    · obtain ⟨b, o, rfl, hb, hcell⟩ := strs_cells HS.out (by omega)
      obtain ⟨x, hx⟩ : ∃ x, xs[i]? = some x := ⟨_, List.getElem?_eq_getElem hix⟩
      have cx := Fr.cell (hcell i x hx) F.out (fun h => h)
      have hxl : x.size ≤ 4294967296 := Nat.le_trans (cat_mem xs i x hx) hl'.out
      have hjl : Kp ((joinX tag (xs.take i)).length ≤ 1 + 2 * 4294967296) := ⟨by rw [joinX_len, List.length_take]; omega⟩
      have hsn : Kp (joinX tag (xs.take (i + 1)) = joinX tag (xs.take i) ++ [bs (numB 4 x.size), x]) := ⟨by rw [← joinX_snoc, List.take_add_one, hx]; rfl⟩
      have HI := Kp.mk hi
      have hs0 : (0 : Int) ≤ (x.size : Int) := by omega
      have hs1 : (x.size : Int) ≤ 9223372036854775807 := by omega
      have hbo : u5.ownBlock ≠ some b := fun hh => by have := own_new_base O.out b hh; omega
      obtain ⟨m5, hm5⟩ : ∃ m, m = (joinX tag (xs.take i)).length := ⟨_, rfl⟩
      obtain ⟨X5, hX5⟩ : ∃ X, X = (joinX tag (xs.take i)).map Value.string := ⟨_, rfl⟩
      have O5 : Kp (wr.ownsRow w.heap.size 9 1 u5 m5 X5) := by rw [hm5, hX5]; exact O
      have HM5 := Kp.mk hm5
      have HX5 := Kp.mk hX5
      have hmb : m5 ≤ 1 + 2 * 4294967296 := by rw [hm5]; exact hjl.out
      clear hi hx hcell hm5 hX5 O hjl
      go_wp2_with fail
      have hlt5 : ∀ k, u5.ownBlock = some k → k < wr.heap.size := fun k hk => by
        obtain ⟨cells, hcc⟩ := own_typed O5.out k hk
        exact (Array.getElem?_eq_some_iff.1 hcc).1
      have hnb : ∀ k, u5.ownBlock = some k → w.heap.size ≤ k := fun k hk => own_new_base O5.out k hk
      go_region_held3 (fun w' => w'.cell? ⟨b, o + i, none⟩ = some (.string x) ∧ Fr No w w' ∧ wr.heap.size ≤ w'.heap.size)
        (first
          | exact ⟨cx, F.out.drew, Nat.le_refl _⟩
          | (rename_i hHeld kk hkk; exact ⟨Fr.cell hHeld.1 f6 (fun hh => absurd (own_new_base o5 _ hh) (Nat.not_le_of_lt hb)), hHeld.2.1.trans f6 (fun k hk => .inr (own_new_base o5 k hk)), Nat.le_trans hHeld.2.2 f6.size⟩)
          | (rename_i hHeld kk hkk; exact ⟨Fr.cell hHeld.1 (Fr.of_below hb3) (fun h => h), hHeld.2.1.no (Fr.of_below hb3), Nat.le_trans hHeld.2.2 hb3.size⟩)
          | (rename_i hHeld kk hkk; exact ⟨Fr.cell hHeld.1 (Fr.alloc _ _) (fun h => h), hHeld.2.1.no (Fr.alloc _ _), Nat.le_trans hHeld.2.2 (Fr.alloc _ _).size⟩)
          | (rename_i hHeld kk hkk; exact ⟨Fr.cell hHeld.1 f5 hbo, hHeld.2.1.trans f5 (fun k hk => .inr (hnb k hk)), Nat.le_trans hHeld.2.2 f5.size⟩))
        (first
          | ((go_at_call 56; refine (rnum_any _ _ hs0 hs1 (by decide) (by decide) _).mono ?_; rintro e w3 ⟨rfl, hb3⟩))
          | (refine step_app9 w.heap.size m5 X5 u5 (.string (bs (numB 4 x.size))) ?_ ?_ (.tmp 17) (.tmp 24) ?_ ?_ ?_ ?_ ?_ ?_ ?_ ?_ ?_
             rotate_left
             · rfl
             · rfl
             · rfl
             · rfl
             · repeat (first | exact O5.out | refine own_no ?_ (Fr.alloc _ _) | refine own_no ?_ (Fr.of_below hb3) | refine own_no ?_ (Fr.drew (Fr.refl No _)))
             · repeat (first | exact (Blk.new _ 9 [.string _]).at_ 0 rfl | exact new2 _ _ _ | refine Fr.cell ?_ (Fr.alloc _ _) (fun h => h))
             · rfl
             · omega
             · (rename_i hHeld kk hkk; exact hHeld.2.1.size)
             intro g5 c5 w5 o5 f5 hat5)
          | (refine step_app9 w.heap.size (m5 + 1) (X5 ++ [.string (bs (numB 4 x.size))]) (.slice (some ⟨g5, 0, none⟩) (m5 + 1) c5) (.string x) ?_ ?_ (.tmp 25) (.tmp 30) ?_ ?_ ?_ ?_ ?_ ?_ ?_ ?_ ?_
             rotate_left
             · rfl
             · rfl
             · rfl
             · rfl
             · repeat (first | exact o5 | refine own_no ?_ (Fr.alloc _ _))
             · first | exact ((Blk.new _ 9 [.string x]).at_ 0 rfl) | exact Fr.cell ((Blk.new _ 9 [.string x]).at_ 0 rfl) f5 (fun hh => absurd (hlt5 _ hh) (Nat.not_lt_of_le (Nat.le_trans hb3.size (Fr.alloc _ _).size))) | exact Fr.cell (Fr.cell ((Blk.new _ 9 [.string x]).at_ 0 rfl) (Fr.alloc _ _) (fun h => h)) f5 (fun hh => absurd (hlt5 _ hh) (Nat.not_lt_of_le hb3.size)) | exact Fr.cell (Fr.cell (Fr.cell ((Blk.new _ 9 [.string x]).at_ 0 rfl) (Fr.of_below hb3) (fun h => h)) (Fr.alloc _ _) (fun h => h)) f5 (fun hh => absurd (hlt5 _ hh) (Nat.lt_irrefl _)) | exact Fr.cell (Fr.cell (Fr.cell (new3 wr (.string x)) (Fr.of_below hb3) (fun h => h)) (Fr.alloc _ _) (fun h => h)) f5 (fun hh => absurd (hlt5 _ hh) (Nat.lt_irrefl _)) | exact Fr.cell (new2 _ _ _) f5 (fun hh => absurd (hlt5 _ hh) (Nat.not_lt_of_le (Nat.le_succ_of_le hb3.size)))
             · rfl
             · omega
             · (rename_i hHeld kk hkk; exact hHeld.2.1.size)
             intro g6 c6 w6 o6 f6 hat6)
          | fail)
      all_goals (have FZ : Fr No w w3 := by first | exact F.out.drew.no (Fr.of_below hb3) | exact ((F.out.no (Fr.alloc _ _)).drew).no (Fr.of_below hb3))
      all_goals (have FY : Fr No w w5 := by first | exact (FZ.no (Fr.alloc _ _)).trans f5 (fun k hk => .inr (hnb k hk)) | exact ((FZ.no (Fr.alloc _ _)).no (Fr.alloc _ _)).trans f5 (fun k hk => .inr (hnb k hk)))
      all_goals (have FX : Kp (Fr No w w6) := by first | exact ⟨FY.trans f6 (fun k hk => .inr (own_new_base o5 k hk))⟩ | exact ⟨(FY.no (Fr.alloc _ _)).trans f6 (fun k hk => .inr (own_new_base o5 k hk))⟩)
      all_goals (have OX : Kp (w6.ownsRow w.heap.size 9 1 (.slice (some ⟨g6, 0, none⟩) (m5 + 1 + 1) c6) (joinX tag (xs.take (i + 1))).length ((joinX tag (xs.take (i + 1))).map .string)) := ⟨by
        have o7 := o6
        rw [hsn.out]
        rw [HX5.out] at o7
        have e : (joinX tag (xs.take i) ++ [bs (numB 4 x.size), x]).length = m5 + 1 + 1 := by rw [HM5.out]; simp
        rw [e]
        simpa using o7⟩)
      all_goals clear FZ FY f6 hat6 o6 hat5 f5 o5 hb3 hlt5 hnb cx
      all_goals go_wp2_with fail
      all_goals go_roundg (gk - 1)
      all_goals first
        | (have := HI.out; omega)
        | exact ⟨i + 1, by have := HI.out; omega, by go_num, FX, OX⟩
    · obtain rfl : i = xs.length := by omega
      rw [List.take_length] at O
      obtain ⟨A', c', rfl, hc', hS'⟩ := own_strs O.out rfl
      have HS' := Kp.mk hS'
      have hjc := joinX_cat tag xs
      have hjl := joinX_len tag xs
      have hl := hl'.out
      have hb1 : (cat (joinX tag xs)).length ≤ 1099511627776 := by omega
      have hb2 : (joinX tag xs).length ≤ 1099511627776 := by omega
      clear hS' O hjc hjl hl hi hix
      go_wp2_with (go_at_call 14; refine (rsum_any A' c' (joinX tag xs) _ HS'.out hc' hb1 hb2).mono ?_; rintro e w3 ⟨rfl, hb3⟩)
      go_ret
      exact ⟨rfl, (F.out.no (Fr.of_below hb3)).below⟩
end Go.Proofs.Ytenlokbfjajbbaa.RefSum
