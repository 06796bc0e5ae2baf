/- Texts joined by merge.py: CmdOnly, CmdRight, CmdPrint, CmdParse, WkBld, WireTold, WirePut, WireEnc, WireEncP. -/
import Derived.Test.YtioohhekamjljaaWxB
import Derived.Test.YtioohhekamjljaaWxA
import Derived.Test.YtioohhekamjljaaShelf
import Derived.Test.YtioohhekamjljaaWEqStruct
import Derived.Test.YtioohhekamjljaaSb
import Derived.Lib.FrozenHead
import Derived.Test.YtioohhekamjljaaDigPr
import Derived.Test.YtioohhekamjljaaSum
/- cmd.named, only and its closure, values. No conditions beside those written out. -/
set_option linter.unusedSimpArgs false
set_option linter.unusedVariables false
namespace Go.Proofs.Ytioohhekamjljaa.Wk
open Go Go.RowKit Go.Proofs.YtioohhekamjljaaW.PrintWords Go.Proofs.YtioohhekamjljaaW.PrintLast Go.Proofs.Ytioohhekamjljaa.Ev Go.Proofs.Ytioohhekamjljaa.Reg Go.Proofs.Ytioohhekamjljaa.Sha Go.Proofs.Ytioohhekamjljaa.Sb Go.Proofs.Ytioohhekamjljaa.Crc Go.Proofs.Ytioohhekamjljaa.Wi

/-- Which of a command's parts a kind names: the code's letters. -/
def namedT (k : Int) : B :=
  if k = 1 ∨ k = 2 ∨ k = 6 ∨ k = 7 then [73, 110] else if k = 3 then [73, 68] else if k = 4 then [73, 83, 77] else if k = 5 then [83, 77] else if k = 8 then [73, 79, 68] else if k = 9 then [73, 83, 79, 70, 110] else if k = 10 then [73] else []
abbrev cmL (c : Cm) : List Value := [.int .i64 c.kind, .int .i64 c.ino, .int .i64 c.src, .int .i64 c.off, .int .i64 c.frm, .int .i64 c.n, .string (bs c.name), .string (bs c.data)]
abbrev cmV (c : Cm) : Value := .agg (cmL c).toArray
theorem kinds {k : Int} (h1 : 1 ≤ k) (h2 : k ≤ 10) : k = 1 ∨ k = 2 ∨ k = 3 ∨ k = 4 ∨ k = 5 ∨ k = 6 ∨ k = 7 ∨ k = 8 ∨ k = 9 ∨ k = 10 := by omega
set_option maxHeartbeats 2000000 in
set_option maxRecDepth 100000 in
theorem named_any {k : Int} (h1 : 1 ≤ k) (h2 : k ≤ 10) (w : World) : Calls Try.prog 75 #[.int .i64 k] w fun e w' => e = .returned (.string (bs (namedT k))) ∧ w' = w := by
  have x1 := index_arr (cs := #[Value.string { data := #[] }, Value.string { data := #[73, 110] }, Value.string { data := #[73, 110] }, Value.string { data := #[73, 68] }, Value.string { data := #[73, 83, 77] }, Value.string { data := #[83, 77] }, Value.string { data := #[73, 110] }, Value.string { data := #[73, 110] }, Value.string { data := #[73, 79, 68] }, Value.string { data := #[73, 83, 79, 70, 110] }, Value.string { data := #[73] }]) Try.underlying157 Try.underlying9 rfl sizeStr 1 1 rfl _ rfl (by decide)
  have x2 := index_arr (cs := #[Value.string { data := #[] }, Value.string { data := #[73, 110] }, Value.string { data := #[73, 110] }, Value.string { data := #[73, 68] }, Value.string { data := #[73, 83, 77] }, Value.string { data := #[83, 77] }, Value.string { data := #[73, 110] }, Value.string { data := #[73, 110] }, Value.string { data := #[73, 79, 68] }, Value.string { data := #[73, 83, 79, 70, 110] }, Value.string { data := #[73] }]) Try.underlying157 Try.underlying9 rfl sizeStr 2 2 rfl _ rfl (by decide)
  have x3 := index_arr (cs := #[Value.string { data := #[] }, Value.string { data := #[73, 110] }, Value.string { data := #[73, 110] }, Value.string { data := #[73, 68] }, Value.string { data := #[73, 83, 77] }, Value.string { data := #[83, 77] }, Value.string { data := #[73, 110] }, Value.string { data := #[73, 110] }, Value.string { data := #[73, 79, 68] }, Value.string { data := #[73, 83, 79, 70, 110] }, Value.string { data := #[73] }]) Try.underlying157 Try.underlying9 rfl sizeStr 3 3 rfl _ rfl (by decide)
  have x4 := index_arr (cs := #[Value.string { data := #[] }, Value.string { data := #[73, 110] }, Value.string { data := #[73, 110] }, Value.string { data := #[73, 68] }, Value.string { data := #[73, 83, 77] }, Value.string { data := #[83, 77] }, Value.string { data := #[73, 110] }, Value.string { data := #[73, 110] }, Value.string { data := #[73, 79, 68] }, Value.string { data := #[73, 83, 79, 70, 110] }, Value.string { data := #[73] }]) Try.underlying157 Try.underlying9 rfl sizeStr 4 4 rfl _ rfl (by decide)
  have x5 := index_arr (cs := #[Value.string { data := #[] }, Value.string { data := #[73, 110] }, Value.string { data := #[73, 110] }, Value.string { data := #[73, 68] }, Value.string { data := #[73, 83, 77] }, Value.string { data := #[83, 77] }, Value.string { data := #[73, 110] }, Value.string { data := #[73, 110] }, Value.string { data := #[73, 79, 68] }, Value.string { data := #[73, 83, 79, 70, 110] }, Value.string { data := #[73] }]) Try.underlying157 Try.underlying9 rfl sizeStr 5 5 rfl _ rfl (by decide)
  have x6 := index_arr (cs := #[Value.string { data := #[] }, Value.string { data := #[73, 110] }, Value.string { data := #[73, 110] }, Value.string { data := #[73, 68] }, Value.string { data := #[73, 83, 77] }, Value.string { data := #[83, 77] }, Value.string { data := #[73, 110] }, Value.string { data := #[73, 110] }, Value.string { data := #[73, 79, 68] }, Value.string { data := #[73, 83, 79, 70, 110] }, Value.string { data := #[73] }]) Try.underlying157 Try.underlying9 rfl sizeStr 6 6 rfl _ rfl (by decide)
  have x7 := index_arr (cs := #[Value.string { data := #[] }, Value.string { data := #[73, 110] }, Value.string { data := #[73, 110] }, Value.string { data := #[73, 68] }, Value.string { data := #[73, 83, 77] }, Value.string { data := #[83, 77] }, Value.string { data := #[73, 110] }, Value.string { data := #[73, 110] }, Value.string { data := #[73, 79, 68] }, Value.string { data := #[73, 83, 79, 70, 110] }, Value.string { data := #[73] }]) Try.underlying157 Try.underlying9 rfl sizeStr 7 7 rfl _ rfl (by decide)
  have x8 := index_arr (cs := #[Value.string { data := #[] }, Value.string { data := #[73, 110] }, Value.string { data := #[73, 110] }, Value.string { data := #[73, 68] }, Value.string { data := #[73, 83, 77] }, Value.string { data := #[83, 77] }, Value.string { data := #[73, 110] }, Value.string { data := #[73, 110] }, Value.string { data := #[73, 79, 68] }, Value.string { data := #[73, 83, 79, 70, 110] }, Value.string { data := #[73] }]) Try.underlying157 Try.underlying9 rfl sizeStr 8 8 rfl _ rfl (by decide)
  have x9 := index_arr (cs := #[Value.string { data := #[] }, Value.string { data := #[73, 110] }, Value.string { data := #[73, 110] }, Value.string { data := #[73, 68] }, Value.string { data := #[73, 83, 77] }, Value.string { data := #[83, 77] }, Value.string { data := #[73, 110] }, Value.string { data := #[73, 110] }, Value.string { data := #[73, 79, 68] }, Value.string { data := #[73, 83, 79, 70, 110] }, Value.string { data := #[73] }]) Try.underlying157 Try.underlying9 rfl sizeStr 9 9 rfl _ rfl (by decide)
  have x10 := index_arr (cs := #[Value.string { data := #[] }, Value.string { data := #[73, 110] }, Value.string { data := #[73, 110] }, Value.string { data := #[73, 68] }, Value.string { data := #[73, 83, 77] }, Value.string { data := #[83, 77] }, Value.string { data := #[73, 110] }, Value.string { data := #[73, 110] }, Value.string { data := #[73, 79, 68] }, Value.string { data := #[73, 83, 79, 70, 110] }, Value.string { data := #[73] }]) Try.underlying157 Try.underlying9 rfl sizeStr 10 10 rfl _ rfl (by decide)
  rcases kinds h1 h2 with rfl | rfl | rfl | rfl | rfl | rfl | rfl | rfl | rfl | rfl
  all_goals
    go_enter Try.func75, Try.ntmps75
    go_wp2_with fail
    go_ret
    exact ⟨rfl, rfl⟩
def hasB (k : Int) (x : UInt8) : Bool := decide (0 ≤ Lib.indexByte (namedT k) x)
theorem has_is {k : Int} (h1 : 1 ≤ k) (h2 : k ≤ 10) : hasB k 73 = hasI k ∧ hasB k 83 = hasS k ∧ hasB k 79 = hasO k ∧ hasB k 70 = hasF k ∧ hasB k 110 = hasN k ∧ hasB k 77 = hasM k ∧ hasB k 68 = hasD k := by
  rcases kinds h1 h2 with rfl | rfl | rfl | rfl | rfl | rfl | rfl | rfl | rfl | rfl <;> decide
set_option maxHeartbeats 2000000 in
theorem has_any {k : Int} (h1 : 1 ≤ k) (h2 : k ≤ 10) (x : UInt8) (w : World) (g : Nat) (hc : w.cell? ⟨g, 0, none⟩ = some (.int .i64 k)) :
    Calls Try.prog 73 #[.string ⟨#[x]⟩, .pointer (some ⟨g, 0, none⟩)] w fun e w' => e = .returned (.bool (hasB k x)) ∧ w' = w := by
  have CN := Kp.mk (fun w' => named_any h1 h2 w')
  have CC : Kp (∀ w', Calls Try.prog 74 #[.string (bs (namedT k)), .string ⟨#[x]⟩] w' fun e w'' => e = .returned (.bool (hasB k x)) ∧ w'' = w') := ⟨fun w' => Try.strings_Contains_one (bs (namedT k)) x w'⟩
  go_enter Try.func73, Try.ntmps73
  go_wp2_with (first
    | (go_at_call 75; go_must (refine (CN.out _).mono ?_); rintro e w2 ⟨rfl, rfl⟩)
    | (go_at_call 74; go_must (refine (CC.out _).mono ?_); rintro e w2 ⟨rfl, rfl⟩))
  go_ret
  exact ⟨rfl, rfl⟩

theorem zeroCmd : (Try.prog.info? 58).bind (·.zero) = some (.agg (cmL ⟨0, 0, 0, 0, 0, 0, [], []⟩).toArray) := by kernel_rfl
theorem sizeCmd : (Try.prog.info? 58).map (·.size) = some 8 := by kernel_rfl
theorem cmL_one (c : Cm) : (cmL c).toArray.all (·.oneCell') = true := by
  show (cmL c).toArray.all (fun x => x.oneCell') = true
  simp only [List.all_toArray, List.all_cons, List.all_nil]
  rfl
/-- A command's cells, its first i numbers as only leaves them. -/
def stC (c : Cm) (i : Nat) : Cm := ⟨c.kind, if 0 < i then (onlyC c).ino else c.ino, if 1 < i then (onlyC c).src else c.src, if 2 < i then (onlyC c).off else c.off, if 3 < i then (onlyC c).frm else c.frm, if 4 < i then (onlyC c).n else c.n, c.name, c.data⟩
abbrev letL (g : Nat) : List Value := [.string ⟨#[73]⟩, .pointer (some ⟨g, 1, none⟩), .string ⟨#[83]⟩, .pointer (some ⟨g, 2, none⟩), .string ⟨#[79]⟩, .pointer (some ⟨g, 3, none⟩), .string ⟨#[70]⟩, .pointer (some ⟨g, 4, none⟩), .string ⟨#[110]⟩, .pointer (some ⟨g, 5, none⟩)]
theorem zeroLet : (Try.prog.info? 149).bind (·.zero) = some (.agg (#[.string ⟨#[]⟩, .pointer none])) := by kernel_rfl
theorem sizeLet : (Try.prog.info? 149).map (·.size) = some 2 := by kernel_rfl
theorem let_one (x : UInt8) (g j : Nat) : (#[.string ⟨#[x]⟩, .pointer (some ⟨g, j, none⟩)] : Array Value).all (·.oneCell') = true := by
  show (#[.string ⟨#[x]⟩, .pointer (some ⟨g, j, none⟩)] : Array Value).all (fun x => x.oneCell') = true
  rw [show (#[.string ⟨#[x]⟩, .pointer (some ⟨g, j, none⟩)] : Array Value) = [Value.string ⟨#[x]⟩, .pointer (some ⟨g, j, none⟩)].toArray from rfl]
  simp only [List.all_toArray, List.all_cons, List.all_nil]
  rfl
set_option maxHeartbeats 8000000 in
set_option maxRecDepth 100000 in
theorem only_any (c : Cm) (h1 : 1 ≤ c.kind) (h2 : c.kind ≤ 10) (w : World) : Calls Try.prog 64 #[cmV c] w fun e w' => e = .returned (cmV (onlyC c)) ∧ Fr No w w' := by
  have CH := Kp.mk (fun x W g hc => has_any (k := c.kind) h1 h2 x W g hc)
  have HI := Kp.mk (has_is h1 h2)
  have H1 := Kp.mk h1
  clear h1 h2
  go_enter Try.func64, Try.ntmps64
  go_wp2_with (first
    | ((with_reducible refine gate_dst (N := 1) rfl ?_); go_must (refine ev_box rfl 58 _ rfl _ rfl (cmL c) rfl ?_); intro g1 w1 hg1 f1 b1; have F := f1)
    | ((with_reducible refine gate_dst (N := 2) rfl ?_); go_must (refine ev_alloc rfl 58 rfl _ (cmL ⟨0, 0, 0, 0, 0, 0, [], []⟩) zeroCmd rfl ?_); intro g2 w2 hg2 f2 b2; have hne : g1 ≠ g2 := Nat.ne_of_lt (Nat.lt_of_lt_of_le b1.lt hg2); have b1 := b1.no f2; have F := F.no f2)
    | ((with_reducible refine gate_dst (N := 17) rfl ?_); refine ev_lit rfl 149 (letL g1) 5 (by first | (go_simp; done) | (go_simp; rfl)) ?_; intro gL wL hgL fL bL; have hL1 : gL ≠ g1 := Ne.symm (Nat.ne_of_lt (Nat.lt_of_lt_of_le b1.lt hgL)); have b1 := b1.no fL; have b2 := b2.no fL; have F := F.no fL))
  go_loopg [19] 5 (fun gg v19 wr => ∃ i : Nat, i + gg = 5 ∧ v19 = .int .i64 (i : Int) ∧ Blk wr g1 58 (cmL (stC c i)) ∧ Blk wr gL 149 (letL g1) ∧ Blk wr g2 58 (cmL ⟨0, 0, 0, 0, 0, 0, [], []⟩) ∧ Fr No w wr)
  case atStart => exact ⟨0, rfl, rfl, b1, bL, b2, F⟩
  case round =>
    obtain ⟨i, hi, rfl, b1, bL, b2, F⟩ := hrel
    rcases (by omega : (i = 0 ∧ gk = 5) ∨ (i = 1 ∧ gk = 4) ∨ (i = 2 ∧ gk = 3) ∨ (i = 3 ∧ gk = 2) ∨ (i = 4 ∧ gk = 1) ∨ (i = 5 ∧ gk = 0)) with ⟨rfl, rfl⟩ | ⟨rfl, rfl⟩ | ⟨rfl, rfl⟩ | ⟨rfl, rfl⟩ | ⟨rfl, rfl⟩ | ⟨rfl, rfl⟩
    · have l1 := bL.at_ 0 rfl
      have l2 := bL.at_ 1 rfl
      have hh := HI.out.1
      cases hb : hasB c.kind 73 with
      | true =>
        rw [hb] at hh
        have he : cmL (stC c 0) = cmL (stC c 1) := by simp [stC, onlyC, ← hh]
        rw [he] at b1
        have HB := Kp.mk hb
        clear hb hh he
        go_wp2_with (first
          | ((with_reducible refine gate_dst (N := 5) rfl ?_); go_must (refine ev_alloc rfl 149 rfl _ [.string ⟨#[]⟩, .pointer none] zeroLet rfl ?_); intro g5 w5 hg5 f5 b5; have n1 : g1 ≠ g5 := Nat.ne_of_lt (Nat.lt_of_lt_of_le b1.lt hg5); have n2 : g2 ≠ g5 := Nat.ne_of_lt (Nat.lt_of_lt_of_le b2.lt hg5); have nL : gL ≠ g5 := Nat.ne_of_lt (Nat.lt_of_lt_of_le bL.lt hg5); have b1 := b1.no f5; have b2 := b2.no f5; have bL := bL.no f5; have hw5 : w.heap.size ≤ g5 := Nat.le_trans F.size hg5; have F := F.no f5)
          | ((with_reducible refine gate_store (t := 149) (p := 5) rfl ?_); go_must (refine ev_store_row rfl 149 _ _ rfl g5 #[.string ⟨#[73]⟩, .pointer (some ⟨g1, 1, none⟩)] rfl rfl 149 _ b5 sizeLet rfl (let_one _ _ _) ?_); intro w6 f6 b6; have b1 := b1.one f6 n1; have b2 := b2.one f6 n2; have bL := bL.one f6 nL; have F := F.one f6 (.inr hw5); have c0 := b1.at_ 0 rfl; have d0 := b6.at_ 0 rfl; have d1 := b6.at_ 1 rfl)
          | (go_at_call 73; go_must (refine (CH.out 73 _ g1 c0).mono ?_); rintro e wh ⟨rfl, hww⟩; subst hww; rw [HB.out]))
        go_roundg 4
        case measure => omega
        case rel => exact ⟨1, rfl, by go_num, b1, bL, b2, F⟩
      | false =>
        rw [hb] at hh
        have he : (cmL (stC c 0)).set 1 (.int .i64 0) = cmL (stC c 1) := by simp [stC, onlyC, ← hh]
        have HE := Kp.mk he
        have HB := Kp.mk hb
        clear hb hh he
        go_wp2_with (first
          | ((with_reducible refine gate_dst (N := 5) rfl ?_); go_must (refine ev_alloc rfl 149 rfl _ [.string ⟨#[]⟩, .pointer none] zeroLet rfl ?_); intro g5 w5 hg5 f5 b5; have n1 : g1 ≠ g5 := Nat.ne_of_lt (Nat.lt_of_lt_of_le b1.lt hg5); have n2 : g2 ≠ g5 := Nat.ne_of_lt (Nat.lt_of_lt_of_le b2.lt hg5); have nL : gL ≠ g5 := Nat.ne_of_lt (Nat.lt_of_lt_of_le bL.lt hg5); have b1 := b1.no f5; have b2 := b2.no f5; have bL := bL.no f5; have hw5 : w.heap.size ≤ g5 := Nat.le_trans F.size hg5; have F := F.no f5)
          | ((with_reducible refine gate_store (t := 149) (p := 5) rfl ?_); go_must (refine ev_store_row rfl 149 _ _ rfl g5 #[.string ⟨#[73]⟩, .pointer (some ⟨g1, 1, none⟩)] rfl rfl 149 _ b5 sizeLet rfl (let_one _ _ _) ?_); intro w6 f6 b6; have b1 := b1.one f6 n1; have b2 := b2.one f6 n2; have bL := bL.one f6 nL; have F := F.one f6 (.inr hw5); have c0 := b1.at_ 0 rfl; have d0 := b6.at_ 0 rfl; have d1 := b6.at_ 1 rfl)
          | (go_at_call 73; go_must (refine (CH.out 73 _ g1 c0).mono ?_); rintro e wh ⟨rfl, hww⟩; subst hww; rw [HB.out])
          | ((with_reducible refine gate_store (t := 3) (p := 30) rfl ?_); go_must (refine ev_store rfl 3 _ _ rfl g1 1 (.int .i64 0) rfl rfl rfl 58 _ b1 (by simp) sizeInt ?_); intro w7 f7 b1; have bL := bL.one f7 hL1; have b2 := b2.one f7 (Ne.symm hne); have F := F.one f7 (.inr hg1)))
        rw [HE.out] at b1
        go_roundg 4
        case measure => omega
        case rel => exact ⟨1, rfl, by go_num, b1, bL, b2, F⟩
    · have l1 := bL.at_ 2 rfl
      have l2 := bL.at_ 3 rfl
      have hh := HI.out.2.1
      cases hb : hasB c.kind 83 with
      | true =>
        rw [hb] at hh
        have he : cmL (stC c 1) = cmL (stC c 2) := by simp [stC, onlyC, ← hh]
        rw [he] at b1
        have HB := Kp.mk hb
        clear hb hh he
        go_wp2_with (first
          | ((with_reducible refine gate_dst (N := 5) rfl ?_); go_must (refine ev_alloc rfl 149 rfl _ [.string ⟨#[]⟩, .pointer none] zeroLet rfl ?_); intro g5 w5 hg5 f5 b5; have n1 : g1 ≠ g5 := Nat.ne_of_lt (Nat.lt_of_lt_of_le b1.lt hg5); have n2 : g2 ≠ g5 := Nat.ne_of_lt (Nat.lt_of_lt_of_le b2.lt hg5); have nL : gL ≠ g5 := Nat.ne_of_lt (Nat.lt_of_lt_of_le bL.lt hg5); have b1 := b1.no f5; have b2 := b2.no f5; have bL := bL.no f5; have hw5 : w.heap.size ≤ g5 := Nat.le_trans F.size hg5; have F := F.no f5)
          | ((with_reducible refine gate_store (t := 149) (p := 5) rfl ?_); go_must (refine ev_store_row rfl 149 _ _ rfl g5 #[.string ⟨#[83]⟩, .pointer (some ⟨g1, 2, none⟩)] rfl rfl 149 _ b5 sizeLet rfl (let_one _ _ _) ?_); intro w6 f6 b6; have b1 := b1.one f6 n1; have b2 := b2.one f6 n2; have bL := bL.one f6 nL; have F := F.one f6 (.inr hw5); have c0 := b1.at_ 0 rfl; have d0 := b6.at_ 0 rfl; have d1 := b6.at_ 1 rfl)
          | (go_at_call 73; go_must (refine (CH.out 83 _ g1 c0).mono ?_); rintro e wh ⟨rfl, hww⟩; subst hww; rw [HB.out]))
        go_roundg 3
        case measure => omega
        case rel => exact ⟨2, rfl, by go_num, b1, bL, b2, F⟩
      | false =>
        rw [hb] at hh
        have he : (cmL (stC c 1)).set 2 (.int .i64 0) = cmL (stC c 2) := by simp [stC, onlyC, ← hh]
        have HE := Kp.mk he
        have HB := Kp.mk hb
        clear hb hh he
        go_wp2_with (first
          | ((with_reducible refine gate_dst (N := 5) rfl ?_); go_must (refine ev_alloc rfl 149 rfl _ [.string ⟨#[]⟩, .pointer none] zeroLet rfl ?_); intro g5 w5 hg5 f5 b5; have n1 : g1 ≠ g5 := Nat.ne_of_lt (Nat.lt_of_lt_of_le b1.lt hg5); have n2 : g2 ≠ g5 := Nat.ne_of_lt (Nat.lt_of_lt_of_le b2.lt hg5); have nL : gL ≠ g5 := Nat.ne_of_lt (Nat.lt_of_lt_of_le bL.lt hg5); have b1 := b1.no f5; have b2 := b2.no f5; have bL := bL.no f5; have hw5 : w.heap.size ≤ g5 := Nat.le_trans F.size hg5; have F := F.no f5)
          | ((with_reducible refine gate_store (t := 149) (p := 5) rfl ?_); go_must (refine ev_store_row rfl 149 _ _ rfl g5 #[.string ⟨#[83]⟩, .pointer (some ⟨g1, 2, none⟩)] rfl rfl 149 _ b5 sizeLet rfl (let_one _ _ _) ?_); intro w6 f6 b6; have b1 := b1.one f6 n1; have b2 := b2.one f6 n2; have bL := bL.one f6 nL; have F := F.one f6 (.inr hw5); have c0 := b1.at_ 0 rfl; have d0 := b6.at_ 0 rfl; have d1 := b6.at_ 1 rfl)
          | (go_at_call 73; go_must (refine (CH.out 83 _ g1 c0).mono ?_); rintro e wh ⟨rfl, hww⟩; subst hww; rw [HB.out])
          | ((with_reducible refine gate_store (t := 3) (p := 30) rfl ?_); go_must (refine ev_store rfl 3 _ _ rfl g1 2 (.int .i64 0) rfl rfl rfl 58 _ b1 (by simp) sizeInt ?_); intro w7 f7 b1; have bL := bL.one f7 hL1; have b2 := b2.one f7 (Ne.symm hne); have F := F.one f7 (.inr hg1)))
        rw [HE.out] at b1
        go_roundg 3
        case measure => omega
        case rel => exact ⟨2, rfl, by go_num, b1, bL, b2, F⟩
    · have l1 := bL.at_ 4 rfl
      have l2 := bL.at_ 5 rfl
      have hh := HI.out.2.2.1
      cases hb : hasB c.kind 79 with
      | true =>
        rw [hb] at hh
        have he : cmL (stC c 2) = cmL (stC c 3) := by simp [stC, onlyC, ← hh]
        rw [he] at b1
        have HB := Kp.mk hb
        clear hb hh he
        go_wp2_with (first
          | ((with_reducible refine gate_dst (N := 5) rfl ?_); go_must (refine ev_alloc rfl 149 rfl _ [.string ⟨#[]⟩, .pointer none] zeroLet rfl ?_); intro g5 w5 hg5 f5 b5; have n1 : g1 ≠ g5 := Nat.ne_of_lt (Nat.lt_of_lt_of_le b1.lt hg5); have n2 : g2 ≠ g5 := Nat.ne_of_lt (Nat.lt_of_lt_of_le b2.lt hg5); have nL : gL ≠ g5 := Nat.ne_of_lt (Nat.lt_of_lt_of_le bL.lt hg5); have b1 := b1.no f5; have b2 := b2.no f5; have bL := bL.no f5; have hw5 : w.heap.size ≤ g5 := Nat.le_trans F.size hg5; have F := F.no f5)
          | ((with_reducible refine gate_store (t := 149) (p := 5) rfl ?_); go_must (refine ev_store_row rfl 149 _ _ rfl g5 #[.string ⟨#[79]⟩, .pointer (some ⟨g1, 3, none⟩)] rfl rfl 149 _ b5 sizeLet rfl (let_one _ _ _) ?_); intro w6 f6 b6; have b1 := b1.one f6 n1; have b2 := b2.one f6 n2; have bL := bL.one f6 nL; have F := F.one f6 (.inr hw5); have c0 := b1.at_ 0 rfl; have d0 := b6.at_ 0 rfl; have d1 := b6.at_ 1 rfl)
          | (go_at_call 73; go_must (refine (CH.out 79 _ g1 c0).mono ?_); rintro e wh ⟨rfl, hww⟩; subst hww; rw [HB.out]))
        go_roundg 2
        case measure => omega
        case rel => exact ⟨3, rfl, by go_num, b1, bL, b2, F⟩
      | false =>
        rw [hb] at hh
        have he : (cmL (stC c 2)).set 3 (.int .i64 0) = cmL (stC c 3) := by simp [stC, onlyC, ← hh]
        have HE := Kp.mk he
        have HB := Kp.mk hb
        clear hb hh he
        go_wp2_with (first
          | ((with_reducible refine gate_dst (N := 5) rfl ?_); go_must (refine ev_alloc rfl 149 rfl _ [.string ⟨#[]⟩, .pointer none] zeroLet rfl ?_); intro g5 w5 hg5 f5 b5; have n1 : g1 ≠ g5 := Nat.ne_of_lt (Nat.lt_of_lt_of_le b1.lt hg5); have n2 : g2 ≠ g5 := Nat.ne_of_lt (Nat.lt_of_lt_of_le b2.lt hg5); have nL : gL ≠ g5 := Nat.ne_of_lt (Nat.lt_of_lt_of_le bL.lt hg5); have b1 := b1.no f5; have b2 := b2.no f5; have bL := bL.no f5; have hw5 : w.heap.size ≤ g5 := Nat.le_trans F.size hg5; have F := F.no f5)
          | ((with_reducible refine gate_store (t := 149) (p := 5) rfl ?_); go_must (refine ev_store_row rfl 149 _ _ rfl g5 #[.string ⟨#[79]⟩, .pointer (some ⟨g1, 3, none⟩)] rfl rfl 149 _ b5 sizeLet rfl (let_one _ _ _) ?_); intro w6 f6 b6; have b1 := b1.one f6 n1; have b2 := b2.one f6 n2; have bL := bL.one f6 nL; have F := F.one f6 (.inr hw5); have c0 := b1.at_ 0 rfl; have d0 := b6.at_ 0 rfl; have d1 := b6.at_ 1 rfl)
          | (go_at_call 73; go_must (refine (CH.out 79 _ g1 c0).mono ?_); rintro e wh ⟨rfl, hww⟩; subst hww; rw [HB.out])
          | ((with_reducible refine gate_store (t := 3) (p := 30) rfl ?_); go_must (refine ev_store rfl 3 _ _ rfl g1 3 (.int .i64 0) rfl rfl rfl 58 _ b1 (by simp) sizeInt ?_); intro w7 f7 b1; have bL := bL.one f7 hL1; have b2 := b2.one f7 (Ne.symm hne); have F := F.one f7 (.inr hg1)))
        rw [HE.out] at b1
        go_roundg 2
        case measure => omega
        case rel => exact ⟨3, rfl, by go_num, b1, bL, b2, F⟩
    · have l1 := bL.at_ 6 rfl
      have l2 := bL.at_ 7 rfl
      have hh := HI.out.2.2.2.1
      cases hb : hasB c.kind 70 with
      | true =>
        rw [hb] at hh
        have he : cmL (stC c 3) = cmL (stC c 4) := by simp [stC, onlyC, ← hh]
        rw [he] at b1
        have HB := Kp.mk hb
        clear hb hh he
        go_wp2_with (first
          | ((with_reducible refine gate_dst (N := 5) rfl ?_); go_must (refine ev_alloc rfl 149 rfl _ [.string ⟨#[]⟩, .pointer none] zeroLet rfl ?_); intro g5 w5 hg5 f5 b5; have n1 : g1 ≠ g5 := Nat.ne_of_lt (Nat.lt_of_lt_of_le b1.lt hg5); have n2 : g2 ≠ g5 := Nat.ne_of_lt (Nat.lt_of_lt_of_le b2.lt hg5); have nL : gL ≠ g5 := Nat.ne_of_lt (Nat.lt_of_lt_of_le bL.lt hg5); have b1 := b1.no f5; have b2 := b2.no f5; have bL := bL.no f5; have hw5 : w.heap.size ≤ g5 := Nat.le_trans F.size hg5; have F := F.no f5)
          | ((with_reducible refine gate_store (t := 149) (p := 5) rfl ?_); go_must (refine ev_store_row rfl 149 _ _ rfl g5 #[.string ⟨#[70]⟩, .pointer (some ⟨g1, 4, none⟩)] rfl rfl 149 _ b5 sizeLet rfl (let_one _ _ _) ?_); intro w6 f6 b6; have b1 := b1.one f6 n1; have b2 := b2.one f6 n2; have bL := bL.one f6 nL; have F := F.one f6 (.inr hw5); have c0 := b1.at_ 0 rfl; have d0 := b6.at_ 0 rfl; have d1 := b6.at_ 1 rfl)
          | (go_at_call 73; go_must (refine (CH.out 70 _ g1 c0).mono ?_); rintro e wh ⟨rfl, hww⟩; subst hww; rw [HB.out]))
        go_roundg 1
        case measure => omega
        case rel => exact ⟨4, rfl, by go_num, b1, bL, b2, F⟩
      | false =>
        rw [hb] at hh
        have he : (cmL (stC c 3)).set 4 (.int .i64 0) = cmL (stC c 4) := by simp [stC, onlyC, ← hh]
        have HE := Kp.mk he
        have HB := Kp.mk hb
        clear hb hh he
        go_wp2_with (first
          | ((with_reducible refine gate_dst (N := 5) rfl ?_); go_must (refine ev_alloc rfl 149 rfl _ [.string ⟨#[]⟩, .pointer none] zeroLet rfl ?_); intro g5 w5 hg5 f5 b5; have n1 : g1 ≠ g5 := Nat.ne_of_lt (Nat.lt_of_lt_of_le b1.lt hg5); have n2 : g2 ≠ g5 := Nat.ne_of_lt (Nat.lt_of_lt_of_le b2.lt hg5); have nL : gL ≠ g5 := Nat.ne_of_lt (Nat.lt_of_lt_of_le bL.lt hg5); have b1 := b1.no f5; have b2 := b2.no f5; have bL := bL.no f5; have hw5 : w.heap.size ≤ g5 := Nat.le_trans F.size hg5; have F := F.no f5)
          | ((with_reducible refine gate_store (t := 149) (p := 5) rfl ?_); go_must (refine ev_store_row rfl 149 _ _ rfl g5 #[.string ⟨#[70]⟩, .pointer (some ⟨g1, 4, none⟩)] rfl rfl 149 _ b5 sizeLet rfl (let_one _ _ _) ?_); intro w6 f6 b6; have b1 := b1.one f6 n1; have b2 := b2.one f6 n2; have bL := bL.one f6 nL; have F := F.one f6 (.inr hw5); have c0 := b1.at_ 0 rfl; have d0 := b6.at_ 0 rfl; have d1 := b6.at_ 1 rfl)
          | (go_at_call 73; go_must (refine (CH.out 70 _ g1 c0).mono ?_); rintro e wh ⟨rfl, hww⟩; subst hww; rw [HB.out])
          | ((with_reducible refine gate_store (t := 3) (p := 30) rfl ?_); go_must (refine ev_store rfl 3 _ _ rfl g1 4 (.int .i64 0) rfl rfl rfl 58 _ b1 (by simp) sizeInt ?_); intro w7 f7 b1; have bL := bL.one f7 hL1; have b2 := b2.one f7 (Ne.symm hne); have F := F.one f7 (.inr hg1)))
        rw [HE.out] at b1
        go_roundg 1
        case measure => omega
        case rel => exact ⟨4, rfl, by go_num, b1, bL, b2, F⟩
    · have l1 := bL.at_ 8 rfl
      have l2 := bL.at_ 9 rfl
      have hh := HI.out.2.2.2.2.1
      cases hb : hasB c.kind 110 with
      | true =>
        rw [hb] at hh
        have he : cmL (stC c 4) = cmL (stC c 5) := by simp [stC, onlyC, ← hh]
        rw [he] at b1
        have HB := Kp.mk hb
        clear hb hh he
        go_wp2_with (first
          | ((with_reducible refine gate_dst (N := 5) rfl ?_); go_must (refine ev_alloc rfl 149 rfl _ [.string ⟨#[]⟩, .pointer none] zeroLet rfl ?_); intro g5 w5 hg5 f5 b5; have n1 : g1 ≠ g5 := Nat.ne_of_lt (Nat.lt_of_lt_of_le b1.lt hg5); have n2 : g2 ≠ g5 := Nat.ne_of_lt (Nat.lt_of_lt_of_le b2.lt hg5); have nL : gL ≠ g5 := Nat.ne_of_lt (Nat.lt_of_lt_of_le bL.lt hg5); have b1 := b1.no f5; have b2 := b2.no f5; have bL := bL.no f5; have hw5 : w.heap.size ≤ g5 := Nat.le_trans F.size hg5; have F := F.no f5)
          | ((with_reducible refine gate_store (t := 149) (p := 5) rfl ?_); go_must (refine ev_store_row rfl 149 _ _ rfl g5 #[.string ⟨#[110]⟩, .pointer (some ⟨g1, 5, none⟩)] rfl rfl 149 _ b5 sizeLet rfl (let_one _ _ _) ?_); intro w6 f6 b6; have b1 := b1.one f6 n1; have b2 := b2.one f6 n2; have bL := bL.one f6 nL; have F := F.one f6 (.inr hw5); have c0 := b1.at_ 0 rfl; have d0 := b6.at_ 0 rfl; have d1 := b6.at_ 1 rfl)
          | (go_at_call 73; go_must (refine (CH.out 110 _ g1 c0).mono ?_); rintro e wh ⟨rfl, hww⟩; subst hww; rw [HB.out]))
        go_roundg 0
        case measure => omega
        case rel => exact ⟨5, rfl, by go_num, b1, bL, b2, F⟩
      | false =>
        rw [hb] at hh
        have he : (cmL (stC c 4)).set 5 (.int .i64 0) = cmL (stC c 5) := by simp [stC, onlyC, ← hh]
        have HE := Kp.mk he
        have HB := Kp.mk hb
        clear hb hh he
        go_wp2_with (first
          | ((with_reducible refine gate_dst (N := 5) rfl ?_); go_must (refine ev_alloc rfl 149 rfl _ [.string ⟨#[]⟩, .pointer none] zeroLet rfl ?_); intro g5 w5 hg5 f5 b5; have n1 : g1 ≠ g5 := Nat.ne_of_lt (Nat.lt_of_lt_of_le b1.lt hg5); have n2 : g2 ≠ g5 := Nat.ne_of_lt (Nat.lt_of_lt_of_le b2.lt hg5); have nL : gL ≠ g5 := Nat.ne_of_lt (Nat.lt_of_lt_of_le bL.lt hg5); have b1 := b1.no f5; have b2 := b2.no f5; have bL := bL.no f5; have hw5 : w.heap.size ≤ g5 := Nat.le_trans F.size hg5; have F := F.no f5)
          | ((with_reducible refine gate_store (t := 149) (p := 5) rfl ?_); go_must (refine ev_store_row rfl 149 _ _ rfl g5 #[.string ⟨#[110]⟩, .pointer (some ⟨g1, 5, none⟩)] rfl rfl 149 _ b5 sizeLet rfl (let_one _ _ _) ?_); intro w6 f6 b6; have b1 := b1.one f6 n1; have b2 := b2.one f6 n2; have bL := bL.one f6 nL; have F := F.one f6 (.inr hw5); have c0 := b1.at_ 0 rfl; have d0 := b6.at_ 0 rfl; have d1 := b6.at_ 1 rfl)
          | (go_at_call 73; go_must (refine (CH.out 110 _ g1 c0).mono ?_); rintro e wh ⟨rfl, hww⟩; subst hww; rw [HB.out])
          | ((with_reducible refine gate_store (t := 3) (p := 30) rfl ?_); go_must (refine ev_store rfl 3 _ _ rfl g1 5 (.int .i64 0) rfl rfl rfl 58 _ b1 (by simp) sizeInt ?_); intro w7 f7 b1; have bL := bL.one f7 hL1; have b2 := b2.one f7 (Ne.symm hne); have F := F.one f7 (.inr hg1)))
        rw [HE.out] at b1
        go_roundg 0
        case measure => omega
        case rel => exact ⟨5, rfl, by go_num, b1, bL, b2, F⟩
    · have c0 := b1.at_ 0 rfl
      have hM := HI.out.2.2.2.2.2.1
      have hD := HI.out.2.2.2.2.2.2
      have HF : Kp (Fr No w wr) := ⟨F⟩
      have HG2 : Kp (w.heap.size ≤ g2) := ⟨Nat.le_trans f1.size hg2⟩
      cases hm : hasB c.kind 77 with
      | true =>
        rw [hm] at hM
        cases hd : hasB c.kind 68 with
        | true =>
          rw [hd] at hD
          have he : (cmL (stC c 5)) = cmL (onlyC c) := by simp [stC, onlyC, ← hM, ← hD, bs]
          have HE := Kp.mk he
          have HM := Kp.mk hm
          have HD := Kp.mk hd
          clear he hm hd hM hD
          go_wp2_with (first
            | (go_at_call 73; refine (CH.out _ _ g1 c0).mono ?_; rintro e wh ⟨rfl, hww⟩; subst hww; first | rw [HM.out] | rw [HD.out])
            | ((with_reducible refine gate_dst (N := 40) rfl ?_); rw [HE.out] at b1; go_must (refine ev_load_row rfl 58 _ rfl g1 rfl 58 _ b1 _ Try.underlying58 rfl sizeCmd ?_))
            | ((with_reducible refine gate_store (t := 58) (p := 2) rfl ?_); go_must (refine ev_store_row rfl 58 _ _ rfl g2 (cmL (onlyC c)).toArray rfl rfl 58 _ b2 sizeCmd rfl (cmL_one _) ?_); intro wZ fZ bZ; have F := F.one fZ (.inr HG2.out)))
          refine bodyPost_ret (results_cell_row rfl _ _ g2 _ _ _ _ rfl bZ.out Try.underlying58 rfl (by simpa using sizeCmd)) rfl ⟨rfl, F⟩
        | false =>
          rw [hd] at hD
          have he : ((cmL (stC c 5)).set 7 (.string ⟨#[]⟩)) = cmL (onlyC c) := by simp [stC, onlyC, ← hM, ← hD, bs]
          have HE := Kp.mk he
          have HM := Kp.mk hm
          have HD := Kp.mk hd
          clear he hm hd hM hD
          go_wp2_with (first
            | (go_at_call 73; refine (CH.out _ _ g1 c0).mono ?_; rintro e wh ⟨rfl, hww⟩; subst hww; first | rw [HM.out] | rw [HD.out])
            | ((with_reducible refine gate_store (t := 9) (p := 39) rfl ?_); go_must (refine ev_store rfl 9 _ _ rfl g1 7 (.string ⟨#[]⟩) rfl rfl rfl 58 _ b1 (by simp) sizeStr ?_); intro w39 f39 b1; have b2 := b2.one f39 (Ne.symm hne); have F := F.one f39 (.inr hg1); have c0 : w39.cell? ⟨g1, 0, none⟩ = some (.int .i64 c.kind) := b1.at_ 0 rfl)
            | ((with_reducible refine gate_dst (N := 40) rfl ?_); rw [HE.out] at b1; go_must (refine ev_load_row rfl 58 _ rfl g1 rfl 58 _ b1 _ Try.underlying58 rfl sizeCmd ?_))
            | ((with_reducible refine gate_store (t := 58) (p := 2) rfl ?_); go_must (refine ev_store_row rfl 58 _ _ rfl g2 (cmL (onlyC c)).toArray rfl rfl 58 _ b2 sizeCmd rfl (cmL_one _) ?_); intro wZ fZ bZ; have F := F.one fZ (.inr HG2.out)))
          refine bodyPost_ret (results_cell_row rfl _ _ g2 _ _ _ _ rfl bZ.out Try.underlying58 rfl (by simpa using sizeCmd)) rfl ⟨rfl, F⟩
      | false =>
        rw [hm] at hM
        cases hd : hasB c.kind 68 with
        | true =>
          rw [hd] at hD
          have he : ((cmL (stC c 5)).set 6 (.string ⟨#[]⟩)) = cmL (onlyC c) := by simp [stC, onlyC, ← hM, ← hD, bs]
          have HE := Kp.mk he
          have HM := Kp.mk hm
          have HD := Kp.mk hd
          clear he hm hd hM hD
          go_wp2_with (first
            | (go_at_call 73; refine (CH.out _ _ g1 c0).mono ?_; rintro e wh ⟨rfl, hww⟩; subst hww; first | rw [HM.out] | rw [HD.out])
            | ((with_reducible refine gate_store (t := 9) (p := 35) rfl ?_); go_must (refine ev_store rfl 9 _ _ rfl g1 6 (.string ⟨#[]⟩) rfl rfl rfl 58 _ b1 (by simp) sizeStr ?_); intro w35 f35 b1; have b2 := b2.one f35 (Ne.symm hne); have F := F.one f35 (.inr hg1); have c0 : w35.cell? ⟨g1, 0, none⟩ = some (.int .i64 c.kind) := b1.at_ 0 rfl)
            | ((with_reducible refine gate_dst (N := 40) rfl ?_); rw [HE.out] at b1; go_must (refine ev_load_row rfl 58 _ rfl g1 rfl 58 _ b1 _ Try.underlying58 rfl sizeCmd ?_))
            | ((with_reducible refine gate_store (t := 58) (p := 2) rfl ?_); go_must (refine ev_store_row rfl 58 _ _ rfl g2 (cmL (onlyC c)).toArray rfl rfl 58 _ b2 sizeCmd rfl (cmL_one _) ?_); intro wZ fZ bZ; have F := F.one fZ (.inr HG2.out)))
          refine bodyPost_ret (results_cell_row rfl _ _ g2 _ _ _ _ rfl bZ.out Try.underlying58 rfl (by simpa using sizeCmd)) rfl ⟨rfl, F⟩
        | false =>
          rw [hd] at hD
          have he : (((cmL (stC c 5)).set 6 (.string ⟨#[]⟩)).set 7 (.string ⟨#[]⟩)) = cmL (onlyC c) := by simp [stC, onlyC, ← hM, ← hD, bs]
          have HE := Kp.mk he
          have HM := Kp.mk hm
          have HD := Kp.mk hd
          clear he hm hd hM hD
          go_wp2_with (first
            | (go_at_call 73; refine (CH.out _ _ g1 c0).mono ?_; rintro e wh ⟨rfl, hww⟩; subst hww; first | rw [HM.out] | rw [HD.out])
            | ((with_reducible refine gate_store (t := 9) (p := 35) rfl ?_); go_must (refine ev_store rfl 9 _ _ rfl g1 6 (.string ⟨#[]⟩) rfl rfl rfl 58 _ b1 (by simp) sizeStr ?_); intro w35 f35 b1; have b2 := b2.one f35 (Ne.symm hne); have F := F.one f35 (.inr hg1); have c0 : w35.cell? ⟨g1, 0, none⟩ = some (.int .i64 c.kind) := b1.at_ 0 rfl)
            | ((with_reducible refine gate_store (t := 9) (p := 39) rfl ?_); go_must (refine ev_store rfl 9 _ _ rfl g1 7 (.string ⟨#[]⟩) rfl rfl rfl 58 _ b1 (by simp) sizeStr ?_); intro w39 f39 b1; have b2 := b2.one f39 (Ne.symm hne); have F := F.one f39 (.inr hg1); have c0 : w39.cell? ⟨g1, 0, none⟩ = some (.int .i64 c.kind) := b1.at_ 0 rfl)
            | ((with_reducible refine gate_dst (N := 40) rfl ?_); rw [HE.out] at b1; go_must (refine ev_load_row rfl 58 _ rfl g1 rfl 58 _ b1 _ Try.underlying58 rfl sizeCmd ?_))
            | ((with_reducible refine gate_store (t := 58) (p := 2) rfl ?_); go_must (refine ev_store_row rfl 58 _ _ rfl g2 (cmL (onlyC c)).toArray rfl rfl 58 _ b2 sizeCmd rfl (cmL_one _) ?_); intro wZ fZ bZ; have F := F.one fZ (.inr HG2.out)))
          refine bodyPost_ret (results_cell_row rfl _ _ g2 _ _ _ _ rfl bZ.out Try.underlying58 rfl (by simpa using sizeCmd)) rfl ⟨rfl, F⟩
end Go.Proofs.Ytioohhekamjljaa.Wk

/- cmd.values, Right. No conditions beside those written out. -/
set_option linter.unusedSimpArgs false
set_option linter.unusedVariables false
namespace Go.Proofs.Ytioohhekamjljaa.Wk
open Go Go.RowKit Go.Proofs.YtioohhekamjljaaW.PrintWords Go.Proofs.YtioohhekamjljaaW.PrintLast Go.Proofs.Ytioohhekamjljaa.Ev Go.Proofs.Ytioohhekamjljaa.Reg Go.Proofs.Ytioohhekamjljaa.Sha Go.Proofs.Ytioohhekamjljaa.Sb Go.Proofs.Ytioohhekamjljaa.Crc Go.Proofs.Ytioohhekamjljaa.Wi

abbrev vsL (c : Cm) : List Value := [.int .i64 c.ino, .int .i64 c.src, .int .i64 c.off, .int .i64 c.frm, .int .i64 c.n]
theorem zeroFive : (Try.prog.info? 108).bind (·.zero) = some (.agg [.int .i64 0, .int .i64 0, .int .i64 0, .int .i64 0, .int .i64 0].toArray) := by kernel_rfl
theorem sizeFive : (Try.prog.info? 108).map (·.size) = some 5 := by kernel_rfl
theorem vsL_one (c : Cm) : (vsL c).toArray.all (·.oneCell') = true := by
  show (vsL c).toArray.all (fun x => x.oneCell') = true
  simp only [List.all_toArray, List.all_cons, List.all_nil]
  rfl
set_option maxHeartbeats 2000000 in
set_option maxRecDepth 100000 in
theorem values_any (c : Cm) (w : World) : Calls Try.prog 44 #[cmV c] w fun e w' => e = .returned (.agg (vsL c).toArray) ∧ Fr No w w' := by
  go_enter Try.func44, Try.ntmps44
  go_wp2_with (first
    | ((with_reducible refine gate_dst (N := 1) rfl ?_); go_must (refine ev_box rfl 58 _ rfl _ rfl (cmL c) rfl ?_); intro g1 w1 hg1 f1 b1; have F := f1; have c0 := b1.at_ 0 rfl; have c1 := b1.at_ 1 rfl; have c2 := b1.at_ 2 rfl; have c3 := b1.at_ 3 rfl; have c4 := b1.at_ 4 rfl; have c5 := b1.at_ 5 rfl; have c6 := b1.at_ 6 rfl; have c7 := b1.at_ 7 rfl)
    | ((with_reducible refine gate_dst (N := 2) rfl ?_); go_must (refine ev_alloc rfl 108 rfl _ [.int .i64 0, .int .i64 0, .int .i64 0, .int .i64 0, .int .i64 0] zeroFive rfl ?_); intro g2 w2 hg2 f2 b2; have hw2 := Nat.le_trans F.size hg2; have F := F.no f2; have b1 := b1.no f2; have c1 := b1.at_ 1 rfl; have c2 := b1.at_ 2 rfl; have c3 := b1.at_ 3 rfl; have c4 := b1.at_ 4 rfl; have c5 := b1.at_ 5 rfl)
    | ((with_reducible refine gate_store (t := 108) (p := 2) rfl ?_); go_must (refine ev_store_row rfl 108 _ _ rfl g2 (vsL c).toArray rfl rfl 108 _ b2 sizeFive rfl (vsL_one _) ?_); intro wZ fZ bZ; have F := F.one fZ (.inr hw2)))
  refine bodyPost_ret (results_cell_row rfl _ _ g2 _ _ _ _ rfl bZ.out Try.underlying108 rfl (by simpa using sizeFive)) rfl ⟨rfl, F⟩

theorem eqCm (d : Nat) (w : World) (a c : Cm) : (Op.equalIn (d + 2) 58 (cmV a) (cmV c)).run Try.prog w = .ok (decide (a = c)) w := by
  have h : (Op.equalIn (d + 2) 58 (cmV a) (cmV c)).run Try.prog w = .ok (a.kind == c.kind && (a.ino == c.ino && (a.src == c.src && (a.off == c.off && (a.frm == c.frm && (a.n == c.n && ((bs a.name).toList == (bs c.name).toList && ((bs a.data).toList == (bs c.data).toList)))))))) w := by
    refine eqA_of Try.underlying58 (by kernel_rfl) ?_
    refine eqf_cons (by rfl) (by go_simp; rfl) (by go_simp; rfl) (by go_simp) ?_
    refine eqf_cons (by rfl) (by go_simp; rfl) (by go_simp; rfl) (by go_simp) ?_
    refine eqf_cons (by rfl) (by go_simp; rfl) (by go_simp; rfl) (by go_simp) ?_
    refine eqf_cons (by rfl) (by go_simp; rfl) (by go_simp; rfl) (by go_simp) ?_
    refine eqf_cons (by rfl) (by go_simp; rfl) (by go_simp; rfl) (by go_simp) ?_
    refine eqf_cons (by rfl) (by go_simp; rfl) (by go_simp; rfl) (by go_simp) ?_
    refine eqf_cons (by rfl) (by go_simp; rfl) (by go_simp; rfl) (by go_simp) ?_
    exact eqf_last (by rfl) (by go_simp; rfl) (by go_simp; rfl) (by go_simp)
  have e : ∀ x y : B, ((bs x).toList == (bs y).toList) = decide (x = y) := by
    intro x y
    have : ∀ z : B, (bs z).toList = z := fun z => by simp [bs, ByteArray.toList_eq]
    rw [this, this, Bool.eq_iff_iff]
    simp
  have e2 : (a.kind == c.kind && (a.ino == c.ino && (a.src == c.src && (a.off == c.off && (a.frm == c.frm && (a.n == c.n && (decide (a.name = c.name) && decide (a.data = c.data)))))))) = decide (a = c) := by
    obtain ⟨a1, a2, a3, a4, a5, a6, a7, a8⟩ := a
    obtain ⟨b1, b2, b3, b4, b5, b6, b7, b8⟩ := c
    rw [Bool.eq_iff_iff]
    simp only [Bool.and_eq_true, beq_iff_eq, decide_eq_true_eq, Cm.mk.injEq]
  rw [h, e, e, e2]
theorem cm_ext {a c : Cm} (h1 : a.kind = c.kind) (h2 : a.ino = c.ino) (h3 : a.src = c.src) (h4 : a.off = c.off) (h5 : a.frm = c.frm) (h6 : a.n = c.n) (h7 : a.name = c.name) (h8 : a.data = c.data) : a = c := by
  obtain ⟨a1, a2, a3, a4, a5, a6, a7, a8⟩ := a
  obtain ⟨b1, b2, b3, b4, b5, b6, b7, b8⟩ := c
  simp only [Cm.mk.injEq]
  exact ⟨h1, h2, h3, h4, h5, h6, h7, h8⟩
set_option maxHeartbeats 8000000 in
set_option maxRecDepth 100000 in
theorem right_any (c : Cm) (w : World) : Calls Try.prog 43 #[cmV c] w fun e w' => e = .returned (.bool (rightC c)) ∧ Fr No w w' := by
  obtain ⟨x, hx⟩ : ∃ x, rightC c = x := ⟨_, rfl⟩
  rw [hx]
  unfold rightC at hx
  by_cases h1 : c.kind < 1
  · obtain rfl : x = false := by rw [← hx, decide_eq_false (by omega)]; rfl
    have d1 : decide (c.kind < 1) = true := decide_eq_true (by omega)
    clear h1 hx
    go_enter Try.func43, Try.ntmps43
    go_wp2_with (first
      | ((with_reducible refine gate_dst (N := 1) rfl ?_); go_must (refine ev_box rfl 58 _ rfl _ rfl (cmL c) rfl ?_); intro g1 w1 hg1 f1 b1; have F := f1; have c0 := b1.at_ 0 rfl; have c1 := b1.at_ 1 rfl; have c2 := b1.at_ 2 rfl; have c3 := b1.at_ 3 rfl; have c4 := b1.at_ 4 rfl; have c5 := b1.at_ 5 rfl; have c6 := b1.at_ 6 rfl; have c7 := b1.at_ 7 rfl))
    go_quiet (fail)
    have F := F.drewN nq
    go_wp2_with fail
    go_ret
    exact ⟨rfl, F⟩
  have d1 : decide (c.kind < 1) = false := decide_eq_false (by omega)
  by_cases h2 : 10 < c.kind
  · obtain rfl : x = false := by rw [← hx, decide_eq_false (by omega)]; rfl
    have d2 : decide (10 < c.kind) = true := decide_eq_true (by omega)
    clear h1 h2 hx
    go_enter Try.func43, Try.ntmps43
    go_wp2_with (first
      | ((with_reducible refine gate_dst (N := 1) rfl ?_); go_must (refine ev_box rfl 58 _ rfl _ rfl (cmL c) rfl ?_); intro g1 w1 hg1 f1 b1; have F := f1; have c0 := b1.at_ 0 rfl; have c1 := b1.at_ 1 rfl; have c2 := b1.at_ 2 rfl; have c3 := b1.at_ 3 rfl; have c4 := b1.at_ 4 rfl; have c5 := b1.at_ 5 rfl; have c6 := b1.at_ 6 rfl; have c7 := b1.at_ 7 rfl))
    go_quiet (fail)
    have F := F.drewN nq
    go_wp2_with fail
    go_ret
    exact ⟨rfl, F⟩
  have d2 : decide (10 < c.kind) = false := decide_eq_false (by omega)
  by_cases h3 : 16 < c.name.length
  · obtain rfl : x = false := by rw [← hx, decide_eq_false (by omega)]; rfl
    have d3 : decide ((16 : Int) < (c.name.length : Int)) = true := decide_eq_true (by omega)
    clear h1 h2 h3 hx
    go_enter Try.func43, Try.ntmps43
    go_wp2_with (first
      | ((with_reducible refine gate_dst (N := 1) rfl ?_); go_must (refine ev_box rfl 58 _ rfl _ rfl (cmL c) rfl ?_); intro g1 w1 hg1 f1 b1; have F := f1; have c0 := b1.at_ 0 rfl; have c1 := b1.at_ 1 rfl; have c2 := b1.at_ 2 rfl; have c3 := b1.at_ 3 rfl; have c4 := b1.at_ 4 rfl; have c5 := b1.at_ 5 rfl; have c6 := b1.at_ 6 rfl; have c7 := b1.at_ 7 rfl))
    go_quiet (fail)
    have F := F.drewN nq
    go_wp2_with fail
    go_ret
    exact ⟨rfl, F⟩
  have d3 : decide ((16 : Int) < (c.name.length : Int)) = false := decide_eq_false (by omega)
  by_cases h4 : 4096 < c.data.length
  · obtain rfl : x = false := by rw [← hx, decide_eq_false (by omega)]; rfl
    have d4 : decide ((4096 : Int) < (c.data.length : Int)) = true := decide_eq_true (by omega)
    clear h1 h2 h3 h4 hx
    go_enter Try.func43, Try.ntmps43
    go_wp2_with (first
      | ((with_reducible refine gate_dst (N := 1) rfl ?_); go_must (refine ev_box rfl 58 _ rfl _ rfl (cmL c) rfl ?_); intro g1 w1 hg1 f1 b1; have F := f1; have c0 := b1.at_ 0 rfl; have c1 := b1.at_ 1 rfl; have c2 := b1.at_ 2 rfl; have c3 := b1.at_ 3 rfl; have c4 := b1.at_ 4 rfl; have c5 := b1.at_ 5 rfl; have c6 := b1.at_ 6 rfl; have c7 := b1.at_ 7 rfl))
    go_quiet (fail)
    have F := F.drewN nq
    go_wp2_with fail
    go_ret
    exact ⟨rfl, F⟩
  have d4 : decide ((4096 : Int) < (c.data.length : Int)) = false := decide_eq_false (by omega)
  have CO := Kp.mk (fun w' => only_any c (by omega) (by omega) w')
  by_cases h5 : onlyC c = c
  · have hx2 : (numsC c).all okN = x := by rw [← hx, decide_eq_true ⟨by omega, by omega, by omega, by omega, h5⟩]; rfl
    have HX := Kp.mk hx2
    clear hx hx2 h1 h2 h3 h4
    have EQ : Kp (∀ d w, (Op.equalIn (d + 2) 58 (cmV (onlyC c)) (cmV c)).run Try.prog w = .ok true w) := ⟨fun d w => by rw [eqCm, decide_eq_true h5]⟩
    go_enter Try.func43, Try.ntmps43
    go_wp2_with (first
      | ((with_reducible refine gate_dst (N := 1) rfl ?_); go_must (refine ev_box rfl 58 _ rfl _ rfl (cmL c) rfl ?_); intro g1 w1 hg1 f1 b1; have F := f1; have c0 := b1.at_ 0 rfl; have c1 := b1.at_ 1 rfl; have c2 := b1.at_ 2 rfl; have c3 := b1.at_ 3 rfl; have c4 := b1.at_ 4 rfl; have c5 := b1.at_ 5 rfl; have c6 := b1.at_ 6 rfl; have c7 := b1.at_ 7 rfl))
    clear c0 c1 c2 c3 c4 c5 c6 c7
    have fd := (Fr.refl No w1).drew
    refine region_quiet (C := fun w' => Blk w' g1 58 (cmL c) ∧ Fr No w1 w') (by kernel_rfl) (by kernel_rfl) ⟨b1.no fd, fd⟩ ?_
    iterate 26 (first
      | ((with_reducible refine gate_q (N := 27) rfl ?_); refine quiet_call (a' := ?_) Try.func64 (by kernel_rfl) rfl #[cmV c] (by rfl) rfl (by simp only [List.map_toArray, List.map_cons, List.map_nil]; rfl) (fun w' hC' => (CO.out w').mono (by rintro e w'' ⟨rfl, f⟩; exact ⟨rfl, hC'.1.no f, hC'.2.no f⟩)) ?_ ?_; rotate_left; (simp only [Act.put, List.setIfInBounds_toArray, List.set_cons_zero, List.set_cons_succ]; rfl))
      | (go_big_quiet_step (fail))
      | (refine quiet_val (v := ?_) (a' := ?_) (by rfl) ?_ ?_ ?_; rotate_left; (focus (rintro w' ⟨s0, s1⟩; have c0 := s0.at_ 0 rfl; have c1 := s0.at_ 1 rfl; have c2 := s0.at_ 2 rfl; have c3 := s0.at_ 3 rfl; have c4 := s0.at_ 4 rfl; have c5 := s0.at_ 5 rfl; have c6 := s0.at_ 6 rfl; have c7 := s0.at_ 7 rfl; go_simp; first | done | with_reducible rfl)); rotate_left; (simp only [Act.put, List.setIfInBounds_toArray, List.set_cons_zero, List.set_cons_succ]; rfl)))
    refine wpQuiet_nil ?_
    rintro w' ⟨s0, fQ⟩
    go_wp2_with (first
      | ((with_reducible refine gate_dst (N := 31) rfl ?_); go_must (refine ev_load_row rfl 58 _ rfl g1 rfl 58 _ s0 _ Try.underlying58 rfl sizeCmd ?_))
      | (go_at_call 44; go_must (refine (values_any c _).mono ?_); rintro e wv ⟨rfl, fV⟩))
    have F : Fr No w wv := (F.no fQ).no fV
    have x0 := index_arr (cs := (vsL c).toArray) Try.underlying108 Try.underlying3 rfl sizeInt 0 0 rfl _ rfl (by decide)
    have x1 := index_arr (cs := (vsL c).toArray) Try.underlying108 Try.underlying3 rfl sizeInt 1 1 rfl _ rfl (by decide)
    have x2 := index_arr (cs := (vsL c).toArray) Try.underlying108 Try.underlying3 rfl sizeInt 2 2 rfl _ rfl (by decide)
    have x3 := index_arr (cs := (vsL c).toArray) Try.underlying108 Try.underlying3 rfl sizeInt 3 3 rfl _ rfl (by decide)
    have x4 := index_arr (cs := (vsL c).toArray) Try.underlying108 Try.underlying3 rfl sizeInt 4 4 rfl _ rfl (by decide)
    go_loopg [33] 5 (fun gg v33 wr => ∃ i : Nat, i + gg = 5 ∧ v33 = .int .i64 (i : Int) ∧ Kp (∀ j v, (numsC c)[j]? = some v → j < i → okN v = true) ∧ Fr No w wr)
    case atStart => exact ⟨0, rfl, rfl, ⟨fun j v _ h => absurd h (by omega)⟩, F⟩
    case round =>
      obtain ⟨i, hi, rfl, HK, F⟩ := hrel
      rcases (by omega : (i = 0 ∧ gk = 5) ∨ (i = 1 ∧ gk = 4) ∨ (i = 2 ∧ gk = 3) ∨ (i = 3 ∧ gk = 2) ∨ (i = 4 ∧ gk = 1) ∨ (i = 5 ∧ gk = 0)) with ⟨rfl, rfl⟩ | ⟨rfl, rfl⟩ | ⟨rfl, rfl⟩ | ⟨rfl, rfl⟩ | ⟨rfl, rfl⟩ | ⟨rfl, rfl⟩
      · by_cases v1 : c.ino < 0
        · obtain rfl : x = false := by
            rw [← HX.out]
            have : okN c.ino = false := decide_eq_false (by omega)
            simp [numsC, this]
          go_wp2_with fail
          go_ret
          exact ⟨rfl, F⟩
        · by_cases v2 : 2147483647 < c.ino
          · obtain rfl : x = false := by
              rw [← HX.out]
              have : okN c.ino = false := decide_eq_false (by omega)
              simp [numsC, this]
            go_wp2_with fail
            go_ret
            exact ⟨rfl, F⟩
          · have hk : okN c.ino = true := decide_eq_true (by omega)
            have HK2 : Kp (∀ j v, (numsC c)[j]? = some v → j < 1 → okN v = true) := ⟨fun j v hv hj => by
              by_cases e : j = 0
              · subst e
                cases hv
                exact hk
              · exact HK.out j v hv (by omega)⟩
            clear hk
            go_wp2_with fail
            go_roundg 4
            case measure => omega
            case rel => exact ⟨1, rfl, by go_num, HK2, F⟩
      · by_cases v1 : c.src < 0
        · obtain rfl : x = false := by
            rw [← HX.out]
            have : okN c.src = false := decide_eq_false (by omega)
            simp [numsC, this]
          go_wp2_with fail
          go_ret
          exact ⟨rfl, F⟩
        · by_cases v2 : 2147483647 < c.src
          · obtain rfl : x = false := by
              rw [← HX.out]
              have : okN c.src = false := decide_eq_false (by omega)
              simp [numsC, this]
            go_wp2_with fail
            go_ret
            exact ⟨rfl, F⟩
          · have hk : okN c.src = true := decide_eq_true (by omega)
            have HK2 : Kp (∀ j v, (numsC c)[j]? = some v → j < 2 → okN v = true) := ⟨fun j v hv hj => by
              by_cases e : j = 1
              · subst e
                cases hv
                exact hk
              · exact HK.out j v hv (by omega)⟩
            clear hk
            go_wp2_with fail
            go_roundg 3
            case measure => omega
            case rel => exact ⟨2, rfl, by go_num, HK2, F⟩
      · by_cases v1 : c.off < 0
        · obtain rfl : x = false := by
            rw [← HX.out]
            have : okN c.off = false := decide_eq_false (by omega)
            simp [numsC, this]
          go_wp2_with fail
          go_ret
          exact ⟨rfl, F⟩
        · by_cases v2 : 2147483647 < c.off
          · obtain rfl : x = false := by
              rw [← HX.out]
              have : okN c.off = false := decide_eq_false (by omega)
              simp [numsC, this]
            go_wp2_with fail
            go_ret
            exact ⟨rfl, F⟩
          · have hk : okN c.off = true := decide_eq_true (by omega)
            have HK2 : Kp (∀ j v, (numsC c)[j]? = some v → j < 3 → okN v = true) := ⟨fun j v hv hj => by
              by_cases e : j = 2
              · subst e
                cases hv
                exact hk
              · exact HK.out j v hv (by omega)⟩
            clear hk
            go_wp2_with fail
            go_roundg 2
            case measure => omega
            case rel => exact ⟨3, rfl, by go_num, HK2, F⟩
      · by_cases v1 : c.frm < 0
        · obtain rfl : x = false := by
            rw [← HX.out]
            have : okN c.frm = false := decide_eq_false (by omega)
            simp [numsC, this]
          go_wp2_with fail
          go_ret
          exact ⟨rfl, F⟩
        · by_cases v2 : 2147483647 < c.frm
          · obtain rfl : x = false := by
              rw [← HX.out]
              have : okN c.frm = false := decide_eq_false (by omega)
              simp [numsC, this]
            go_wp2_with fail
            go_ret
            exact ⟨rfl, F⟩
          · have hk : okN c.frm = true := decide_eq_true (by omega)
            have HK2 : Kp (∀ j v, (numsC c)[j]? = some v → j < 4 → okN v = true) := ⟨fun j v hv hj => by
              by_cases e : j = 3
              · subst e
                cases hv
                exact hk
              · exact HK.out j v hv (by omega)⟩
            clear hk
            go_wp2_with fail
            go_roundg 1
            case measure => omega
            case rel => exact ⟨4, rfl, by go_num, HK2, F⟩
      · by_cases v1 : c.n < 0
        · obtain rfl : x = false := by
            rw [← HX.out]
            have : okN c.n = false := decide_eq_false (by omega)
            simp [numsC, this]
          go_wp2_with fail
          go_ret
          exact ⟨rfl, F⟩
        · by_cases v2 : 2147483647 < c.n
          · obtain rfl : x = false := by
              rw [← HX.out]
              have : okN c.n = false := decide_eq_false (by omega)
              simp [numsC, this]
            go_wp2_with fail
            go_ret
            exact ⟨rfl, F⟩
          · have hk : okN c.n = true := decide_eq_true (by omega)
            have HK2 : Kp (∀ j v, (numsC c)[j]? = some v → j < 5 → okN v = true) := ⟨fun j v hv hj => by
              by_cases e : j = 4
              · subst e
                cases hv
                exact hk
              · exact HK.out j v hv (by omega)⟩
            clear hk
            go_wp2_with fail
            go_roundg 0
            case measure => omega
            case rel => exact ⟨5, rfl, by go_num, HK2, F⟩
      · obtain rfl : x = true := by
          rw [← HX.out, List.all_eq_true]
          intro v hv
          obtain ⟨j, hj, e⟩ := List.mem_iff_getElem.1 hv
          exact HK.out j v (by rw [List.getElem?_eq_getElem hj, e]) (by simpa [numsC] using hj)
        go_wp2_with fail
        go_ret
        exact ⟨rfl, F⟩
  · obtain rfl : x = false := by
      rw [← hx, decide_eq_false (fun h => h5 h.2.2.2.2)]
      rfl
    clear hx h1 h2 h3 h4
    have EQ : Kp (∀ d w, (Op.equalIn (d + 2) 58 (cmV (onlyC c)) (cmV c)).run Try.prog w = .ok false w) := ⟨fun d w => by rw [eqCm, decide_eq_false h5]⟩
    go_enter Try.func43, Try.ntmps43
    go_wp2_with (first
      | ((with_reducible refine gate_dst (N := 1) rfl ?_); go_must (refine ev_box rfl 58 _ rfl _ rfl (cmL c) rfl ?_); intro g1 w1 hg1 f1 b1; have F := f1; have c0 := b1.at_ 0 rfl; have c1 := b1.at_ 1 rfl; have c2 := b1.at_ 2 rfl; have c3 := b1.at_ 3 rfl; have c4 := b1.at_ 4 rfl; have c5 := b1.at_ 5 rfl; have c6 := b1.at_ 6 rfl; have c7 := b1.at_ 7 rfl))
    clear c0 c1 c2 c3 c4 c5 c6 c7
    have fd := (Fr.refl No w1).drew
    refine region_quiet (C := fun w' => Blk w' g1 58 (cmL c) ∧ Fr No w1 w') (by kernel_rfl) (by kernel_rfl) ⟨b1.no fd, fd⟩ ?_
    iterate 26 (first
      | ((with_reducible refine gate_q (N := 27) rfl ?_); refine quiet_call (a' := ?_) Try.func64 (by kernel_rfl) rfl #[cmV c] (by rfl) rfl (by simp only [List.map_toArray, List.map_cons, List.map_nil]; rfl) (fun w' hC' => (CO.out w').mono (by rintro e w'' ⟨rfl, f⟩; exact ⟨rfl, hC'.1.no f, hC'.2.no f⟩)) ?_ ?_; rotate_left; (simp only [Act.put, List.setIfInBounds_toArray, List.set_cons_zero, List.set_cons_succ]; rfl))
      | ((with_reducible refine gate_q (N := 29) rfl ?_); go_must (refine quiet_val (v := .bool true) (a' := ?_) (by rfl) ?_ ?_ ?_; (focus (rintro w' ⟨s0, s1⟩; have c0 := s0.at_ 0 rfl; have c1 := s0.at_ 1 rfl; have c2 := s0.at_ 2 rfl; have c3 := s0.at_ 3 rfl; have c4 := s0.at_ 4 rfl; have c5 := s0.at_ 5 rfl; have c6 := s0.at_ 6 rfl; have c7 := s0.at_ 7 rfl; go_simp; intro e1 e2 e3 e4 e5 e6 e7 e8; exact h5 (cm_ext e1 e2 e3 e4 e5 e6 e7 e8)))); rotate_left; (simp only [Act.put, List.setIfInBounds_toArray, List.set_cons_zero, List.set_cons_succ]; rfl))
      | (go_big_quiet_step (fail))
      | (refine quiet_val (v := ?_) (a' := ?_) (by rfl) ?_ ?_ ?_; rotate_left; (focus (rintro w' ⟨s0, s1⟩; have c0 := s0.at_ 0 rfl; have c1 := s0.at_ 1 rfl; have c2 := s0.at_ 2 rfl; have c3 := s0.at_ 3 rfl; have c4 := s0.at_ 4 rfl; have c5 := s0.at_ 5 rfl; have c6 := s0.at_ 6 rfl; have c7 := s0.at_ 7 rfl; go_simp; first | done | with_reducible rfl)); rotate_left; (simp only [Act.put, List.setIfInBounds_toArray, List.set_cons_zero, List.set_cons_succ]; rfl)))
    refine wpQuiet_nil ?_
    rintro w' ⟨s0, fQ⟩
    go_wp2_with fail
    go_ret
    exact ⟨rfl, F.no fQ⟩
end Go.Proofs.Ytioohhekamjljaa.Wk

/- cmd.Print. No conditions beside those written out. -/
set_option linter.unusedSimpArgs false
set_option linter.unusedVariables false
namespace Go.Proofs.Ytioohhekamjljaa.Wk
open Go Go.RowKit Go.Proofs.YtioohhekamjljaaW.PrintWords Go.Proofs.YtioohhekamjljaaW.PrintLast Go.Proofs.Ytioohhekamjljaa.Ev Go.Proofs.Ytioohhekamjljaa.Reg Go.Proofs.Ytioohhekamjljaa.Sha Go.Proofs.Ytioohhekamjljaa.Sb Go.Proofs.Ytioohhekamjljaa.Crc Go.Proofs.Ytioohhekamjljaa.Wi

theorem infoB : (Try.prog.info? 5).map (fun i => (i.zero, i.size, i.bytes)) = some (some (.int .u8 0), 1, 1) := by kernel_rfl
theorem byte_all (l : B) : ∀ u ∈ l.map (fun b => Value.int .u8 b.toNat), u.oneCell' = true := by
  intro u hu
  obtain ⟨b, _, rfl⟩ := List.mem_map.1 hu
  rfl
/-- What the numbers so far are printed as. -/
def pbC (c : Cm) (i : Nat) : B := ((numsC c).take i).flatMap fun n => be4 n.toNat
theorem pbC_next {c : Cm} {i : Nat} {v : Int} (h : (numsC c)[i]? = some v) : pbC c (i + 1) = pbC c i ++ be4 v.toNat := by
  unfold pbC
  rw [List.take_add_one, h]
  simp
theorem pbC_five (c : Cm) : pbC c 5 = (numsC c).flatMap fun n => be4 n.toNat := rfl
set_option maxHeartbeats 8000000 in
set_option maxRecDepth 100000 in
theorem cprint_any (c : Cm) (w : World) : Calls Try.prog 29 #[cmV c] w fun e w' => e = .returned (.tuple #[.string (bs (if rightC c then printC c else [])), .int .i64 (if rightC c then 0 else 2)]) ∧ Fr No w w' := by
  cases hr : rightC c with
  | false =>
    have HR := Kp.mk hr
    clear hr
    rw [if_neg (by decide), if_neg (by decide)]
    go_enter Try.func29, Try.ntmps29
    go_wp2_with (first
      | ((with_reducible refine gate_dst (N := 1) rfl ?_); go_must (refine ev_box rfl 58 _ rfl _ rfl (cmL c) rfl ?_); intro g1 w1 hg1 f1 b1; have F := f1)
      | ((with_reducible refine gate_dst (N := 7) rfl ?_); go_must (refine ev_load_row rfl 58 _ rfl g1 rfl 58 _ b1 _ Try.underlying58 rfl sizeCmd ?_))
      | (go_at_call 43; go_must (refine (right_any c _).mono ?_); rintro e w2 ⟨rfl, f2⟩; rw [HR.out]; have b1 := b1.no f2; have F := F.no f2))
    go_ret2
    exact ⟨rfl, F⟩
  | true =>
    have R := (right_iff c).1 hr
    have hnm := R.nm
    have hdt := R.dt
    have HR := Kp.mk hr
    have HN := Kp.mk R.nums
    clear hr R
    rw [if_pos rfl, if_pos rfl]
    go_enter Try.func29, Try.ntmps29
    go_wp2_with (first
      | ((with_reducible refine gate_dst (N := 1) rfl ?_); go_must (refine ev_box rfl 58 _ rfl _ rfl (cmL c) rfl ?_); intro g1 w1 hg1 f1 b1; have F := f1)
      | ((with_reducible refine gate_dst (N := 7) rfl ?_); go_must (refine ev_load_row rfl 58 _ rfl g1 rfl 58 _ b1 _ Try.underlying58 rfl sizeCmd ?_))
      | (go_at_call 43; go_must (refine (right_any c _).mono ?_); rintro e w2 ⟨rfl, f2⟩; rw [HR.out]; have b1 := b1.no f2; have F := F.no f2)
      | ((with_reducible refine gate_dst (N := 10) rfl ?_); go_must (refine ev_load_row rfl 58 _ rfl g1 rfl 58 _ b1 _ Try.underlying58 rfl sizeCmd ?_))
      | (go_at_call 44; go_must (refine (values_any c _).mono ?_); rintro e w3 ⟨rfl, f3⟩; have b1 := b1.no f3; have F := F.no f3))
    have HG1 : Kp (∀ k, w3.heap.size ≤ k → ¬ g1 = k) := ⟨fun k hk e => by have := b1.lt; omega⟩
    have F0 := Kp.mk F
    clear F
    go_loopg [4, 12] 5 (fun gg v4 v12 wr => ∃ (i : Nat) (A : Option Addr) (cc : Nat), i + gg = 5 ∧ v4 = .slice A (4 * i) cc ∧ v12 = .int .i64 (i : Int) ∧ wr.ownsRow w3.heap.size 5 1 (.slice A (4 * i) cc) (4 * i) ((pbC c i).map fun b => Value.int .u8 b.toNat) ∧ Blk wr g1 58 (cmL c) ∧ Fr No w3 wr)
    case atStart => exact ⟨0, none, 0, rfl, rfl, rfl, ⟨rfl, .inl ⟨rfl, rfl⟩⟩, b1, Fr.refl _ _⟩
    case round =>
      obtain ⟨i, A, cc, hi, rfl, rfl, OW, b1, F⟩ := hrel
      by_cases h5 : i < 5
      · have h5z : (i : Int) < 5 := by omega
        obtain ⟨v, hv⟩ : ∃ v, (numsC c)[i]? = some v := ⟨_, List.getElem?_eq_getElem (by simpa [numsC] using h5)⟩
        have hvb := HN.out v (List.mem_of_getElem? hv)
        obtain ⟨V, rfl⟩ : ∃ V : Nat, v = V := ⟨v.toNat, by omega⟩
        have hV : V ≤ 2147483647 := by omega
        have hV0 : (0 : Int) ≤ (V : Int) := by omega
        have hV1 : (V : Int) ≤ 2147483647 := by omega
        have hnx := pbC_next hv
        rw [Int.toNat_natCast] at hnx
        have HX := Kp.mk hnx
        have hvs : (vsL c).toArray[i]? = some (.int .i64 (V : Int)) := by
          have : vsL c = (numsC c).map (Value.int .i64) := rfl
          rw [List.getElem?_toArray, this, List.getElem?_map, hv]
          rfl
        have xi := index_arr (cs := (vsL c).toArray) Try.underlying108 Try.underlying3 rfl sizeInt i (i : Int) rfl _ hvs h5
        have h4 : [Value.int .u8 ((V : Int) / 16777216), .int .u8 ((V : Int) / 65536 % 256), .int .u8 ((V : Int) / 256 % 256), .int .u8 ((V : Int) % 256)] = (be4 V).map fun b => Value.int .u8 b.toNat := by
          simp only [be4, List.map_cons, List.map_nil, ofNat_toNat]
          have e1 : ((V / 16777216 % 256 : Nat) : Int) = (V : Int) / 16777216 := by omega
          have e2 : ((V / 65536 % 256 : Nat) : Int) = (V : Int) / 65536 % 256 := by omega
          have e3 : ((V / 256 % 256 : Nat) : Int) = (V : Int) / 256 % 256 := by omega
          have e4 : ((V % 256 : Nat) : Int) = (V : Int) % 256 := by omega
          rw [e1, e2, e3, e4]
        have H4 := Kp.mk h4
        clear hv hvs hvb hnx h4
        go_wp2_with (first
          | ((with_reducible refine gate_dst (N := 27) rfl ?_); refine ev_lit rfl 5 [Value.int .u8 ((V : Int) / 16777216), .int .u8 ((V : Int) / 65536 % 256), .int .u8 ((V : Int) / 256 % 256), .int .u8 ((V : Int) % 256)] 4 (by first | (go_simp; done) | (go_simp; rfl)) ?_; intro g9 w9 hg9 f9 b9; rw [H4.out] at b9; have F := F.no f9; have b1 := b1.no f9; have OW := own_no OW f9)
          | ((with_reducible refine gate_dst (N := 28) rfl ?_); go_must (refine ev_append rfl _ _ 67 5 _ 1 1 rfl Try.underlying67 infoB rfl (by omega) (by omega) w3.heap.size _ (4 * i) _ rfl OW F.size ⟨g9, 0, none⟩ 4 4 ((be4 V).map fun b => Value.int .u8 b.toNat) rfl (by simp [be4]) (news_blk b9) (byte_all _) (by omega) ?_); intro A1 c1 wA OW1 fA hat; have b1 := b1.keep fA (fun hh => HG1.out _ (own_base OW g1 hh) rfl); have F := F.trans fA (fun i hi => .inr (own_base OW i hi))))
        rw [← List.map_append, ← HX.out] at OW1
        go_roundg (5 - (i + 1))
        case measure => omega
        case rel => exact ⟨i + 1, A1, c1, by omega, rfl, by go_num, OW1, b1, F⟩
      · obtain ⟨rfl, rfl⟩ : i = 5 ∧ gk = 0 := by omega
        have c6 := b1.at_ 6 rfl
        have h1 : [Value.int .u8 (c.name.length : Int)] = [UInt8.ofNat c.name.length].map fun b => Value.int .u8 b.toNat := by
          simp only [List.map_cons, List.map_nil, ofNat_toNat]
          have e1 : ((c.name.length % 256 : Nat) : Int) = (c.name.length : Int) := by omega
          rw [e1]
        have H1 := Kp.mk h1
        have hp5 : (pbC c 5).length = 20 := by simp [pbC_five, numsC, be4]
        obtain ⟨hd, hhd⟩ : ∃ hd, hd = pbC c 5 ++ [UInt8.ofNat c.name.length] := ⟨_, rfl⟩
        have hdl : hd.length = 21 := by rw [hhd, List.length_append, hp5]; rfl
        have z1 : (bs hd).size + (bs c.name).size ≤ 9223372036854775807 := by rw [bs_size, bs_size]; omega
        have z2 : hd.length + c.name.length ≤ 9223372036854775807 := by omega
        have z3 : (bs hd ++ bs c.name).size + (bs c.data).size ≤ 9223372036854775807 := by rw [bs_append, bs_size, bs_size, List.length_append]; omega
        have z4 : hd.length + c.name.length + c.data.length ≤ 9223372036854775807 := by omega
        have HH := Kp.mk hhd
        clear h1 hp5 hhd hdl
        go_wp2_with (first
          | ((with_reducible refine gate_dst (N := 35) rfl ?_); refine ev_lit rfl 5 [Value.int .u8 (c.name.length : Int)] 1 (by first | (go_simp; done) | (go_simp; rfl)) ?_; intro g9 w9 hg9 f9 b9; rw [H1.out] at b9; have F := F.no f9; have b1 := b1.no f9; have OW := own_no OW f9)
          | ((with_reducible refine gate_dst (N := 36) rfl ?_); go_must (refine ev_append rfl _ _ 67 5 _ 1 1 rfl Try.underlying67 infoB rfl (by omega) (by omega) w3.heap.size _ 20 _ rfl OW F.size ⟨g9, 0, none⟩ 1 1 ([UInt8.ofNat c.name.length].map fun b => Value.int .u8 b.toNat) rfl (by simp) (news_blk b9) (byte_all _) (by omega) ?_); intro A1 c1 wA OW1 fA hat; have b1 := b1.keep fA (fun hh => HG1.out _ (own_base OW g1 hh) rfl); have F := F.trans fA (fun i hi => .inr (own_base OW i hi)); have c6 := b1.at_ 6 rfl; have c7 := b1.at_ 7 rfl)
          | ((with_reducible refine gate_dst (N := 38) rfl ?_); rw [← List.map_append, ← HH.out] at OW1; go_must (refine ev_str rfl 67 9 5 (.tmp 37) rfl Try.underlying67 Try.underlying5 Try.underlying9 w3.heap.size _ 21 5 _ rfl OW1 ?_)))
        go_ret2
        have hfin : bs hd ++ bs c.name ++ bs c.data = bs (printC c) := by
          rw [bs_append, bs_append, HH.out, pbC_five]
          unfold printC
          simp
        exact ⟨by rw [← hfin]; rfl, F0.out.no F⟩
end Go.Proofs.Ytioohhekamjljaa.Wk

/- cmd.Parse. Conditions: sizes are bounded, as written out. -/
set_option linter.unusedSimpArgs false
set_option linter.unusedVariables false
namespace Go.Proofs.Ytioohhekamjljaa.Wk
open Go Go.RowKit Go.Proofs.YtioohhekamjljaaW.PrintWords Go.Proofs.YtioohhekamjljaaW.PrintLast Go.Proofs.Ytioohhekamjljaa.Ev Go.Proofs.Ytioohhekamjljaa.Reg Go.Proofs.Ytioohhekamjljaa.Sha Go.Proofs.Ytioohhekamjljaa.Sb Go.Proofs.Ytioohhekamjljaa.Crc Go.Proofs.Ytioohhekamjljaa.Wi

/-- The numbers as far as they are read. -/
def vsP (s : B) (i : Nat) : List Int := (List.range 5).map fun k => if k < i then numAt s k else 0
theorem vsP_len (s : B) (i : Nat) : (vsP s i).length = 5 := by simp [vsP]
theorem vsP_at (s : B) (i k : Nat) (h : k < 5) : (vsP s i)[k]? = some (if k < i then numAt s k else 0) := by
  unfold vsP
  rw [List.getElem?_map, List.getElem?_range h]
  rfl
theorem vsP_set0 (s : B) (i : Nat) : (vsP s i).set i 0 = vsP s i := by
  apply List.ext_getElem?
  intro k
  by_cases h : k < 5
  · rw [List.getElem?_set, vsP_at s i k h, vsP_len]
    by_cases e : i = k
    · subst e
      simp [h]
    · rw [if_neg e]
  · rw [List.getElem?_eq_none (by rw [List.length_set, vsP_len]; omega), List.getElem?_eq_none (by rw [vsP_len]; omega)]
theorem vsP_next (s : B) (i : Nat) : (vsP s i).set i (numAt s i) = vsP s (i + 1) := by
  apply List.ext_getElem?
  intro k
  by_cases h : k < 5
  · rw [List.getElem?_set, vsP_at s i k h, vsP_at s (i + 1) k h, vsP_len]
    by_cases e : i = k
    · subst e
      simp [h]
    · rw [if_neg e]
      by_cases e2 : k < i
      · rw [if_pos e2, if_pos (by omega)]
      · rw [if_neg e2, if_neg (by omega)]
  · rw [List.getElem?_eq_none (by rw [List.length_set, vsP_len]; omega), List.getElem?_eq_none (by rw [vsP_len]; omega)]
theorem beN_snoc (l : B) (b : UInt8) : beN (l ++ [b]) = beN l * 256 + b.toNat := by simp [beN]
theorem beN_lt3 : ∀ {l : B}, l.length ≤ 3 → beN l < 16777216
  | [], _ => by decide
  | [a], _ => by have := a.toNat_lt; simp [beN]; omega
  | [a, b], _ => by have := a.toNat_lt; have := b.toNat_lt; simp [beN]; omega
  | [a, b, c], _ => by have := a.toNat_lt; have := b.toNat_lt; have := c.toNat_lt; simp [beN]; omega
  | _ :: _ :: _ :: _ :: _, h => absurd h (by simp only [List.length_cons]; omega)
noncomputable def bodyCParse : Code := Try.f61.body.getD .skip
set_option maxHeartbeats 8000000 in
set_option maxRecDepth 100000 in
theorem cparse_one {W : World} {k : Int} {s q : B} {g4 g6 gb cb i : Nat} (u : Nat → Value) (hi : i < 5) (hq : q.length = 4) (b6 : Blk W g6 108 ((vsP s i).map (Value.int .i64))) (hb : ∀ j b, q[j]? = some b → W.cell? ⟨gb, j, none⟩ = some (.int .u8 (b.toNat : Int))) (hne : gb ≠ g6) (Q : Exit → Act → World → Prop)
    (hQ : ∀ (u : Nat → Value) ws, Fr (One g6) W ws → Blk ws g6 108 (((vsP s i).set i (beN q)).map (Value.int .i64)) → Q .normal { tmps := List.toArray (.int .i64 k :: .string (bs s) :: u 2 :: u 3 :: .pointer (some ⟨g4, 0, none⟩) :: u 5 :: .pointer (some ⟨g6, 0, none⟩) :: .int .i64 (i : Int) :: u 8 :: u 9 :: u 10 :: u 11 :: u 12 :: u 13 :: u 14 :: u 15 :: u 16 :: u 17 :: u 18 :: u 19 :: u 20 :: u 21 :: u 22 :: u 23 :: u 24 :: .int .i64 (i : Int) :: u 26 :: u 27 :: u 28 :: u 29 :: u 30 :: u 31 :: u 32 :: u 33 :: u 34 :: u 35 :: u 36 :: u 37 :: u 38 :: u 39 :: u 40 :: u 41 :: u 42 :: u 43 :: u 44 :: u 45 :: u 46 :: u 47 :: u 48 :: u 49 :: u 50 :: u 51 :: u 52 :: u 53 :: u 54 :: u 55 :: u 56 :: u 57 :: u 58 :: u 59 :: u 60 :: u 61 :: u 62 :: u 63 :: u 64 :: u 65 :: u 66 :: u 67 :: u 68 :: u 69 :: u 70 :: u 71 :: u 72 :: u 73 :: u 74 :: u 75 :: u 76 :: u 77 :: u 78 :: []), defers := [] } ws) :
    Code.wp Try.prog (sub [1,1,1,0,1,0,0,1,1,0,0,1,1] bodyCParse) Q { tmps := List.toArray (.int .i64 k :: .string (bs s) :: u 2 :: u 3 :: .pointer (some ⟨g4, 0, none⟩) :: u 5 :: .pointer (some ⟨g6, 0, none⟩) :: .int .i64 (i : Int) :: u 8 :: u 9 :: u 10 :: u 11 :: u 12 :: u 13 :: u 14 :: u 15 :: u 16 :: u 17 :: u 18 :: u 19 :: u 20 :: u 21 :: u 22 :: u 23 :: u 24 :: .int .i64 (i : Int) :: u 26 :: u 27 :: u 28 :: u 29 :: u 30 :: u 31 :: u 32 :: u 33 :: u 34 :: .slice (some ⟨gb, 0, none⟩) 4 cb :: .int .i64 4 :: .int .i64 0 :: u 38 :: u 39 :: u 40 :: u 41 :: u 42 :: u 43 :: u 44 :: u 45 :: u 46 :: u 47 :: u 48 :: u 49 :: u 50 :: u 51 :: u 52 :: u 53 :: u 54 :: u 55 :: u 56 :: u 57 :: u 58 :: u 59 :: u 60 :: u 61 :: u 62 :: u 63 :: u 64 :: u 65 :: u 66 :: u 67 :: u 68 :: u 69 :: u 70 :: u 71 :: u 72 :: u 73 :: u 74 :: u 75 :: u 76 :: u 77 :: u 78 :: []), defers := [] } W := by
  conv => arg 2; whnf
  have HQ := Kp.mk hQ
  have HB := Kp.mk hb
  have HL := Kp.mk hq
  clear hQ hb hq
  refine wp_block ?_
  refine wp_loop_ghost_k (fun n a' w' => ∃ (j : Nat) (u : Nat → Value), (n + j = 4 ∧ Fr (One g6) W w' ∧ Blk w' g6 108 (((vsP s i).set i (beN (q.take j))).map (Value.int .i64))) ∧ a' = { tmps := List.toArray (.int .i64 k :: .string (bs s) :: u 2 :: u 3 :: .pointer (some ⟨g4, 0, none⟩) :: u 5 :: .pointer (some ⟨g6, 0, none⟩) :: .int .i64 (i : Int) :: u 8 :: u 9 :: u 10 :: u 11 :: u 12 :: u 13 :: u 14 :: u 15 :: u 16 :: u 17 :: u 18 :: u 19 :: u 20 :: u 21 :: u 22 :: u 23 :: u 24 :: .int .i64 (i : Int) :: u 26 :: u 27 :: u 28 :: u 29 :: u 30 :: u 31 :: u 32 :: u 33 :: u 34 :: .slice (some ⟨gb, 0, none⟩) 4 cb :: .int .i64 4 :: .int .i64 (j : Int) :: u 38 :: u 39 :: u 40 :: u 41 :: u 42 :: u 43 :: u 44 :: u 45 :: u 46 :: u 47 :: u 48 :: u 49 :: u 50 :: u 51 :: u 52 :: u 53 :: u 54 :: u 55 :: u 56 :: u 57 :: u 58 :: u 59 :: u 60 :: u 61 :: u 62 :: u 63 :: u 64 :: u 65 :: u 66 :: u 67 :: u 68 :: u 69 :: u 70 :: u 71 :: u 72 :: u 73 :: u 74 :: u 75 :: u 76 :: u 77 :: u 78 :: []), defers := [] }) 4
    ⟨0, u, ⟨rfl, Fr.refl _ _, by rw [List.take_zero, show (((beN [] : Nat)) : Int) = 0 from rfl, vsP_set0]; exact b6⟩, rfl⟩ ?_
  clear b6
  rintro n a' w' ⟨j, u, ⟨hn, f, bl⟩, rfl⟩ J K hJ hK
  have HJ := Kp.mk hJ
  have HK := Kp.mk hK
  have F := Kp.mk f
  have HN := Kp.mk hn
  clear hJ hK f
  by_cases hlt : j < 4
  · have hltz : (j : Int) < 4 := by omega
    obtain ⟨b, hb⟩ : ∃ b, q[j]? = some b := ⟨_, List.getElem?_eq_getElem (by rw [HL.out]; exact hlt)⟩
    have l1 := Fr.cell (HB.out j b hb) F.out (fun h => hne h)
    have hx3 : beN (q.take j) < 16777216 := beN_lt3 (by rw [List.length_take]; omega)
    have hnx : beN (q.take (j + 1)) = beN (q.take j) * 256 + b.toNat := by rw [List.take_add_one, hb]; exact beN_snoc _ _
    have HX := Kp.mk hnx
    have BL := Kp.mk bl
    obtain ⟨x, hx⟩ : ∃ x, beN (q.take j) = x := ⟨_, rfl⟩
    rw [hx] at hx3 bl
    have HXX := Kp.mk hx
    have hbn := b.toNat_lt
    have c1 := bl.at_ i (v := .int .i64 (x : Int)) (by rw [List.getElem?_map, List.getElem?_set, if_pos rfl, vsP_len, if_pos hi]; rfl)
    have hm : IntKind.i64.wrap ((x : Int) * 256) = (x : Int) * 256 := wraps_i64 _ (by omega) (by omega)
    have ho : bits BinOp.or IntKind.i64 ((x : Int) * 256) (b.toNat : Int) = (x : Int) * 256 + (b.toNat : Int) := i64_or8 _ _ (by omega) (by omega) (by omega) (by omega) (by omega)
    have hw : IntKind.i64.wrap (b.toNat : Int) = (b.toNat : Int) := wraps_i64 _ (by omega) (by omega)
    have hi0 : (0 : Int) ≤ (i : Int) := by omega
    have hi5 : (i : Int) < 5 := by omega
    have hj0 : (0 : Int) ≤ (j : Int) := by omega
    clear hx hnx hb hn
    go_wp2_with ((with_reducible refine gate_store (t := 3) (p := 49) rfl ?_); go_must (refine ev_store rfl 3 _ _ rfl g6 i (.int .i64 ((x : Int) * 256 + (b.toNat : Int))) rfl rfl rfl 108 _ bl (by rw [List.length_map, List.length_set, vsP_len]; exact hi) sizeInt ?_); intro wE fE bE)
    have bE' : Blk wE g6 108 (((vsP s i).set i (beN (q.take (j + 1)))).map (Value.int .i64)) := by
      rw [← List.map_set, List.set_set] at bE
      rw [HX.out, HXX.out]
      exact bE
    refine HK.out _ _ (Handed.intro (n - 1) (by have := HN.out; omega) (HJ.out _ _ _ ⟨j + 1, ex_u ⟨by have := HN.out; omega, F.out.one fE (.inl rfl), bE'⟩ rfl⟩))
  · obtain rfl : j = 4 := by have := HN.out; omega
    rw [List.take_of_length_le (by rw [HL.out]; exact Nat.le_refl _)] at bl
    clear hn
    go_wp2_with fail
    exact K_u (K := Q .normal) (fun u => HQ.out u _ F.out bl) rfl

set_option maxHeartbeats 8000000 in
set_option maxRecDepth 100000 in
theorem cparse_loop {W : World} {k : Int} {s : B} {g4 g6 : Nat} (u : Nat → Value) (hs : 21 ≤ s.length) (hl : s.length ≤ 1073741824) (b6 : Blk W g6 108 ((vsP s 0).map (Value.int .i64))) (Q : Exit → Act → World → Prop)
    (hQ : ∀ (u : Nat → Value) ws, Fr (One g6) W ws → Blk ws g6 108 ((vsP s 5).map (Value.int .i64)) → Q .normal { tmps := List.toArray (.int .i64 k :: .string (bs s) :: u 2 :: u 3 :: .pointer (some ⟨g4, 0, none⟩) :: u 5 :: .pointer (some ⟨g6, 0, none⟩) :: u 7 :: u 8 :: u 9 :: u 10 :: u 11 :: u 12 :: u 13 :: u 14 :: u 15 :: u 16 :: u 17 :: u 18 :: u 19 :: u 20 :: u 21 :: u 22 :: u 23 :: u 24 :: u 25 :: u 26 :: u 27 :: u 28 :: u 29 :: u 30 :: u 31 :: u 32 :: u 33 :: u 34 :: u 35 :: u 36 :: u 37 :: u 38 :: u 39 :: u 40 :: u 41 :: u 42 :: u 43 :: u 44 :: u 45 :: u 46 :: u 47 :: u 48 :: u 49 :: u 50 :: u 51 :: u 52 :: u 53 :: u 54 :: u 55 :: u 56 :: u 57 :: u 58 :: u 59 :: u 60 :: u 61 :: u 62 :: u 63 :: u 64 :: u 65 :: u 66 :: u 67 :: u 68 :: u 69 :: u 70 :: u 71 :: u 72 :: u 73 :: u 74 :: u 75 :: u 76 :: u 77 :: u 78 :: []), defers := [] } ws) :
    Code.wp Try.prog (sub [1,1,1,0,1] bodyCParse) Q { tmps := List.toArray (.int .i64 k :: .string (bs s) :: u 2 :: u 3 :: .pointer (some ⟨g4, 0, none⟩) :: u 5 :: .pointer (some ⟨g6, 0, none⟩) :: u 7 :: u 8 :: u 9 :: u 10 :: u 11 :: u 12 :: u 13 :: u 14 :: u 15 :: u 16 :: u 17 :: u 18 :: u 19 :: u 20 :: u 21 :: u 22 :: u 23 :: u 24 :: .int .i64 0 :: u 26 :: u 27 :: u 28 :: u 29 :: u 30 :: u 31 :: u 32 :: u 33 :: u 34 :: u 35 :: u 36 :: u 37 :: u 38 :: u 39 :: u 40 :: u 41 :: u 42 :: u 43 :: u 44 :: u 45 :: u 46 :: u 47 :: u 48 :: u 49 :: u 50 :: u 51 :: u 52 :: u 53 :: u 54 :: u 55 :: u 56 :: u 57 :: u 58 :: u 59 :: u 60 :: u 61 :: u 62 :: u 63 :: u 64 :: u 65 :: u 66 :: u 67 :: u 68 :: u 69 :: u 70 :: u 71 :: u 72 :: u 73 :: u 74 :: u 75 :: u 76 :: u 77 :: u 78 :: []), defers := [] } W := by
  conv => arg 2; whnf
  have HQ := Kp.mk hQ
  have HS := Kp.mk hs
  have HLL := Kp.mk hl
  clear hQ hs hl
  refine wp_block ?_
  refine wp_loop_ghost_k (fun n a' w' => ∃ (i : Nat) (u : Nat → Value), (n + i = 5 ∧ Fr (One g6) W w' ∧ Blk w' g6 108 ((vsP s i).map (Value.int .i64))) ∧ a' = { tmps := List.toArray (.int .i64 k :: .string (bs s) :: u 2 :: u 3 :: .pointer (some ⟨g4, 0, none⟩) :: u 5 :: .pointer (some ⟨g6, 0, none⟩) :: u 7 :: u 8 :: u 9 :: u 10 :: u 11 :: u 12 :: u 13 :: u 14 :: u 15 :: u 16 :: u 17 :: u 18 :: u 19 :: u 20 :: u 21 :: u 22 :: u 23 :: u 24 :: .int .i64 (i : Int) :: u 26 :: u 27 :: u 28 :: u 29 :: u 30 :: u 31 :: u 32 :: u 33 :: u 34 :: u 35 :: u 36 :: u 37 :: u 38 :: u 39 :: u 40 :: u 41 :: u 42 :: u 43 :: u 44 :: u 45 :: u 46 :: u 47 :: u 48 :: u 49 :: u 50 :: u 51 :: u 52 :: u 53 :: u 54 :: u 55 :: u 56 :: u 57 :: u 58 :: u 59 :: u 60 :: u 61 :: u 62 :: u 63 :: u 64 :: u 65 :: u 66 :: u 67 :: u 68 :: u 69 :: u 70 :: u 71 :: u 72 :: u 73 :: u 74 :: u 75 :: u 76 :: u 77 :: u 78 :: []), defers := [] }) 5
    ⟨0, u, ⟨rfl, Fr.refl _ _, b6⟩, rfl⟩ ?_
  clear b6
  rintro n a' w' ⟨i, u, ⟨hn, f, bl⟩, rfl⟩ J K hJ hK
  have HJ := Kp.mk hJ
  have HK := Kp.mk hK
  have F := Kp.mk f
  have HN := Kp.mk hn
  clear hJ hK f
  by_cases hlt : i < 5
  · have hltz : (i : Int) < 5 := by omega
    obtain ⟨q, hq⟩ : ∃ q, (s.drop (4 * i)).take 4 = q := ⟨_, rfl⟩
    have hql : q.length = 4 := by rw [← hq]; simp; have := HS.out; omega
    have S1 := sl_mid s (4 * i) (4 * i + 4) (4 * (i : Int)) (4 * (i : Int) + 4) (by omega) (by omega) (by omega) (by have := HS.out; omega)
    rw [show 4 * i + 4 - 4 * i = 4 by omega, hq] at S1
    have hi0 : (0 : Int) ≤ (i : Int) := by omega
    have hi5 : i < 5 := hlt
    have hqz : (bs q).size = 4 := by rw [bs_size, hql]
    have HN6 : Kp (beN q = numAt s i) := ⟨by rw [← hq]; rfl⟩
    have HQQ := Kp.mk hql
    have HQZ := Kp.mk hqz
    have BL := Kp.mk bl
    clear hq hn hql hqz bl
    go_upto_block 2 with ((with_reducible refine gate_dst (N := 35) rfl ?_); refine ev_bytes rfl 9 67 (.tmp 34) rfl (bs q) rfl 5 Try.underlying9 Try.underlying67 Try.underlying5 ?_; rw [HQZ.out]; intro gb cb w1 hgb hgb2 hcb f1 cbs)
    have hne : gb ≠ g6 := fun e => by have := BL.out.lt; omega
    have hbs : ∀ j b, q[j]? = some b → w1.cell? ⟨gb, j, none⟩ = some (.int .u8 (b.toNat : Int)) := fun j b hj => by
      have hlt := (List.getElem?_eq_some_iff.1 hj).1
      rw [cbs j (by rw [← HQQ.out]; exact hlt)]
      unfold bAt
      rw [show (bs q).data.toList = q from by simp [bs], List.getD_eq_getElem?_getD, hj]
      rfl
    have b6 := Kp.mk (BL.out.no f1)
    have HBS := Kp.mk hbs
    have F1 := Kp.mk f1
    clear cbs hbs f1 S1
    refine wp_u (fun u => cparse_one u hi5 HQQ.out b6.out HBS.out hne _ ?_) rfl
    intro u ws f2 b2
    rw [HN6.out, vsP_next] at b2
    (try simp only [Exit.then])
    refine ‹∀ (a : Act) (w : World), Code.wp Try.prog _ _ a w → _› _ _ ?_
    go_wp2_with fail
    refine HK.out _ _ (Handed.intro (n - 1) (by have := HN.out; omega) (HJ.out _ _ _ ⟨i + 1, ex_u ⟨by have := HN.out; omega, (F.out.no F1.out).one f2 (.inl rfl), b2⟩ rfl⟩))
  · obtain rfl : i = 5 := by have := HN.out; omega
    clear hn
    go_wp2_with fail
    exact K_u (K := Q .normal) (fun u => HQ.out u _ F.out bl) rfl

set_option maxHeartbeats 8000000 in
set_option maxRecDepth 100000 in
theorem cparse_any (k : Int) (s : B) (hl : s.length ≤ 1073741824) (W : World) : Calls Try.prog 61 #[.int .i64 k, .string (bs s)] W fun e w' => e = .returned (.tuple #[cmV ((parseC k s).getD ⟨0, 0, 0, 0, 0, 0, [], []⟩), .int .i64 (if (parseC k s).isSome then 0 else 2)]) ∧ Fr No W w' := by
  obtain ⟨R, hR⟩ : ∃ R, parseC k s = R := ⟨_, rfl⟩
  rw [hR]
  unfold parseC at hR
  have hsz : (bs s).size = s.length := bs_size s
  by_cases h1 : s.length < 21
  · rw [if_pos h1] at hR
    subst hR
    have h1z : decide ((s.length : Int) < 21) = true := decide_eq_true (by omega)
    clear h1
    go_enter Try.func61, Try.ntmps61
    go_wp2_with (first
      | ((with_reducible refine gate_dst (N := 4) rfl ?_); go_must (refine ev_alloc rfl 58 rfl _ (cmL ⟨0, 0, 0, 0, 0, 0, [], []⟩) zeroCmd rfl ?_); intro g4 w4 hg4 f4 b4; have F := f4)
      | ((with_reducible refine gate_store (t := 58) (p := 4) rfl ?_); go_must (refine ev_store_row rfl 58 _ _ rfl g4 (cmL ⟨0, 0, 0, 0, 0, 0, [], []⟩).toArray rfl rfl 58 _ b4 sizeCmd rfl (cmL_one _) ?_); intro wZ fZ bZ; have F := F.one fZ (.inr hg4)))
    (refine bodyPost_ret (results_row_tmp rfl _ _ g4 _ _ _ rfl bZ Try.underlying58 rfl sizeCmd) rfl ⟨rfl, F⟩)
  rw [if_neg h1] at hR
  obtain ⟨m, hm⟩ : ∃ m, (s[20]?.getD 0).toNat = m := ⟨_, rfl⟩
  obtain ⟨b, hb⟩ : ∃ b, s[20]? = some b := ⟨_, List.getElem?_eq_getElem (by omega)⟩
  have i20 := idx_any s 20 b 20 rfl hb
  have hbn := b.toNat_lt
  have hmb : b.toNat = m := by rw [← hm, hb]; rfl
  have hw : IntKind.i64.wrap (b.toNat : Int) = (m : Int) := by rw [hmb]; exact wraps_i64 _ (by omega) (by omega)
  have h1z : decide ((s.length : Int) < 21) = false := decide_eq_false (by omega)
  have hm2 : m < 256 := by omega
  dsimp only at hR
  rw [hm] at hR
  clear hb hm
  by_cases h2 : s.length < 21 + m
  · rw [if_pos h2] at hR
    subst hR
    have h2z : decide ((s.length : Int) < 21 + (m : Int)) = true := decide_eq_true (by omega)
    clear h1 h2 hmb
    go_enter Try.func61, Try.ntmps61
    go_wp2_with (first
      | ((with_reducible refine gate_dst (N := 4) rfl ?_); go_must (refine ev_alloc rfl 58 rfl _ (cmL ⟨0, 0, 0, 0, 0, 0, [], []⟩) zeroCmd rfl ?_); intro g4 w4 hg4 f4 b4; have F := f4)
      | ((with_reducible refine gate_store (t := 58) (p := 4) rfl ?_); go_must (refine ev_store_row rfl 58 _ _ rfl g4 (cmL ⟨0, 0, 0, 0, 0, 0, [], []⟩).toArray rfl rfl 58 _ b4 sizeCmd rfl (cmL_one _) ?_); intro wZ fZ bZ; have F := F.one fZ (.inr hg4)))
    (refine bodyPost_ret (results_row_tmp rfl _ _ g4 _ _ _ rfl bZ Try.underlying58 rfl sizeCmd) rfl ⟨rfl, F⟩)
  rw [if_neg h2] at hR
  have h2z : decide ((s.length : Int) < 21 + (m : Int)) = false := decide_eq_false (by omega)
  have HB := Kp.mk hmb
  have H1 := Kp.mk h1
  have H2 := Kp.mk h2
  have HR := Kp.mk hR
  clear h1 h2 hmb hR
  go_enter Try.func61, Try.ntmps61
  go_upto_block 0 with (first
    | ((with_reducible refine gate_dst (N := 4) rfl ?_); go_must (refine ev_alloc rfl 58 rfl _ (cmL ⟨0, 0, 0, 0, 0, 0, [], []⟩) zeroCmd rfl ?_); intro g4 w4 hg4 f4 b4; have F := f4)
    | ((with_reducible refine gate_store (t := 58) (p := 4) rfl ?_); go_must (refine ev_store_row rfl 58 _ _ rfl g4 (cmL ⟨0, 0, 0, 0, 0, 0, [], []⟩).toArray rfl rfl 58 _ b4 sizeCmd rfl (cmL_one _) ?_); intro wZ fZ bZ; have F := F.one fZ (.inr hg4))
    | ((with_reducible refine gate_dst (N := 6) rfl ?_); go_must (refine ev_alloc rfl 108 rfl _ [.int .i64 0, .int .i64 0, .int .i64 0, .int .i64 0, .int .i64 0] zeroFive rfl ?_); intro g6 w6 hg6 f6 b6; have h46 : g4 < g6 := Nat.lt_of_lt_of_le b4.lt hg6; have b4 := b4.no f6; have hW6 : W.heap.size ≤ g6 := Nat.le_trans F.size hg6; have F := F.no f6))
  have b6' : Blk w6 g6 108 ((vsP s 0).map (Value.int .i64)) := b6
  have B4 := Kp.mk b4
  have FF := Kp.mk F
  clear b6 b4 F
  refine wp_u (fun u => cparse_loop u (by have := H1.out; omega) hl b6' _ ?_) rfl
  clear b6'
  intro u ws fl bl
  (try simp only [Exit.then])
  refine ‹∀ (a : Act) (w : World), Code.wp Try.prog _ _ a w → _› _ _ ?_
  have b4 := B4.out.one fl (Nat.ne_of_lt h46)
  have F := FF.out.one fl (.inr hW6)
  obtain ⟨C, hC⟩ : ∃ C : Cm, C = ⟨k, numAt s 0, numAt s 1, numAt s 2, numAt s 3, numAt s 4, (s.drop 21).take m, s.drop (21 + m)⟩ := ⟨_, rfl⟩
  have bl : Blk ws g6 108 (vsL C) := by rw [hC]; exact bl
  have S1 := sl_mid s 21 (21 + m) 21 (21 + (m : Int)) rfl (by omega) (by omega) (by have := H2.out; omega)
  rw [show (s.drop 21).take (21 + m - 21) = C.name by rw [hC, show 21 + m - 21 = m by omega]] at S1
  have S2 := sl_from s (21 + m) (21 + (m : Int)) (by omega) (by have := H2.out; omega)
  rw [show s.drop (21 + m) = C.data by rw [hC]] at S2
  have HRC : Kp ((if rightC C = true then some C else none) = R) := ⟨by rw [hC]; exact HR.out⟩
  obtain rfl : k = C.kind := by rw [hC]
  have HCC := Kp.mk hC
  clear hC
  go_wp2_with fail
  refine start_ (n := 20) (S := (fun w'' : World => Blk w'' g6 108 (vsL C))) (ds := [19]) #[false, false, false, false, false, false, false, false, false, false, false, false, false, false, false, false, false, false, false, false] (by kernel_rfl) rfl rfl (blk_drew bl) (fun hHeld => ?_)
  refine pure_ (i := 0) (N := some 56) (v := ?_) (a' := ?_) #[true, false, false, false, false, false, false, false, false, false, false, false, false, false, false, false, false, false, false, false] rfl rfl (by kernel_rfl) (fun _ _ _ h => h) (Or.inl ⟨by rfl, ?_⟩) ?_ ?_
  rotate_left
  · intro w'; go_simp; with_reducible rfl
  rotate_left
  · simp only [Act.put, List.setIfInBounds_toArray, List.set_cons_zero, List.set_cons_succ]; rfl
  refine pure_ (i := 1) (N := some 57) (v := ?_) (a' := ?_) #[true, true, false, false, false, false, false, false, false, false, false, false, false, false, false, false, false, false, false, false] rfl rfl (by kernel_rfl) (fun _ _ _ h => h) (Or.inl ⟨by rfl, ?_⟩) ?_ ?_
  rotate_left
  · intro w'; go_simp; with_reducible rfl
  rotate_left
  · simp only [Act.put, List.setIfInBounds_toArray, List.set_cons_zero, List.set_cons_succ]; rfl
  refine pure_ (i := 3) (N := some 59) (v := ?_) (a' := ?_) #[true, true, false, true, false, false, false, false, false, false, false, false, false, false, false, false, false, false, false, false] rfl rfl (by kernel_rfl) (fun _ _ _ h => h) (Or.inl ⟨by rfl, ?_⟩) ?_ ?_
  rotate_left
  · intro w'; go_simp; with_reducible rfl
  rotate_left
  · simp only [Act.put, List.setIfInBounds_toArray, List.set_cons_zero, List.set_cons_succ]; rfl
  refine pure_ (i := 5) (N := some 61) (v := ?_) (a' := ?_) #[true, true, false, true, false, true, false, false, false, false, false, false, false, false, false, false, false, false, false, false] rfl rfl (by kernel_rfl) (fun _ _ _ h => h) (Or.inl ⟨by rfl, ?_⟩) ?_ ?_
  rotate_left
  · intro w'; go_simp; with_reducible rfl
  rotate_left
  · simp only [Act.put, List.setIfInBounds_toArray, List.set_cons_zero, List.set_cons_succ]; rfl
  refine pure_ (i := 7) (N := some 63) (v := ?_) (a' := ?_) #[true, true, false, true, false, true, false, true, false, false, false, false, false, false, false, false, false, false, false, false] rfl rfl (by kernel_rfl) (fun _ _ _ h => h) (Or.inl ⟨by rfl, ?_⟩) ?_ ?_
  rotate_left
  · intro w'; go_simp; with_reducible rfl
  rotate_left
  · simp only [Act.put, List.setIfInBounds_toArray, List.set_cons_zero, List.set_cons_succ]; rfl
  refine pure_ (i := 9) (N := some 65) (v := ?_) (a' := ?_) #[true, true, false, true, false, true, false, true, false, true, false, false, false, false, false, false, false, false, false, false] rfl rfl (by kernel_rfl) (fun _ _ _ h => h) (Or.inl ⟨by rfl, ?_⟩) ?_ ?_
  rotate_left
  · intro w'; go_simp; with_reducible rfl
  rotate_left
  · simp only [Act.put, List.setIfInBounds_toArray, List.set_cons_zero, List.set_cons_succ]; rfl
  refine pure_ (i := 11) (N := some 67) (v := ?_) (a' := ?_) #[true, true, false, true, false, true, false, true, false, true, false, true, false, false, false, false, false, false, false, false] rfl rfl (by kernel_rfl) (fun _ _ _ h => h) (Or.inl ⟨by rfl, ?_⟩) ?_ ?_
  rotate_left
  · intro w'; go_simp; with_reducible rfl
  rotate_left
  · simp only [Act.put, List.setIfInBounds_toArray, List.set_cons_zero, List.set_cons_succ]; rfl
  refine pure_ (i := 12) (N := some 68) (v := ?_) (a' := ?_) #[true, true, false, true, false, true, false, true, false, true, false, true, true, false, false, false, false, false, false, false] rfl rfl (by kernel_rfl) (fun _ _ _ h => h) (Or.inl ⟨by rfl, ?_⟩) ?_ ?_
  rotate_left
  · intro w'; go_simp; with_reducible rfl
  rotate_left
  · simp only [Act.put, List.setIfInBounds_toArray, List.set_cons_zero, List.set_cons_succ]; rfl
  refine pure_ (i := 13) (N := some 69) (v := ?_) (a' := ?_) #[true, true, false, true, false, true, false, true, false, true, false, true, true, true, false, false, false, false, false, false] rfl rfl (by kernel_rfl) (fun _ _ _ h => h) (Or.inl ⟨by rfl, ?_⟩) ?_ ?_
  rotate_left
  · intro w'; go_simp; with_reducible rfl
  rotate_left
  · simp only [Act.put, List.setIfInBounds_toArray, List.set_cons_zero, List.set_cons_succ]; rfl
  refine pure_ (i := 14) (N := some 70) (v := ?_) (a' := ?_) #[true, true, false, true, false, true, false, true, false, true, false, true, true, true, true, false, false, false, false, false] rfl rfl (by kernel_rfl) (fun _ _ _ h => h) (Or.inl ⟨by rfl, ?_⟩) ?_ ?_
  rotate_left
  · intro w'; go_simp; with_reducible rfl
  rotate_left
  · simp only [Act.put, List.setIfInBounds_toArray, List.set_cons_zero, List.set_cons_succ]; rfl
  refine pure_ (i := 15) (N := some 71) (v := ?_) (a' := ?_) #[true, true, false, true, false, true, false, true, false, true, false, true, true, true, true, true, false, false, false, false] rfl rfl (by kernel_rfl) (fun _ _ _ h => h) (Or.inl ⟨by rfl, ?_⟩) ?_ ?_
  rotate_left
  · intro w'; go_simp; with_reducible rfl
  rotate_left
  · simp only [Act.put, List.setIfInBounds_toArray, List.set_cons_zero, List.set_cons_succ]; rfl
  refine pure_ (i := 16) (N := some 72) (v := ?_) (a' := ?_) #[true, true, false, true, false, true, false, true, false, true, false, true, true, true, true, true, true, false, false, false] rfl rfl (by kernel_rfl) (fun _ _ _ h => h) (Or.inl ⟨by rfl, ?_⟩) ?_ ?_
  rotate_left
  · intro w'; go_simp; with_reducible rfl
  rotate_left
  · simp only [Act.put, List.setIfInBounds_toArray, List.set_cons_zero, List.set_cons_succ]; rfl
  refine take_ (i := 2) (N := some 58) (v := ?_) (a' := ?_) #[true, true, true, true, false, true, false, true, false, true, false, true, true, true, true, true, true, false, false, false] rfl rfl (by kernel_rfl) (fun _ _ _ h => h) (Or.inl ⟨by rfl, ?_⟩) hHeld ?_ ?_
  rotate_left
  · rintro w' s0; have q0 := s0.at_ 0 rfl; have q1 := s0.at_ 1 rfl; have q2 := s0.at_ 2 rfl; have q3 := s0.at_ 3 rfl; have q4 := s0.at_ 4 rfl; go_simp; with_reducible rfl
  rotate_left
  · simp only [Act.put, List.setIfInBounds_toArray, List.set_cons_zero, List.set_cons_succ]; rfl
  refine take_ (i := 4) (N := some 60) (v := ?_) (a' := ?_) #[true, true, true, true, true, true, false, true, false, true, false, true, true, true, true, true, true, false, false, false] rfl rfl (by kernel_rfl) (fun _ _ _ h => h) (Or.inl ⟨by rfl, ?_⟩) hHeld ?_ ?_
  rotate_left
  · rintro w' s0; have q0 := s0.at_ 0 rfl; have q1 := s0.at_ 1 rfl; have q2 := s0.at_ 2 rfl; have q3 := s0.at_ 3 rfl; have q4 := s0.at_ 4 rfl; go_simp; with_reducible rfl
  rotate_left
  · simp only [Act.put, List.setIfInBounds_toArray, List.set_cons_zero, List.set_cons_succ]; rfl
  refine take_ (i := 6) (N := some 62) (v := ?_) (a' := ?_) #[true, true, true, true, true, true, true, true, false, true, false, true, true, true, true, true, true, false, false, false] rfl rfl (by kernel_rfl) (fun _ _ _ h => h) (Or.inl ⟨by rfl, ?_⟩) hHeld ?_ ?_
  rotate_left
  · rintro w' s0; have q0 := s0.at_ 0 rfl; have q1 := s0.at_ 1 rfl; have q2 := s0.at_ 2 rfl; have q3 := s0.at_ 3 rfl; have q4 := s0.at_ 4 rfl; go_simp; with_reducible rfl
  rotate_left
  · simp only [Act.put, List.setIfInBounds_toArray, List.set_cons_zero, List.set_cons_succ]; rfl
  refine take_ (i := 8) (N := some 64) (v := ?_) (a' := ?_) #[true, true, true, true, true, true, true, true, true, true, false, true, true, true, true, true, true, false, false, false] rfl rfl (by kernel_rfl) (fun _ _ _ h => h) (Or.inl ⟨by rfl, ?_⟩) hHeld ?_ ?_
  rotate_left
  · rintro w' s0; have q0 := s0.at_ 0 rfl; have q1 := s0.at_ 1 rfl; have q2 := s0.at_ 2 rfl; have q3 := s0.at_ 3 rfl; have q4 := s0.at_ 4 rfl; go_simp; with_reducible rfl
  rotate_left
  · simp only [Act.put, List.setIfInBounds_toArray, List.set_cons_zero, List.set_cons_succ]; rfl
  refine take_ (i := 10) (N := some 66) (v := ?_) (a' := ?_) #[true, true, true, true, true, true, true, true, true, true, true, true, true, true, true, true, true, false, false, false] rfl rfl (by kernel_rfl) (fun _ _ _ h => h) (Or.inl ⟨by rfl, ?_⟩) hHeld ?_ ?_
  rotate_left
  · rintro w' s0; have q0 := s0.at_ 0 rfl; have q1 := s0.at_ 1 rfl; have q2 := s0.at_ 2 rfl; have q3 := s0.at_ 3 rfl; have q4 := s0.at_ 4 rfl; go_simp; with_reducible rfl
  rotate_left
  · simp only [Act.put, List.setIfInBounds_toArray, List.set_cons_zero, List.set_cons_succ]; rfl
  refine pure_ (i := 17) (N := some 73) (v := ?_) (a' := ?_) #[true, true, true, true, true, true, true, true, true, true, true, true, true, true, true, true, true, true, false, false] rfl rfl (by kernel_rfl) (fun _ _ _ h => h) (Or.inl ⟨by rfl, ?_⟩) ?_ ?_
  rotate_left
  · intro w'; go_simp; with_reducible rfl
  rotate_left
  · simp only [Act.put, List.setIfInBounds_toArray, List.set_cons_zero, List.set_cons_succ]; rfl
  refine one_ (i := 18) (N := some 11) #[true, true, true, true, true, true, true, true, true, true, true, true, true, true, true, true, true, true, true, false] rfl rfl (by kernel_rfl) (by decide) (fun K hK => ?_)
  refine step_alloc (N := some 11) rfl rfl 58 rfl _ (cmL ⟨0, 0, 0, 0, 0, 0, [], []⟩) zeroCmd rfl ?_; intro g11 w11 hg11 f11 b11; refine hK.out _ _ (hHeld.no f11) (fun hHeld => ?_)
  clear hK K
  refine norm_ (a' := ?_) ?_ ?_
  rotate_left
  · simp only [Act.put, List.setIfInBounds_toArray, List.set_cons_zero, List.set_cons_succ]; rfl
  refine last_ (i := 19) (N := none) #[true, true, true, true, true, true, true, true, true, true, true, true, true, true, true, true, true, true, true, true] rfl rfl (by kernel_rfl) (by decide) (fun K hK => ?_)
  refine step_store_row rfl rfl 58 _ _ rfl g11 (cmL C).toArray rfl rfl 58 (cmL ⟨0, 0, 0, 0, 0, 0, [], []⟩) b11 sizeCmd rfl (cmL_one _) ?_; intro w12 f12 b12; refine hK.out _ _ ?_
  clear hK K
  refine norm_ (a' := ?_) ?_ ?_
  rotate_left
  · simp only [Act.put, List.setIfInBounds_toArray, List.set_cons_zero, List.set_cons_succ]; rfl
  refine done_ (by kernel_rfl) ?_
  skip
  have h411 : g4 < g11 := Nat.lt_of_lt_of_le (blk_drew b4).lt hg11
  have hW11 : W.heap.size ≤ g11 := Nat.le_trans hg4 (Nat.le_of_lt h411)
  have b4 : Blk w12 g4 58 (cmL ⟨0, 0, 0, 0, 0, 0, [], []⟩) := ((blk_drew b4).no f11).one f12 (Nat.ne_of_lt h411)
  have F : Fr No W w12 := (F.drew.no f11).one f12 (.inr hW11)
  have b12 : Blk w12 g11 58 (cmL C) := b12
  simp only [Exit.then]
  refine ‹∀ (a : Act) (w : World), Code.wp Try.prog _ _ a w → _› _ _ ?_
  have hrc := HRC.out
  clear S1 S2 i20 hw
  obtain ⟨rr, hr⟩ : ∃ rr, rightC C = rr := ⟨_, rfl⟩
  rw [hr] at hrc
  cases rr with
  | false =>
    obtain rfl : none = R := hrc
    have HRR := Kp.mk hr
    clear hr
    go_wp2_with (first
      | ((with_reducible refine gate_dst (N := 74) rfl ?_); go_must (refine ev_load_row rfl 58 _ rfl g11 rfl 58 _ b12 _ Try.underlying58 rfl sizeCmd ?_))
      | (go_at_call 43; go_must (refine (right_any C _).mono ?_); rintro e w13 ⟨rfl, f13⟩; rw [HRR.out]; have b12 := b12.no f13; have b4 := b4.no f13; have F := F.no f13)
      | ((with_reducible refine gate_store (t := 58) (p := 4) rfl ?_); go_must (refine ev_store_row rfl 58 _ _ rfl g4 (cmL ⟨0, 0, 0, 0, 0, 0, [], []⟩).toArray rfl rfl 58 _ b4 sizeCmd rfl (cmL_one _) ?_); intro wZ fZ bZ; have F := F.one fZ (.inr hg4)))
    (refine bodyPost_ret (results_row_tmp rfl _ _ g4 _ _ _ rfl bZ Try.underlying58 rfl sizeCmd) rfl ⟨rfl, F⟩)
  | true =>
    obtain rfl : some C = R := hrc
    have HRR := Kp.mk hr
    clear hr
    go_wp2_with (first
      | ((with_reducible refine gate_dst (N := 74) rfl ?_); go_must (refine ev_load_row rfl 58 _ rfl g11 rfl 58 _ b12 _ Try.underlying58 rfl sizeCmd ?_))
      | (go_at_call 43; go_must (refine (right_any C _).mono ?_); rintro e w13 ⟨rfl, f13⟩; rw [HRR.out]; have b12 := b12.no f13; have b4 := b4.no f13; have F := F.no f13)
      | ((with_reducible refine gate_dst (N := 78) rfl ?_); go_must (refine ev_load_row rfl 58 _ rfl g11 rfl 58 _ b12 _ Try.underlying58 rfl sizeCmd ?_))
      | ((with_reducible refine gate_store (t := 58) (p := 4) rfl ?_); go_must (refine ev_store_row rfl 58 _ _ rfl g4 (cmL C).toArray rfl rfl 58 _ b4 sizeCmd rfl (cmL_one _) ?_); intro wZ fZ bZ; have F := F.one fZ (.inr hg4)))
    (refine bodyPost_ret (results_row_tmp rfl _ _ g4 _ _ _ rfl bZ Try.underlying58 rfl sizeCmd) rfl ⟨rfl, F⟩)
end Go.Proofs.Ytioohhekamjljaa.Wk

/- strings.Builder inside a block (of its own or a struct's): Len, WriteString, String, with what else stays; its bytes may have been read. No conditions beside those written out. -/
set_option linter.unusedSimpArgs false
set_option linter.unusedVariables false
namespace Go.Proofs.Ytioohhekamjljaa.Wk
open Go Go.RowKit Go.Proofs.YtioohhekamjljaaW.PrintWords Go.Proofs.YtioohhekamjljaaW.PrintLast Go.Proofs.Ytioohhekamjljaa.Ev Go.Proofs.Ytioohhekamjljaa.Reg Go.Proofs.Ytioohhekamjljaa.Sha Go.Proofs.Ytioohhekamjljaa.Sb Go.Proofs.Ytioohhekamjljaa.Crc Go.Proofs.Ytioohhekamjljaa.Wi

theorem ownF_keep {w w1 : World} {base : Nat} {e : TypeId} {size n : Nat} {v : Value} {cs : List Value} {S : Nat → Prop} (h : w.ownsRowF base e size v n cs) (f : Fr S w w1) (hn : ∀ k, v.ownBlock = some k → ¬ S k) : w1.ownsRowF base e size v n cs := by
  refine ⟨h.1, ?_⟩
  rcases h.2 with h | ⟨g, cap, cur, fz, rfl, hb, hg, rest⟩
  · exact .inl h
  · exact .inr ⟨g, cap, cur, fz, rfl, hb, Fr.obj hg f (hn g rfl), rest⟩
theorem ownF_ne {w : World} {base g : Nat} {t : TypeId} {n : Nat} {v : Value} {xs cs : List Value} (h : w.ownsRowF base 5 1 v n xs) (b : Blk w g t cs) (ht : t ≠ 5) : v.ownBlock ≠ some g := Lib.ownBlock_neF h b.out ht
/-- A builder at place i of block g. -/
structure Bf (w : World) (base g i : Nat) (t : TypeId) (cs : List Value) (v : Value) (l : B) : Prop where
  blk : Blk w g t cs
  adr : cs[i]? = some (.pointer none) ∨ cs[i]? = some (.pointer (some ⟨g, i, none⟩))
  buf : cs[i + 1]? = some v
  own : w.ownsRowF base 5 1 v l.length (u8s l)
  lies : liesAt Try.prog (Try.prog).depth t (cs.length / (Try.prog).cellsOf t) i 74 1 = true
  typ : t ≠ 5
theorem Bf.ne {w : World} {base g i : Nat} {t : TypeId} {cs : List Value} {v : Value} {l : B} (h : Bf w base g i t cs v l) : v.ownBlock ≠ some g := ownF_ne h.own h.blk h.typ
theorem Bf.keep {w w1 : World} {base g i : Nat} {t : TypeId} {cs : List Value} {v : Value} {l : B} {S : Nat → Prop} (h : Bf w base g i t cs v l) (f : Fr S w w1) (h1 : ¬ S g) (h2 : ∀ k, v.ownBlock = some k → ¬ S k) : Bf w1 base g i t cs v l :=
  ⟨h.blk.keep f h1, h.adr, h.buf, ownF_keep h.own f h2, h.lies, h.typ⟩
theorem Bf.no {w w1 : World} {base g i : Nat} {t : TypeId} {cs : List Value} {v : Value} {l : B} (h : Bf w base g i t cs v l) (f : Fr No w w1) : Bf w1 base g i t cs v l := h.keep f (fun hh => hh) (fun _ _ hh => hh)

theorem sizeBldr : (Try.prog.info? 74).map (·.size) = some 2 := by kernel_rfl
theorem sizeBldrP : (Try.prog.info? 72).map (·.size) = some 1 := by kernel_rfl
theorem sizeBytes : (Try.prog.info? 67).map (·.size) = some 1 := by kernel_rfl
theorem list_set_self {α : Type} {l : List α} {i : Nat} {x : α} (h : l[i]? = some x) : l.set i x = l := by
  obtain ⟨hi, e⟩ := List.getElem?_eq_some_iff.1 h
  rw [← e, List.set_getElem_self]
set_option maxHeartbeats 1000000 in
set_option maxRecDepth 100000 in
theorem check_in {w : World} {g i : Nat} {t : TypeId} {cs : List Value} (b : Blk w g t cs) (ha : cs[i]? = some (.pointer none) ∨ cs[i]? = some (.pointer (some ⟨g, i, none⟩))) (hl : liesAt Try.prog (Try.prog).depth t (cs.length / (Try.prog).cellsOf t) i 74 1 = true) :
    Calls Try.prog 42 #[.pointer (some ⟨g, i, none⟩)] w fun e w' => e = .returned (.tuple #[]) ∧ Fr (One g) w w' ∧ Blk w' g t (cs.set i (.pointer (some ⟨g, i, none⟩))) := by
  rcases ha with ha | ha
  · obtain ⟨j, hj, hjs⟩ := Option.map_eq_some_iff.1 sizeBldr
    have c0 := b.at_ i ha
    have hfz := b.free i
    have hlt : i < cs.length := (List.getElem?_eq_some_iff.1 ha).1
    have hsh : w.shape? g = some (t, cs.length) := by simp [World.shape?, b.out]
    go_enter Try.func42, Try.ntmps42
    go_wp2
    rw [Lib.run_to_unsafe w ⟨g, i, none⟩ Try.underlying72 Try.underlying135 hj (by rw [hjs]; decide) hsh hlt]
    simp only [Result.andThen]
    rw [Oper.upon_value]
    go_wp2
    rw [run_callFunc_extern Try.func63 (by kernel_rfl) (by kernel_rfl) (by kernel_rfl) (e := Extern.AbiNoEscape.same) (by kernel_rfl)]
    rw [Lib.run_noEscape]
    simp only [Result.andThen]
    rw [Oper.upon_value]
    go_wp2
    rw [Lib.run_from_unsafe w ⟨g, i, none⟩ Try.underlying135 Try.underlying72 hj hsh hl]
    simp only [Result.andThen]
    rw [Oper.upon_value]
    go_wp2
    go_end0
    exact ⟨rfl, Fr.setCell _ _ _ _, b.set i _⟩
  · have c0 := b.at_ i ha
    rw [list_set_self ha]
    obtain ⟨j, hj, hjs⟩ := Option.map_eq_some_iff.1 sizeBldr
    go_enter Try.func42, Try.ntmps42
    go_wp2
    rw [Lib.run_neq_ptr_same w _ Try.underlying72 hj]
    go_wp2
    go_end0
    exact ⟨rfl, Fr.refl _ _, b⟩

/-- Where a text's bytes put behind a row lie: in the row, or in a new block. -/
theorem append_str_atF {P : Program} (w : World) (base : Nat) (t u ty e : TypeId) (i : TypeInfo) (ht : P.underlying t = some (.slice e)) (hu : P.underlying u = some .string) (hi : P.info? e = some i) (hz : i.zero = some (.int .u8 0))
    (hsize : i.size = 1) (hby : i.bytes = 1) (v : Value) (n : Nat) (xs : List Value) (hown : w.ownsRowF base e 1 v n xs) (s : ByteArray)
    (hbytes : n + s.size ≤ 140737488355328) (v' : Value) (w' : World) (hr : (Builtin.append_ #[t, u] ty #[v, .string s]).run P w = .ok v' w') :
    v'.ownBlock = v.ownBlock ∨ v'.ownBlock = some w.heap.size := by
  have hxl : xs.length = n := by simpa using hown.1
  have fin : ∀ {a b : Value} {x y : World}, (Builtin.append_ #[t, u] ty #[v, .string s]).run P w = .ok a x → a.ownBlock = v.ownBlock ∨ a.ownBlock = some w.heap.size → v'.ownBlock = v.ownBlock ∨ v'.ownBlock = some w.heap.size := by
    intro a b x y h1 h2
    rw [hr] at h1
    injection h1 with h1 _
    rw [h1]; exact h2
  rcases hown.2 with ⟨rfl, rfl⟩ | ⟨g, cap, cur, fz, rfl, hbg, hg, hfz, hnc, hcm, hcs, htake⟩
  · exact append_str_at w base t u ty e i ht hu hi hz hsize hby (.slice none 0 0) 0 xs ⟨hown.1, .inl ⟨rfl, rfl⟩⟩ s hbytes v' w' hr
  · by_cases hroom : n + s.size ≤ cap
    · exact fin (b := undef) (y := w) (Lib.run_append_room_stringF (P := P) w t u ty e i ht hu hi hsize g n cap cur fz hg (by simpa using hfz) s hroom (by omega)) (.inl rfl)
    · have holds : ∀ j u, xs[j]? = some u → w.cell? ((⟨g, 0, none⟩ : Addr).add j) = some u := hown.cells (g := g) rfl
      exact fin (b := undef) (y := w) (Lib.run_append_grow_string (P := P) w t u ty e i (.int .u8 0) ht hu hi hz ⟨g, 0, none⟩ n cap xs (by rw [hsize]; simpa using hxl) holds s (by omega) (by omega) (by rw [hby]; exact growslice_fits (by omega) (by omega))) (.inr rfl)
/-- 'append(v, s...)', v bytes of the call's own that may have been read, s a text. -/
theorem ev_append_strF {P : Program} {ops : Array Oper} {rest : List Oper} {o : Oper} {a : Act} {Q : Exit → Act → World → Prop} {W : World} (hgd : o.guard = none) (s x : Operand) (t u e : TypeId)
    (ho : o.op = .call { callee := .builtin .append, args := #[s, x], argTypes := #[t, u] })
    (ht : P.underlying t = some (.slice e)) (hu : P.underlying u = some .string) (hinfo : (P.info? e).map (fun i => (i.zero, i.size, i.bytes)) = some (some (.int .u8 0), 1, 1))
    (base : Nat) (v : Value) (n : Nat) (xs : List Value) (y : ByteArray) (hs : a.eval s = v) (hx : a.eval x = .string y) (hown : W.ownsRowF base e 1 v n xs) (hbase : base ≤ W.heap.size) (hl : n + y.size ≤ 140737488355328)
    (h : ∀ A c w1, w1.ownsRowF base e 1 (.slice A (n + y.size) c) (n + y.size) (xs ++ Lib.strCells y) → Fr (Own v) W w1 → ((Value.slice A (n + y.size) c).ownBlock = v.ownBlock ∨ (Value.slice A (n + y.size) c).ownBlock = some W.heap.size) → wpList P ops Q rest (a.put o.dst (.slice A (n + y.size) c)) w1) : wpList P ops Q (o :: rest) a W := by
  obtain ⟨i0, hi, hzz⟩ := Option.map_eq_some_iff.1 hinfo
  simp only [Prod.mk.injEq] at hzz
  obtain ⟨hz0, hz1, hz2⟩ := hzz
  obtain ⟨v1, w1, hr, h1, h2, _⟩ := Lib.run_append_own_stringF (P := P) W base t u o.type e i0 ht hu hi hz0 hz1 hz2 v n xs hown y (by simp only [maxLen]; omega) hl hbase
  have hat := append_str_atF (P := P) W base t u o.type e i0 ht hu hi hz0 hz1 hz2 v n xs hown y hl v1 w1 hr
  obtain ⟨A, c, rfl⟩ : ∃ A c, v1 = .slice A (n + y.size) c := by
    rcases h1.2 with ⟨hv, hn⟩ | ⟨g, cap, cur, fz, hv, _⟩
    · exact ⟨none, 0, by rw [hv, hn]⟩
    · exact ⟨_, _, hv⟩
  refine run_value hgd ?_ (h A c w1 h1 (Fr.of_grown h2) hat)
  simp [execOp, ho, resolve, invoke, builtin, Sem.run_bind, Sem.run_pure, Result.andThen_ok, hs, hx, hr]
/-- A builder's cells when it was written to. -/
abbrev bcs (cs : List Value) (g i : Nat) (v : Value) : List Value := (cs.set i (.pointer (some ⟨g, i, none⟩))).set (i + 1) v
set_option maxHeartbeats 1000000 in
set_option maxRecDepth 100000 in
theorem write_in {w : World} {base g i : Nat} {t : TypeId} {cs : List Value} {v : Value} {l : B} (s : B) (h : Bf w base g i t cs v l) (hl : l.length + s.length ≤ 140737488355328) (hb : base ≤ w.heap.size) :
    Calls Try.prog 27 #[.pointer (some ⟨g, i, none⟩), .string (bs s)] w fun e w' => e = .returned (.tuple #[.int .i64 s.length, .nilIface]) ∧ ∃ v', Bf w' base g i t (bcs cs g i v') v' (l ++ s) ∧ Fr (fun k => k = g ∨ Own v k) w w' ∧ (v'.ownBlock = v.ownBlock ∨ ∃ k, v'.ownBlock = some k ∧ w.heap.size ≤ k) := by
  have HB := Kp.mk h
  have hi1 : i + 1 < cs.length := (List.getElem?_eq_some_iff.1 h.buf).1
  have hc1 : (cs.set i (.pointer (some ⟨g, i, none⟩)))[i + 1]? = some v := by rw [List.getElem?_set_ne (by omega)]; exact h.buf
  have HC := Kp.mk hc1
  have hg : g < w.heap.size := h.blk.lt
  clear h hc1
  go_enter Try.func27, Try.ntmps27
  go_wp2_with (first
    | (go_at_call 42; go_must (refine (check_in HB.out.blk HB.out.adr HB.out.lies).mono ?_); rintro e w1 ⟨rfl, f1, b1⟩; have c1 := b1.at_ (i + 1) HC.out)
    | ((with_reducible refine gate_dst (N := 14) rfl ?_); go_must (refine ev_append_strF rfl (.tmp 12) (.tmp 13) 67 9 5 rfl Try.underlying67 Try.underlying9 info5 base v _ _ (bs s) rfl rfl (ownF_keep HB.out.own f1 (fun k hk hh => HB.out.ne (by rw [hk]; exact congrArg some hh))) (by have := f1.size; omega) (by rw [bs_size]; omega) ?_); intro A2 c2 w2 o2 f2 hat; have b2 := b1.keep f2 (fun hh => HB.out.ne hh))
    | ((with_reducible refine gate_store (t := 67) (p := 16) rfl ?_); go_must (refine ev_store rfl 67 (.tmp 16) (.tmp 14) rfl g (i + 1) (.slice A2 (l.length + (bs s).size) c2) rfl rfl rfl t _ b2 (by rw [List.length_set]; exact hi1) sizeBytes ?_); intro w3 f3 b3))
  have e1 : (l ++ s).length = l.length + (bs s).size := by rw [List.length_append, bs_size]
  have e2 : u8s (l ++ s) = u8s l ++ Lib.strCells (bs s) := by simp [Lib.strCells]
  have hne : (Value.slice A2 (l.length + (bs s).size) c2).ownBlock ≠ some g := ownF_ne o2 b2 HB.out.typ
  have F : Fr (fun k => k = g ∨ Own v k) w w3 :=
    ((f1.mono (fun i h => .inl (.inl h))).trans f2 (fun i h => .inl (.inr h))).trans f3 (fun i h => .inl (.inl h))
  refine bodyPost_ret (results_tmp2 rfl _ _ _) rfl ⟨by simp, .slice A2 (l.length + (bs s).size) c2, ⟨b3, ?_, ?_, ?_, ?_, HB.out.typ⟩, F, ?_⟩
  · right
    rw [List.getElem?_set_ne (by omega), List.getElem?_set_self (by omega)]
  · rw [List.getElem?_set_self (by rw [List.length_set]; exact hi1)]
  · rw [e1, e2]
    exact ownF_keep o2 f3 (fun k hk hh => hne (by rw [hk]; exact congrArg some hh))
  · rw [List.length_set, List.length_set]
    exact HB.out.lies
  · rcases hat with hat | hat
    · exact .inl hat
    · exact .inr ⟨_, hat, f1.size⟩
set_option maxHeartbeats 1000000 in
theorem len_in {w : World} {base g i : Nat} {t : TypeId} {cs : List Value} {v : Value} {l : B} (h : Bf w base g i t cs v l) :
    Calls Try.prog 26 #[.pointer (some ⟨g, i, none⟩)] w fun e w' => e = .returned (.int .i64 l.length) ∧ w' = w := by
  have c1 := h.blk.at_ (i + 1) h.buf
  obtain ⟨A, c, hv⟩ : ∃ A c, v = .slice A l.length c := by
    rcases h.own.2 with ⟨hv, hn⟩ | ⟨g, cap, cur, fz, hv, _⟩
    · exact ⟨none, 0, by rw [hv, hn]⟩
    · exact ⟨_, _, hv⟩
  subst hv
  clear h
  go_enter Try.func26, Try.ntmps26
  go_wp2_with fail
  go_ret
  exact ⟨rfl, rfl⟩
theorem Fr.freeze {w : World} {S : Nat → Prop} (g n : Nat) (hS : S g) : Fr S w (w.freeze ⟨g, 0, none⟩ n) := by
  unfold World.freeze
  split
  · exact Fr.refl _ _
  · exact ⟨rfl, rfl, rfl, by simp, fun k hk hn => by
      simp only [Array.getElem?_modify]
      rw [if_neg]
      intro e
      subst e
      exact hn hS⟩
theorem ownF_froze {w : World} {base g n cap : Nat} {xs : List Value} (h : w.ownsRowF base 5 1 (.slice (some ⟨g, 0, none⟩) n cap) n xs) : (w.freeze ⟨g, 0, none⟩ n).ownsRowF base 5 1 (.slice (some ⟨g, 0, none⟩) n cap) n xs := by
  unfold World.freeze
  split
  · exact h
  · refine ⟨h.1, ?_⟩
    rcases h.2 with ⟨hv, _⟩ | ⟨g', cap', cur, fz, hv, hbg, hg, hfz, rest⟩
    · cases hv
    · injection hv with ha _ hcap
      injection ha with ha
      injection ha with hgg _ _
      subst hgg
      subst hcap
      obtain ⟨lo, hi⟩ := fz
      refine .inr ⟨g, _, cur, (if lo == hi then (0, 0 + n) else (min lo 0, max hi (0 + n))), rfl, hbg, ?_, ?_, rest⟩
      · simp [Array.getElem?_modify, hg]
      · simp only at hfz
        split <;> simp <;> omega
theorem cellsByte : (Try.prog).cellsOf 5 = 1 := by kernel_rfl
set_option maxHeartbeats 2000000 in
set_option maxRecDepth 100000 in
theorem string_in {w : World} {base g i : Nat} {t : TypeId} {cs : List Value} {v : Value} {l : B} (h : Bf w base g i t cs v l) (h0 : l ≠ []) :
    Calls Try.prog 31 #[.pointer (some ⟨g, i, none⟩)] w fun e w' => e = .returned (.string (bs l)) ∧ Bf w' base g i t cs v l ∧ Fr (Own v) w w' := by
  have HB := Kp.mk h
  have hl0 : l.length ≠ 0 := by simpa using h0
  obtain ⟨gr, cap, cur, fz, rfl, hbg, hg, hfz, hnc, hcm, hcs, htake⟩ : ∃ gr cap cur fz, v = .slice (some ⟨gr, 0, none⟩) l.length cap ∧ base ≤ gr ∧ w.heap[gr]? = some (.cells cur 5 fz) ∧ fz.2 ≤ l.length * 1 ∧ l.length ≤ cap ∧ cap ≤ maxLen ∧ cur.size = cap * 1 ∧ cur.toList.take (l.length * 1) = u8s l := by
    rcases h.own.2 with ⟨_, hz⟩ | ⟨g, cap, cur, fz, hv, r⟩
    · exact absurd hz hl0
    · exact ⟨g, cap, cur, fz, hv, r⟩
  have c1 : w.drew.cell? ⟨g, i + 1, none⟩ = some (.slice (some ⟨gr, 0, none⟩) l.length cap) := (blk_drew h.blk).at_ (i + 1) h.buf
  have hSD : (Builtin.unsafeSliceData_ #[67] 119 #[.slice (some ⟨gr, 0, none⟩) l.length cap]).run Try.prog w.drew = .ok (.pointer (some ⟨gr, 0, none⟩)) w.drew :=
    Lib.run_unsafeSliceData_row _ _ _ _ _ _ (by omega)
  have hUS : (Builtin.unsafeString_ #[119, 3] 9 #[.pointer (some ⟨gr, 0, none⟩), .int .i64 l.length]).run Try.prog w.drew = .ok (.string ⟨l.toArray⟩) (w.drew.freeze ⟨gr, 0, none⟩ l.length) := by
    refine Lib.run_unsafeString_row w.drew 119 3 9 5 Try.underlying119 cellsByte gr cur.size (by have hg' : w.drew.heap[gr]? = some (.cells cur 5 fz) := hg; simp [World.shape?, hg']) l h0 (by omega) (by unfold maxLen at hcm; omega) ?_
    intro j x hx
    have := h.own.cells (g := gr) rfl j (.int .u8 x.toNat) (by simp [hx])
    exact this
  have F : Fr (Own (.slice (some ⟨gr, 0, none⟩) l.length cap)) w (w.drew.freeze ⟨gr, 0, none⟩ l.length) := ((Fr.refl _ w).drew).trans (Fr.freeze (S := Own (.slice (some ⟨gr, 0, none⟩) l.length cap)) gr l.length rfl) (fun i hi => .inl hi)
  have hkeep : Bf (w.drew.freeze ⟨gr, 0, none⟩ l.length) base g i t cs (.slice (some ⟨gr, 0, none⟩) l.length cap) l :=
    ⟨h.blk.keep F (fun hh => h.ne hh), h.adr, h.buf, ownF_froze (w := w.drew) h.own, h.lies, h.typ⟩
  have HK := Kp.mk hkeep
  have HF := Kp.mk F
  clear hkeep F htake hcs hcm hfz hg h
  go_enter Try.func31, Try.ntmps31
  go_wp2
  have mixed : (Try.prog).follows .mixedOrders = true := by kernel_rfl
  go_region_o
  all_goals (go_wp2; go_ret; exact ⟨rfl, HK.out, HF.out⟩)
end Go.Proofs.Ytioohhekamjljaa.Wk

/- wire.told. Conditions: sizes are bounded, as written out. -/
set_option linter.unusedSimpArgs false
set_option linter.unusedVariables false
namespace Go.Proofs.Ytioohhekamjljaa.Wk
open Go Go.RowKit Go.Proofs.YtioohhekamjljaaW.PrintWords Go.Proofs.YtioohhekamjljaaW.PrintLast Go.Proofs.Ytioohhekamjljaa.Ev Go.Proofs.Ytioohhekamjljaa.Reg Go.Proofs.Ytioohhekamjljaa.Sha Go.Proofs.Ytioohhekamjljaa.Sb Go.Proofs.Ytioohhekamjljaa.Crc Go.Proofs.Ytioohhekamjljaa.Wi

abbrev hdL (h : Hd) : List Value := [.string (bs h.parent), .string (bs h.child), .int .i64 h.next]
abbrev hdV (h : Hd) : Value := .agg (hdL h).toArray
/-- What told prints. -/
def toldB (h : Hd) : B := magic ++ (h.parent ++ (h.child ++ [UInt8.ofNat ((h.next / 16777216) % 256).toNat, UInt8.ofNat ((h.next / 65536) % 256).toNat, UInt8.ofNat ((h.next / 256) % 256).toNat, UInt8.ofNat (h.next % 256).toNat]))
theorem toldB_len (h : Hd) : (toldB h).length = 8 + h.parent.length + h.child.length := by simp [toldB, magic]; omega
theorem toldB_ok {h : Hd} (k : okH h = true) : toldB h = headB h := by
  have hk := of_decide_eq_true k
  unfold toldB headB be4
  obtain ⟨n, hn⟩ : ∃ n : Nat, h.next = n := ⟨h.next.toNat, by omega⟩
  rw [hn, Int.toNat_natCast]
  have hb : ∀ x : Nat, UInt8.ofNat ((x : Int) % 256).toNat = UInt8.ofNat x := fun x => by
    have e : ((x : Int) % 256).toNat = x % 256 := by omega
    rw [e]
    exact UInt8.toNat_inj.1 (by rw [ofNat_toNat, ofNat_toNat]; omega)
  have e1 : (n : Int) / 16777216 = ((n / 16777216 : Nat) : Int) := by omega
  have e2 : (n : Int) / 65536 = ((n / 65536 : Nat) : Int) := by omega
  have e3 : (n : Int) / 256 = ((n / 256 : Nat) : Int) := by omega
  rw [e1, e2, e3, hb, hb, hb, hb]
theorem told_f (h : Hd) (hp : h.parent.length ≤ 1073741824) (hc : h.child.length ≤ 1073741824) : PWireTells.wire_told.f (bs h.parent) (bs h.child) h.next = some (bs (toldB h), okH h) := by
  have z1 : (bs h.parent).size = h.parent.length := bs_size _
  have z2 : (bs h.child).size = h.child.length := bs_size _
  have hm : (⟨#[83, 78, 80, 49]⟩ : ByteArray) = bs magic := rfl
  have hs : ∀ a b c d : Int, strOfNums [a, b, c, d] = bs [UInt8.ofNat a.toNat, UInt8.ofNat b.toNat, UInt8.ofNat c.toNat, UInt8.ofNat d.toNat] := fun _ _ _ _ => rfl
  unfold PWireTells.wire_told.f
  rw [hm, if_pos (by omega), if_pos (by rw [bs_append, bs_size, List.length_append, z2]; show 4 + _ + _ ≤ _; omega), Option.bind_some, hs, if_pos (by rw [bs_append, bs_append, bs_size, bs_size, List.length_append, List.length_append]; show 4 + _ + _ + 4 ≤ _; omega), bs_append, bs_append, bs_append]
  have e : magic ++ h.parent ++ h.child ++ [UInt8.ofNat ((h.next / 16777216) % 256).toNat, UInt8.ofNat ((h.next / 65536) % 256).toNat, UInt8.ofNat ((h.next / 256) % 256).toNat, UInt8.ofNat (h.next % 256).toNat] = toldB h := by simp [toldB]
  rw [e, z1, z2]
  by_cases h1 : h.parent.length = 32
  · rw [if_pos (by omega)]
    by_cases h2 : h.child.length = 32
    · rw [if_pos (by omega)]
      by_cases h3 : h.next ≥ 2
      · rw [if_pos h3]
        congr 2
        by_cases h4 : h.next ≤ 2147483647
        · rw [decide_eq_true h4, okH, decide_eq_true ⟨h1, h2, h3, h4⟩]
        · rw [decide_eq_false h4, okH, decide_eq_false (fun k => h4 k.2.2.2)]
      · rw [if_neg h3, okH, decide_eq_false (fun k => h3 k.2.2.1)]
    · rw [if_neg (by omega), okH, decide_eq_false (fun k => h2 k.2.1)]
  · rw [if_neg (by omega), okH, decide_eq_false (fun k => h1 k.1)]
theorem told_any (h : Hd) (hp : h.parent.length ≤ 1073741824) (hc : h.child.length ≤ 1073741824) (w : World) :
    Calls Try.prog 28 #[hdV h] w fun e w' => e = .returned (.tuple #[.string (bs (toldB h)), .bool (okH h)]) ∧ Fr No w w' :=
  (PWireTells.wire_told.calls _ _ _ _ _ w (told_f h hp hc)).mono fun e w' ⟨h1, h2⟩ => ⟨h1, Fr.of_below h2⟩
end Go.Proofs.Ytioohhekamjljaa.Wk

/- wire.Encode's closure put. Conditions: sizes are bounded, as written out. -/
set_option linter.unusedSimpArgs false
set_option linter.unusedVariables false
namespace Go.Proofs.Ytioohhekamjljaa.Wk
open Go Go.RowKit Go.Proofs.YtioohhekamjljaaW.PrintWords Go.Proofs.YtioohhekamjljaaW.PrintLast Go.Proofs.Ytioohhekamjljaa.Ev Go.Proofs.Ytioohhekamjljaa.Reg Go.Proofs.Ytioohhekamjljaa.Sha Go.Proofs.Ytioohhekamjljaa.Sb Go.Proofs.Ytioohhekamjljaa.Crc Go.Proofs.Ytioohhekamjljaa.Wi

def putL (acc s : B) : B := if acc.length ≤ 65536 then acc ++ s else acc
theorem printT_len (k q : Int) (p : B) : (printT k q p).1.length ≤ 11 + p.length := by
  unfold printT
  split
  · simp
  · split
    · simp
    · show (recB _).length ≤ _
      rw [rec_len]
      exact Nat.le_refl _
set_option maxHeartbeats 4000000 in
set_option maxRecDepth 100000 in
theorem put_any {W : World} {base gn gb : Nat} {cs : List Value} {v : Value} {acc : B} (k n : Int) (p : B) (bn : Blk W gn 3 [.int .i64 n]) (B : Bf W base gb 0 74 cs v acc) (hp : p.length ≤ 1073741824) (ha : acc.length ≤ 1073741824) (hn0 : 0 ≤ n) (hn : n ≤ 1099511627776) (hbase : base ≤ W.heap.size) :
    Calls Try.prog 24 #[.int .i64 k, .string (bs p), .pointer (some ⟨gn, 0, none⟩), .pointer (some ⟨gb, 0, none⟩)] W fun e w' => e = .returned (.tuple #[]) ∧ ∃ cs' v', Bf w' base gb 0 74 cs' v' (putL acc (printT k n p).1) ∧ Blk w' gn 3 [.int .i64 (n + 1)] ∧ Fr (fun i => i = gn ∨ i = gb ∨ Own v i) W w' ∧ (v'.ownBlock = v.ownBlock ∨ ∃ k, v'.ownBlock = some k ∧ W.heap.size ≤ k) := by
  have CP := Kp.mk (fun w' => tprint_any k n p hp w')
  have hlen := printT_len k n p
  obtain ⟨S, hS⟩ : ∃ S, (printT k n p).1 = S := ⟨_, rfl⟩
  obtain ⟨E, hE⟩ : ∃ E, (printT k n p).2 = E := ⟨_, rfl⟩
  rw [hS, hE] at CP
  rw [hS]
  rw [hS] at hlen
  have HNB : Kp (gn ≠ gb) := ⟨bn.ne B.blk (by decide)⟩
  have HNV : Kp (v.ownBlock ≠ some gn) := ⟨ownF_ne B.own bn (by decide)⟩
  have HBA := Kp.mk hbase
  have c0 := bn.at_ 0 rfl
  clear hS hE hbase
  unfold putL
  by_cases h5 : acc.length ≤ 65536
  · rw [if_pos h5]
    have h5z : (acc.length : Int) ≤ 65536 := by omega
    go_enter Try.func24, Try.ntmps24
    go_wp2_with (first
      | (go_at_call 25; go_must (refine (CP.out _).mono ?_); rintro e w1 ⟨rfl, f1⟩; have bn := bn.no f1; have B := B.no f1; have F := f1; have c0 := bn.at_ 0 rfl)
      | ((with_reducible refine gate_store (t := 3) (p := 2) rfl ?_); go_must (refine ev_store rfl 3 _ _ rfl gn 0 (.int .i64 (n + 1)) rfl rfl rfl 3 _ bn (by simp) sizeInt ?_); intro w2 f2 bn2; have B := B.keep f2 (fun hh => HNB.out hh.symm) (fun k hk hh => HNV.out (hk.trans (congrArg some hh))); have F : Fr (fun i => i = gn ∨ i = gb ∨ Own v i) W w2 := (F.mono (fun i hi => hi.elim)).trans f2 (fun i hi => .inl (.inl hi)))
      | (go_at_call 26; go_must (refine (len_in B).mono ?_); rintro e w3 ⟨rfl, hw3⟩; subst hw3)
      | (go_at_call 27; go_must (refine (write_in S B (by omega) (Nat.le_trans HBA.out F.size)).mono ?_); rintro e w4 ⟨rfl, v4, B4, f4, h4⟩; have bn4 := bn2.keep f4 (fun hh => by rcases hh with hh | hh; exact HNB.out hh; exact HNV.out hh)))
    go_end0
    refine ⟨rfl, _, v4, B4, bn4, F.trans f4 (fun i hi => .inl (.inr hi)), ?_⟩
    rcases h4 with h4 | ⟨q, h4, h6⟩
    · exact .inl h4
    · exact .inr ⟨q, h4, Nat.le_trans F.size h6⟩
  · rw [if_neg h5]
    have h5z : ¬ (acc.length : Int) ≤ 65536 := by omega
    go_enter Try.func24, Try.ntmps24
    go_wp2_with (first
      | (go_at_call 25; go_must (refine (CP.out _).mono ?_); rintro e w1 ⟨rfl, f1⟩; have bn := bn.no f1; have B := B.no f1; have F := f1; have c0 := bn.at_ 0 rfl)
      | ((with_reducible refine gate_store (t := 3) (p := 2) rfl ?_); go_must (refine ev_store rfl 3 _ _ rfl gn 0 (.int .i64 (n + 1)) rfl rfl rfl 3 _ bn (by simp) sizeInt ?_); intro w2 f2 bn2; have B := B.keep f2 (fun hh => HNB.out hh.symm) (fun k hk hh => HNV.out (hk.trans (congrArg some hh))); have F : Fr (fun i => i = gn ∨ i = gb ∨ Own v i) W w2 := (F.mono (fun i hi => hi.elim)).trans f2 (fun i hi => .inl (.inl hi)))
      | (go_at_call 26; go_must (refine (len_in B).mono ?_); rintro e w3 ⟨rfl, hw3⟩; subst hw3))
    go_end0
    exact ⟨rfl, _, v, B, bn2, F, .inl rfl⟩
end Go.Proofs.Ytioohhekamjljaa.Wk

/- wire.Encode. Conditions: sizes are bounded, as written out. -/
set_option linter.unusedSimpArgs false
set_option linter.unusedVariables false
namespace Go.Proofs.Ytioohhekamjljaa.Wk
open Go Go.RowKit Go.Proofs.YtioohhekamjljaaW.PrintWords Go.Proofs.YtioohhekamjljaaW.PrintLast Go.Proofs.Ytioohhekamjljaa.Ev Go.Proofs.Ytioohhekamjljaa.Reg Go.Proofs.Ytioohhekamjljaa.Sha Go.Proofs.Ytioohhekamjljaa.Sb Go.Proofs.Ytioohhekamjljaa.Crc Go.Proofs.Ytioohhekamjljaa.Wi

abbrev dg : B → B := Dig.sumL
theorem dg_len (l : B) : (dg l).length = 32 := Dig.sumL_len l
theorem dgOne_any (c : B) (hl : c.length ≤ 1099511627776) (W : World) (g : Nat) (hb : Blk W g 9 [.string (bs c)]) : Calls Try.prog 30 #[.slice (some ⟨g, 0, none⟩) 1 1] W fun e w' => e = .returned (.string (bs (dg c))) ∧ Fr No W w' := by
  have hC : Kd.C Kd.string W (some ⟨g, 0, none⟩) 1 [bs c] := by
    obtain ⟨A, cc, hv, _, hC⟩ := own_strs (xs := [bs c]) (hb.owns (size := 1) (n := 1) (base := 0) (by simp) (by simp [maxLen]) (Nat.zero_le _)) rfl
    injection hv with h1 h2 h3
    rw [← h1] at hC
    exact hC
  have hcat : Dig.cat [bs c] = c := by simp [Dig.cat, bs]
  have := Dig.sum_any (some ⟨g, 0, none⟩) 1 [bs c] W hC (by simp) (by rw [hcat]; exact hl) (by simp)
  rw [hcat] at this
  exact this.mono fun e w' ⟨h1, h2⟩ => ⟨h1, Fr.of_below h2⟩
theorem zeroBldr : (Try.prog.info? 74).bind (·.zero) = some (.agg [.pointer none, .slice none 0 0].toArray) := by kernel_rfl
theorem zeroInt : (Try.prog.info? 3).bind (·.zero) = some (.int .i64 0) := by kernel_rfl
theorem sizeHead : (Try.prog.info? 23).map (·.size) = some 3 := by kernel_rfl
/-- Commands in memory. -/
structure CmS (w : World) (A : Option Addr) (l : List Cm) : Prop where
  out : 0 < l.length → ∃ b o, A = some ⟨b, o, none⟩ ∧ b < w.heap.size ∧ ∀ j c, l[j]? = some c → ∀ i u, (cmL c)[i]? = some u → w.cell? ⟨b, o + j * 8 + i, none⟩ = some u
/-- What is put for a command. -/
def oneE (i : Nat) (c : Cm) : B := (printT (wrap64 (10 + c.kind)) i (if rightC c then printC c else [])).1
def encL : B → Nat → List Cm → B
  | acc, _, [] => acc
  | acc, i, c :: l => encL (putL acc (oneE i c)) (i + 1) l
theorem encL_snoc : ∀ (acc : B) (i : Nat) (l : List Cm) (c : Cm), encL acc i (l ++ [c]) = putL (encL acc i l) (oneE (i + l.length) c)
  | acc, i, [], c => rfl
  | acc, i, d :: l, c => by
    show encL (putL acc (oneE i d)) (i + 1) (l ++ [c]) = putL (encL (putL acc (oneE i d)) (i + 1) l) _
    rw [encL_snoc, List.length_cons, show i + 1 + l.length = i + (l.length + 1) by omega]
def headE (h : Hd) : B := putL [] (printT 1 0 (toldB h)).1
def lastE (acc : B) (n : Nat) : B := putL acc (printT 2 n (dg acc)).1
/-- What Encode answers. -/
def encR (h : Hd) (l : List Cm) : B × Int :=
  if okH h && l.all rightC then (if 65536 < (lastE (encL (headE h) 1 l) (l.length + 1)).length then ([], 3) else (lastE (encL (headE h) 1 l) (l.length + 1), 0)) else ([], 2)
theorem text_len (c : Cm) : (if rightC c then printC c else []).length ≤ 4133 := by
  cases hr : rightC c with
  | false => simp
  | true =>
    have R := (right_iff c).1 hr
    have := R.nm
    have := R.dt
    rw [if_pos rfl, print_len]
    omega
theorem oneE_len (i : Nat) (c : Cm) : (oneE i c).length ≤ 4144 := by
  have := printT_len (wrap64 (10 + c.kind)) i (if rightC c then printC c else [])
  have := text_len c
  unfold oneE
  omega
theorem putL_len (acc s : B) (m : Nat) (ha : acc.length ≤ m) (hs : s.length + 65536 ≤ m) : (putL acc s).length ≤ m := by
  unfold putL
  split
  · rw [List.length_append]; omega
  · exact ha
theorem encL_len (m : Nat) (hm : 70000 ≤ m) : ∀ (acc : B) (i : Nat) (l : List Cm), acc.length ≤ m → (encL acc i l).length ≤ m
  | acc, i, [], h => h
  | acc, i, c :: l, h => encL_len m hm _ _ l (putL_len _ _ _ h (by have := oneE_len i c; omega))
theorem putL_ne {acc : B} (s : B) (h : acc ≠ []) : putL acc s ≠ [] := by
  unfold putL
  split
  · intro e; exact h (List.append_eq_nil_iff.1 e).1
  · exact h
theorem encL_ne : ∀ {acc : B} (i : Nat) (l : List Cm), acc ≠ [] → encL acc i l ≠ []
  | acc, i, [], h => h
  | acc, i, c :: l, h => encL_ne (i + 1) l (putL_ne _ h)
theorem headE_eq {h : Hd} (hp : h.parent.length ≤ 1000) (hc : h.child.length ≤ 1000) : headE h = recB ⟨1, 0, toldB h⟩ := by
  unfold headE putL printT
  rw [if_pos (by simp), if_neg (by omega), if_neg (by rw [toldB_len]; omega)]
  rfl
set_option maxHeartbeats 8000000 in
set_option maxRecDepth 100000 in
theorem encode_any (h : Hd) (A : Option Addr) (cap : Nat) (l : List Cm) (W : World) (hl : CmS W A l) (hn : l.length ≤ 1000000) (hp : h.parent.length ≤ 1000) (hc : h.child.length ≤ 1000) :
    Calls Try.prog 9 #[hdV h, .slice A l.length cap] W fun e w' => e = .returned (.tuple #[.string (bs (encR h l).1), .int .i64 (encR h l).2]) ∧ Fr No W w' := by
  obtain ⟨R, hR⟩ : ∃ R, encR h l = R := ⟨_, rfl⟩
  rw [hR]
  have HR := Kp.mk hR
  have HL := Kp.mk hl
  have CT := Kp.mk (fun w => told_any h (by omega) (by omega) w)
  have HP := Kp.mk hp
  have HC := Kp.mk hc
  clear hR hl
  go_enter Try.func9, Try.ntmps9
  have HTL : Kp ((toldB h).length ≤ 1073741824) := ⟨by rw [toldB_len]; omega⟩
  go_wp2_with (first
    | ((with_reducible refine gate_dst (N := 2) rfl ?_); go_must (refine ev_box rfl 23 _ rfl _ rfl (hdL h) rfl ?_); intro g2 w2 hg2 f2 b2; have F := f2)
    | ((with_reducible refine gate_dst (N := 6) rfl ?_); go_must (refine ev_alloc rfl 74 rfl _ [.pointer none, .slice none 0 0] zeroBldr rfl ?_); intro gb w6 hgb f6 b6; have n26 : g2 ≠ gb := Nat.ne_of_lt (Nat.lt_of_lt_of_le b2.lt hgb); have b2 := b2.no f6; have hgb' : W.heap.size ≤ gb := Nat.le_trans F.size hgb; have F := F.no f6; have BB : Bf w6 W.heap.size gb 0 74 [.pointer none, .slice none 0 0] (.slice none 0 0) [] := ⟨b6, .inl rfl, rfl, World.ownsRowF_nil _ _ _ _, by kernel_rfl, by decide⟩)
    | ((with_reducible refine gate_dst (N := 7) rfl ?_); go_must (refine ev_alloc rfl 3 rfl _ [.int .i64 0] zeroInt rfl ?_); intro gn w7 hgn f7 bn; have hgn' : W.heap.size ≤ gn := Nat.le_trans F.size hgn; have n27 : g2 ≠ gn := Nat.ne_of_lt (Nat.lt_of_lt_of_le b2.lt hgn); have n67 : gb ≠ gn := Nat.ne_of_lt (Nat.lt_of_lt_of_le BB.blk.lt hgn); have b2 := b2.no f7; have F := F.no f7; have BB := BB.no f7)
    | ((with_reducible refine gate_store (t := 3) (p := 7) rfl ?_); go_must (refine ev_store rfl 3 _ _ rfl gn 0 (.int .i64 0) rfl rfl rfl 3 _ bn (by simp) sizeInt ?_); intro w8 f8 bn; have b2 := b2.one f8 n27; have BB := BB.keep f8 n67 (fun k hk => by simp [Value.ownBlock] at hk); have F := F.one f8 (.inr hgn'))
    | ((with_reducible refine gate_dst (N := 17) rfl ?_); go_must (refine ev_load_row rfl 23 _ rfl g2 rfl 23 _ b2 _ Try.underlying23 rfl sizeHead ?_))
    | (go_at_call 28; go_must (refine (CT.out _).mono ?_); rintro e w9 ⟨rfl, f9⟩; have F := F.no f9; have BB := BB.no f9; have bn := bn.no f9)
    | (go_at_call 24; have HOB := fun k hk => (BB.own.lt k hk).1; go_must (refine (put_any 1 0 (toldB h) bn BB HTL.out (by simp) (by decide) (by decide) F.size).mono ?_); rintro e w10 ⟨rfl, cs1, v1, BB, bn, f10, _⟩; have F := F.trans f10 (fun i hi => by rcases hi with hi | hi | hi; exact .inr (hi ▸ hgn'); exact .inr (hi ▸ hgb'); exact .inr (HOB i hi))))
  have HE0 : Kp ((headE h).length ≤ 80000) := ⟨by rw [headE_eq HP.out HC.out, rec_len]; show 11 + (toldB h).length ≤ _; rw [toldB_len]; have := HP.out; have := HC.out; omega⟩
  have BB : Bf w10 W.heap.size gb 0 74 cs1 v1 (headE h) := BB
  go_loopg [10, 26] l.length (fun gg v10 v26 wr => ∃ (j : Nat) (cs : List Value) (v : Value), j + gg = l.length ∧ v10 = .bool (okH h && (l.take j).all rightC) ∧ v26 = .int .i64 (j : Int) ∧ Bf wr W.heap.size gb 0 74 cs v (encL (headE h) 1 (l.take j)) ∧ Blk wr gn 3 [.int .i64 ((j : Int) + 1)] ∧ Fr No W wr)
  case atStart => exact ⟨0, cs1, v1, by omega, by simp, rfl, BB, bn, F⟩
  case round =>
    obtain ⟨j, cs, v, hj, rfl, rfl, BB, bn, F⟩ := hrel
    by_cases hlt : j < l.length
    · have hltz : (j : Int) < (l.length : Int) := by omega
      obtain ⟨c, hc⟩ : ∃ c, l[j]? = some c := ⟨_, List.getElem?_eq_getElem hlt⟩
      obtain ⟨b, o, rfl, hb, hcs⟩ := HL.out.out (by omega)
      have hcell : ∀ i u, (cmL c)[i]? = some u → wr.cell? ⟨b, o + j * 8 + i, none⟩ = some u := fun i u hu => Fr.cell (hcs j c hc i u hu) F (fun hh => hh)
      have q0 := hcell 0 _ rfl
      have q1 := hcell 1 _ rfl
      have q2 := hcell 2 _ rfl
      have q3 := hcell 3 _ rfl
      have q4 := hcell 4 _ rfl
      have q5 := hcell 5 _ rfl
      have q6 := hcell 6 _ rfl
      have q7 := hcell 7 _ rfl
      rw [Nat.add_zero] at q0
      have htk : l.take (j + 1) = l.take j ++ [c] := by rw [List.take_add_one, hc]; rfl
      have htl : (l.take j).length = j := by rw [List.length_take]; omega
      have hnx : encL (headE h) 1 (l.take (j + 1)) = putL (encL (headE h) 1 (l.take j)) (oneE (j + 1) c) := by rw [htk, encL_snoc, htl, Nat.add_comm 1 j]
      have hal : (l.take (j + 1)).all rightC = ((l.take j).all rightC && rightC c) := by rw [htk]; simp
      have HAC : Kp ((encL (headE h) 1 (l.take j)).length ≤ 80000) := ⟨encL_len 80000 (by omega) _ _ _ HE0.out⟩
      have HNX := Kp.mk hnx
      have HAL := Kp.mk hal
      have HJ := Kp.mk hj
      clear hcell hcs htk htl hnx hal hc hj
      obtain ⟨ok, hok⟩ : ∃ ok, (okH h && (l.take j).all rightC) = ok := ⟨_, rfl⟩
      have HOK := Kp.mk hok
      rw [hok]
      clear hok
      obtain ⟨rr, hrr⟩ : ∃ rr, rightC c = rr := ⟨_, rfl⟩
      have HRR := Kp.mk hrr
      clear hrr
      have hj0 : (0 : Int) ≤ (j : Int) := by omega
      have hj1 : (j : Int) ≤ 1000000 := by omega
      cases rr with
      | true =>
        have HTX : Kp (((printC c) : B).length ≤ 1073741824) := ⟨by have := text_len c; rw [HRR.out] at this; rw [if_pos rfl] at this; omega⟩
        have CPP := fun w' => cprint_any c w'
        rw [HRR.out] at CPP
        rw [if_pos rfl, if_pos rfl] at CPP
        have HCP := Kp.mk CPP
        have HONE : Kp ((printT (wrap64 (10 + c.kind)) ((j : Int) + 1) (printC c)).1 = oneE (j + 1) c) := ⟨by unfold oneE; rw [HRR.out]; rfl⟩
        clear CPP
        cases ok with
        | true =>
          go_wp2_with (first
            | ((with_reducible refine gate_dst (N := 12) rfl ?_); go_must (refine ev_alloc rfl 58 rfl _ (cmL ⟨0, 0, 0, 0, 0, 0, [], []⟩) zeroCmd rfl ?_); intro g12 wa hga fa ba; have n1 : gn ≠ g12 := Nat.ne_of_lt (Nat.lt_of_lt_of_le bn.lt hga); have n2 : gb ≠ g12 := Nat.ne_of_lt (Nat.lt_of_lt_of_le BB.blk.lt hga); have hv12 : ∀ k, v.ownBlock = some k → ¬ k = g12 := (fun k hk e => by have := (BB.own.lt k hk).2; have := hga; omega); have bn := bn.no fa; have BB := BB.no fa; have hWa : W.heap.size ≤ g12 := Nat.le_trans F.size hga; have F := F.no fa)
            | ((with_reducible refine gate_store (t := 58) (p := 12) rfl ?_); go_must (refine ev_store_row rfl 58 _ _ rfl g12 (cmL c).toArray rfl rfl 58 _ ba sizeCmd rfl (cmL_one _) ?_); intro wz fz bz; have bz : Blk wz g12 58 (cmL c) := bz; have bn := bn.one fz n1; have BB := BB.keep fz n2 hv12; have F := F.one fz (.inr hWa))
            | ((with_reducible refine gate_dst (N := 31) rfl ?_); go_must (refine ev_load_row rfl 58 _ rfl g12 rfl 58 _ bz _ Try.underlying58 rfl sizeCmd ?_))
            | (go_at_call 29; go_must (refine (HCP.out _).mono ?_); rintro e wp ⟨rfl, fp⟩; have bz := bz.no fp; have bn := bn.no fp; have BB := BB.no fp; have F := F.no fp; have d0 := bz.at_ 0 rfl)
            | (go_at_call 24; have HOB := fun k hk => (BB.own.lt k hk).1; refine (put_any _ _ (printC c) bn BB HTX.out (Nat.le_trans HAC.out (by decide)) (by omega) (by omega) F.size).mono ?_; rintro e wq ⟨rfl, cs1, v1, BB, bn, fq, _⟩; have F := F.trans fq (fun i hi => by rcases hi with hi | hi | hi; exact .inr (hi ▸ hgn'); exact .inr (hi ▸ hgb'); exact .inr (HOB i hi))))
          go_roundg (l.length - (j + 1))
          case measure => have := HJ.out; omega
          case rel =>
            refine ⟨j + 1, cs1, v1, by have := HJ.out; omega, ?_, by go_num, ?_, ?_, F⟩
            · have e := HOK.out
              rw [HAL.out, HRR.out, ← Bool.and_assoc, e]
              rfl
            · rw [HNX.out, ← HONE.out]
              exact BB
            · exact bn
        | false =>
          go_wp2_with (first
            | ((with_reducible refine gate_dst (N := 12) rfl ?_); go_must (refine ev_alloc rfl 58 rfl _ (cmL ⟨0, 0, 0, 0, 0, 0, [], []⟩) zeroCmd rfl ?_); intro g12 wa hga fa ba; have n1 : gn ≠ g12 := Nat.ne_of_lt (Nat.lt_of_lt_of_le bn.lt hga); have n2 : gb ≠ g12 := Nat.ne_of_lt (Nat.lt_of_lt_of_le BB.blk.lt hga); have hv12 : ∀ k, v.ownBlock = some k → ¬ k = g12 := (fun k hk e => by have := (BB.own.lt k hk).2; have := hga; omega); have bn := bn.no fa; have BB := BB.no fa; have hWa : W.heap.size ≤ g12 := Nat.le_trans F.size hga; have F := F.no fa)
            | ((with_reducible refine gate_store (t := 58) (p := 12) rfl ?_); go_must (refine ev_store_row rfl 58 _ _ rfl g12 (cmL c).toArray rfl rfl 58 _ ba sizeCmd rfl (cmL_one _) ?_); intro wz fz bz; have bz : Blk wz g12 58 (cmL c) := bz; have bn := bn.one fz n1; have BB := BB.keep fz n2 hv12; have F := F.one fz (.inr hWa))
            | ((with_reducible refine gate_dst (N := 31) rfl ?_); go_must (refine ev_load_row rfl 58 _ rfl g12 rfl 58 _ bz _ Try.underlying58 rfl sizeCmd ?_))
            | (go_at_call 29; go_must (refine (HCP.out _).mono ?_); rintro e wp ⟨rfl, fp⟩; have bz := bz.no fp; have bn := bn.no fp; have BB := BB.no fp; have F := F.no fp; have d0 := bz.at_ 0 rfl)
            | (go_at_call 24; have HOB := fun k hk => (BB.own.lt k hk).1; refine (put_any _ _ (printC c) bn BB HTX.out (Nat.le_trans HAC.out (by decide)) (by omega) (by omega) F.size).mono ?_; rintro e wq ⟨rfl, cs1, v1, BB, bn, fq, _⟩; have F := F.trans fq (fun i hi => by rcases hi with hi | hi | hi; exact .inr (hi ▸ hgn'); exact .inr (hi ▸ hgb'); exact .inr (HOB i hi))))
          go_roundg (l.length - (j + 1))
          case measure => have := HJ.out; omega
          case rel =>
            refine ⟨j + 1, cs1, v1, by have := HJ.out; omega, ?_, by go_num, ?_, ?_, F⟩
            · have e := HOK.out
              rw [HAL.out, HRR.out, ← Bool.and_assoc, e]
              rfl
            · rw [HNX.out, ← HONE.out]
              exact BB
            · exact bn
      | false =>
        have HTX : Kp (([] : B).length ≤ 1073741824) := ⟨by have := text_len c; rw [HRR.out] at this; simp⟩
        have CPP := fun w' => cprint_any c w'
        rw [HRR.out] at CPP
        rw [if_neg (by decide), if_neg (by decide)] at CPP
        have HCP := Kp.mk CPP
        have HONE : Kp ((printT (wrap64 (10 + c.kind)) ((j : Int) + 1) []).1 = oneE (j + 1) c) := ⟨by unfold oneE; rw [HRR.out]; rfl⟩
        clear CPP
        cases ok with
        | true =>
          go_wp2_with (first
            | ((with_reducible refine gate_dst (N := 12) rfl ?_); go_must (refine ev_alloc rfl 58 rfl _ (cmL ⟨0, 0, 0, 0, 0, 0, [], []⟩) zeroCmd rfl ?_); intro g12 wa hga fa ba; have n1 : gn ≠ g12 := Nat.ne_of_lt (Nat.lt_of_lt_of_le bn.lt hga); have n2 : gb ≠ g12 := Nat.ne_of_lt (Nat.lt_of_lt_of_le BB.blk.lt hga); have hv12 : ∀ k, v.ownBlock = some k → ¬ k = g12 := (fun k hk e => by have := (BB.own.lt k hk).2; have := hga; omega); have bn := bn.no fa; have BB := BB.no fa; have hWa : W.heap.size ≤ g12 := Nat.le_trans F.size hga; have F := F.no fa)
            | ((with_reducible refine gate_store (t := 58) (p := 12) rfl ?_); go_must (refine ev_store_row rfl 58 _ _ rfl g12 (cmL c).toArray rfl rfl 58 _ ba sizeCmd rfl (cmL_one _) ?_); intro wz fz bz; have bz : Blk wz g12 58 (cmL c) := bz; have bn := bn.one fz n1; have BB := BB.keep fz n2 hv12; have F := F.one fz (.inr hWa))
            | ((with_reducible refine gate_dst (N := 31) rfl ?_); go_must (refine ev_load_row rfl 58 _ rfl g12 rfl 58 _ bz _ Try.underlying58 rfl sizeCmd ?_))
            | (go_at_call 29; go_must (refine (HCP.out _).mono ?_); rintro e wp ⟨rfl, fp⟩; have bz := bz.no fp; have bn := bn.no fp; have BB := BB.no fp; have F := F.no fp; have d0 := bz.at_ 0 rfl)
            | (go_at_call 24; have HOB := fun k hk => (BB.own.lt k hk).1; refine (put_any _ _ [] bn BB HTX.out (Nat.le_trans HAC.out (by decide)) (by omega) (by omega) F.size).mono ?_; rintro e wq ⟨rfl, cs1, v1, BB, bn, fq, _⟩; have F := F.trans fq (fun i hi => by rcases hi with hi | hi | hi; exact .inr (hi ▸ hgn'); exact .inr (hi ▸ hgb'); exact .inr (HOB i hi))))
          go_roundg (l.length - (j + 1))
          case measure => have := HJ.out; omega
          case rel =>
            refine ⟨j + 1, cs1, v1, by have := HJ.out; omega, ?_, by go_num, ?_, ?_, F⟩
            · have e := HOK.out
              rw [HAL.out, HRR.out, ← Bool.and_assoc, e]
              rfl
            · rw [HNX.out, ← HONE.out]
              exact BB
            · exact bn
        | false =>
          go_wp2_with (first
            | ((with_reducible refine gate_dst (N := 12) rfl ?_); go_must (refine ev_alloc rfl 58 rfl _ (cmL ⟨0, 0, 0, 0, 0, 0, [], []⟩) zeroCmd rfl ?_); intro g12 wa hga fa ba; have n1 : gn ≠ g12 := Nat.ne_of_lt (Nat.lt_of_lt_of_le bn.lt hga); have n2 : gb ≠ g12 := Nat.ne_of_lt (Nat.lt_of_lt_of_le BB.blk.lt hga); have hv12 : ∀ k, v.ownBlock = some k → ¬ k = g12 := (fun k hk e => by have := (BB.own.lt k hk).2; have := hga; omega); have bn := bn.no fa; have BB := BB.no fa; have hWa : W.heap.size ≤ g12 := Nat.le_trans F.size hga; have F := F.no fa)
            | ((with_reducible refine gate_store (t := 58) (p := 12) rfl ?_); go_must (refine ev_store_row rfl 58 _ _ rfl g12 (cmL c).toArray rfl rfl 58 _ ba sizeCmd rfl (cmL_one _) ?_); intro wz fz bz; have bz : Blk wz g12 58 (cmL c) := bz; have bn := bn.one fz n1; have BB := BB.keep fz n2 hv12; have F := F.one fz (.inr hWa))
            | ((with_reducible refine gate_dst (N := 31) rfl ?_); go_must (refine ev_load_row rfl 58 _ rfl g12 rfl 58 _ bz _ Try.underlying58 rfl sizeCmd ?_))
            | (go_at_call 29; go_must (refine (HCP.out _).mono ?_); rintro e wp ⟨rfl, fp⟩; have bz := bz.no fp; have bn := bn.no fp; have BB := BB.no fp; have F := F.no fp; have d0 := bz.at_ 0 rfl)
            | (go_at_call 24; have HOB := fun k hk => (BB.own.lt k hk).1; refine (put_any _ _ [] bn BB HTX.out (Nat.le_trans HAC.out (by decide)) (by omega) (by omega) F.size).mono ?_; rintro e wq ⟨rfl, cs1, v1, BB, bn, fq, _⟩; have F := F.trans fq (fun i hi => by rcases hi with hi | hi | hi; exact .inr (hi ▸ hgn'); exact .inr (hi ▸ hgb'); exact .inr (HOB i hi))))
          go_roundg (l.length - (j + 1))
          case measure => have := HJ.out; omega
          case rel =>
            refine ⟨j + 1, cs1, v1, by have := HJ.out; omega, ?_, by go_num, ?_, ?_, F⟩
            · have e := HOK.out
              rw [HAL.out, HRR.out, ← Bool.and_assoc, e]
              rfl
            · rw [HNX.out, ← HONE.out]
              exact BB
            · exact bn
    · obtain rfl : j = l.length := by omega
      have hltz : ¬ (l.length : Int) < (l.length : Int) := by omega
      rw [List.take_length] at BB ⊢
      obtain ⟨acc, hacc⟩ : ∃ acc, encL (headE h) 1 l = acc := ⟨_, rfl⟩
      have hal : acc.length ≤ 80000 := by rw [← hacc]; exact encL_len 80000 (by omega) _ _ _ HE0.out
      have hne : acc ≠ [] := by
        rw [← hacc]
        refine encL_ne _ _ ?_
        rw [headE_eq HP.out HC.out]
        intro e
        have := congrArg List.length e
        rw [rec_len] at this
        simp at this
      rw [hacc] at BB
      have hR := HR.out
      unfold encR at hR
      rw [hacc] at hR
      obtain ⟨ok, hok⟩ : ∃ ok, (okH h && l.all rightC) = ok := ⟨_, rfl⟩
      rw [hok] at hR ⊢
      clear hok
      cases ok with
      | false =>
        rw [if_neg (by decide)] at hR
        subst hR
        go_wp2_with fail
        go_ret2
        exact ⟨rfl, F⟩
      | true =>
        rw [if_pos rfl] at hR
        have HD : Kp ((dg acc).length ≤ 1073741824) := ⟨by rw [dg_len]; decide⟩
        have hfl : (lastE acc (l.length + 1)).length ≤ 80000 := putL_len _ _ _ hal (by have := printT_len 2 ((l.length + 1 : Nat) : Int) (dg acc); rw [dg_len] at this; omega)
        obtain ⟨fin, hfin⟩ : ∃ fin, lastE acc (l.length + 1) = fin := ⟨_, rfl⟩
        have hfne : fin ≠ [] := by rw [← hfin]; exact putL_ne _ hne
        have HFIN : Kp (putL acc (printT 2 ((l.length : Int) + 1) (dg acc)).1 = fin) := ⟨hfin⟩
        rw [hfin] at hR hfl
        have HNE := Kp.mk hne
        have HFN := Kp.mk hfne
        have hn1 : (l.length : Int) ≤ 1000000 := by omega
        have HAL := Kp.mk hal
        clear hne hfne hfin hacc hal
        by_cases h65 : 65536 < fin.length
        · have h65z : (65536 : Int) < (fin.length : Int) := by omega
          rw [if_pos h65] at hR
          subst hR
          go_wp2_with (first
            | (go_at_call 31; have HNV := ownF_ne BB.own bn (by decide); have HOB := fun k hk => (BB.own.lt k hk).1; refine (string_in BB (by first | exact HNE.out | exact HFN.out)).mono ?_; rintro e ws ⟨rfl, BB, fs⟩; have bn := bn.keep fs (fun hh => HNV hh); have F := F.trans fs (fun i hi => .inr (HOB i hi)))
            | ((with_reducible refine gate_dst (N := 51) rfl ?_); refine ev_lit rfl 9 [.string (bs acc)] 1 (by first | (go_simp; done) | (go_simp; rfl)) ?_; intro g5 w5 hg5 f5 b5; have bn := bn.no f5; have BB := BB.no f5; have F := F.no f5)
            | (go_at_call 30; go_must (refine (dgOne_any acc (Nat.le_trans HAL.out (by decide)) _ g5 b5).mono ?_); rintro e wd ⟨rfl, fd⟩; have bn := bn.no fd; have BB := BB.no fd; have F := F.no fd)
            | (go_at_call 24; have HOB := fun k hk => (BB.own.lt k hk).1; go_must (refine (put_any 2 ((l.length : Int) + 1) (dg acc) bn BB HD.out (Nat.le_trans HAL.out (by decide)) (by omega) (by omega) F.size).mono ?_); rintro e wq ⟨rfl, cs1, v1, BB, bn, fq, _⟩; rw [HFIN.out] at BB; have F := F.trans fq (fun i hi => by rcases hi with hi | hi | hi; exact .inr (hi ▸ hgn'); exact .inr (hi ▸ hgb'); exact .inr (HOB i hi)))
            | (go_at_call 26; go_must (refine (len_in BB).mono ?_); rintro e w3 ⟨rfl, hw3⟩; subst hw3))
          go_ret2
          exact ⟨rfl, F⟩
        · have h65z : ¬ (65536 : Int) < (fin.length : Int) := by omega
          rw [if_neg h65] at hR
          subst hR
          go_wp2_with (first
            | (go_at_call 31; have HNV := ownF_ne BB.own bn (by decide); have HOB := fun k hk => (BB.own.lt k hk).1; refine (string_in BB (by first | exact HNE.out | exact HFN.out)).mono ?_; rintro e ws ⟨rfl, BB, fs⟩; have bn := bn.keep fs (fun hh => HNV hh); have F := F.trans fs (fun i hi => .inr (HOB i hi)))
            | ((with_reducible refine gate_dst (N := 51) rfl ?_); refine ev_lit rfl 9 [.string (bs acc)] 1 (by first | (go_simp; done) | (go_simp; rfl)) ?_; intro g5 w5 hg5 f5 b5; have bn := bn.no f5; have BB := BB.no f5; have F := F.no f5)
            | (go_at_call 30; go_must (refine (dgOne_any acc (Nat.le_trans HAL.out (by decide)) _ g5 b5).mono ?_); rintro e wd ⟨rfl, fd⟩; have bn := bn.no fd; have BB := BB.no fd; have F := F.no fd)
            | (go_at_call 24; have HOB := fun k hk => (BB.own.lt k hk).1; go_must (refine (put_any 2 ((l.length : Int) + 1) (dg acc) bn BB HD.out (Nat.le_trans HAL.out (by decide)) (by omega) (by omega) F.size).mono ?_); rintro e wq ⟨rfl, cs1, v1, BB, bn, fq, _⟩; rw [HFIN.out] at BB; have F := F.trans fq (fun i hi => by rcases hi with hi | hi | hi; exact .inr (hi ▸ hgn'); exact .inr (hi ▸ hgb'); exact .inr (HOB i hi)))
            | (go_at_call 26; go_must (refine (len_in BB).mono ?_); rintro e w3 ⟨rfl, hw3⟩; subst hw3))
          go_ret2
          exact ⟨rfl, F⟩
end Go.Proofs.Ytioohhekamjljaa.Wk

/- What wire.Encode answers is the stream. Conditions: sizes are bounded, as written out. -/
set_option linter.unusedSimpArgs false
set_option linter.unusedVariables false
namespace Go.Proofs.Ytioohhekamjljaa.Wk
open Go Go.RowKit Go.Proofs.YtioohhekamjljaaW.PrintWords Go.Proofs.Ytioohhekamjljaa.Crc Go.Proofs.Ytioohhekamjljaa.Wi

theorem putL_le {acc s : B} (h : acc.length ≤ 65536) : putL acc s = acc ++ s := if_pos h
theorem putL_gt {acc s : B} (h : 65536 < acc.length) : putL acc s = acc := if_neg (by omega)
theorem oneE_ok {c : Cm} (hc : rightC c = true) {i : Nat} (hi : i ≤ 2147483647) : oneE i c = recB (cmdR i c) := by
  have R := (right_iff c).1 hc
  have h1 := R.k0
  have h2 := R.k1
  have h3 := R.nm
  have h4 := R.dt
  have hw : wrap64 (10 + c.kind) = c.kind + 10 := by
    unfold wrap64
    omega
  unfold oneE
  rw [hc, hw, if_pos rfl]
  unfold printT
  rw [if_neg (by omega), if_neg (by rw [print_len]; omega), Int.toNat_natCast]
  rfl
theorem encL_stays : ∀ (l : List Cm) (acc : B) (i : Nat), 65536 < acc.length → encL acc i l = acc
  | [], acc, i, h => rfl
  | c :: l, acc, i, h => by
    show encL (putL acc (oneE i c)) (i + 1) l = acc
    rw [putL_gt h]
    exact encL_stays l acc (i + 1) h
theorem encL_rows : ∀ (l : List Cm) (acc : B) (i : Nat), (∀ c ∈ l, rightC c = true) → i + l.length ≤ 2147483647 → acc.length ≤ 65536 →
    ((acc ++ flatR (rowsC i l)).length ≤ 65536 → encL acc i l = acc ++ flatR (rowsC i l)) ∧ (65536 < (acc ++ flatR (rowsC i l)).length → 65536 < (encL acc i l).length)
  | [], acc, i, _, _, ha => by
    have e : acc ++ flatR (rowsC i []) = acc := by simp [rowsC, flatR]
    rw [e]
    exact ⟨fun _ => rfl, fun h => h⟩
  | c :: l, acc, i, hc, hi, ha => by
    have h1 := oneE_ok (hc c (List.mem_cons_self ..)) (i := i) (by omega)
    have e : acc ++ flatR (rowsC i (c :: l)) = (acc ++ recB (cmdR i c)) ++ flatR (rowsC (i + 1) l) := by
      rw [show flatR (rowsC i (c :: l)) = recB (cmdR i c) ++ flatR (rowsC (i + 1) l) from rfl, List.append_assoc]
    have e2 : encL acc i (c :: l) = encL (acc ++ recB (cmdR i c)) (i + 1) l := by
      show encL (putL acc (oneE i c)) (i + 1) l = _
      rw [putL_le ha, h1]
    rw [e, e2]
    by_cases h : (acc ++ recB (cmdR i c)).length ≤ 65536
    · exact encL_rows l _ (i + 1) (fun d hd => hc d (List.mem_cons_of_mem _ hd)) (by rw [List.length_cons] at hi; omega) h
    · rw [encL_stays l _ (i + 1) (by omega)]
      refine ⟨fun h2 => ?_, fun _ => by omega⟩
      rw [List.length_append] at h2
      omega
theorem encR_is (h : Hd) (l : List Cm) (hp : h.parent.length ≤ 1000) (hc : h.child.length ≤ 1000) (hl : l.length ≤ 1000000) :
    encR h l = if okH h && l.all rightC then (if (streamP dg h l).length ≤ 65536 then (streamP dg h l, 0) else ([], 3)) else ([], 2) := by
  unfold encR
  by_cases hok : (okH h && l.all rightC) = true
  · rw [if_pos hok, if_pos hok]
    rw [Bool.and_eq_true] at hok
    obtain ⟨h1, h2⟩ := hok
    have h2' : ∀ c ∈ l, rightC c = true := List.all_eq_true.1 h2
    have e0 : headE h = recB (headR h) := by
      rw [headE_eq hp hc, toldB_ok h1]
      rfl
    have hl0 : (recB (headR h)).length ≤ 65536 := by
      rw [rec_len, show (headR h).pay = headB h from rfl, headB_len h1]
      decide
    have ef : recB (headR h) ++ flatR (rowsC 1 l) = foreP h l := rfl
    have E := encL_rows l (recB (headR h)) 1 h2' (by omega) hl0
    rw [e0]
    rw [ef] at E
    have hlast : ∀ acc : B, (printT 2 ((l.length + 1 : Nat) : Int) (dg acc)).1 = recB ⟨2, l.length + 1, dg acc⟩ := fun acc => by
      unfold printT
      rw [if_neg (by omega), if_neg (by rw [dg_len]; decide), Int.toNat_natCast]
      rfl
    have hsl : (streamP dg h l).length = (foreP h l).length + 43 := by
      rw [streamP_eq, List.length_append, rec_len, show (lastR dg h l).pay = dg (foreP h l) from rfl, dg_len]
    by_cases h3 : (foreP h l).length ≤ 65536
    · rw [E.1 h3]
      have e3 : lastE (foreP h l) (l.length + 1) = streamP dg h l := by
        unfold lastE
        rw [hlast, putL_le h3, streamP_eq]
        rfl
      rw [e3]
      by_cases h4 : (streamP dg h l).length ≤ 65536
      · rw [if_neg (by omega), if_pos h4]
      · rw [if_pos (by omega), if_neg h4]
    · have h4 := E.2 (by omega)
      have e3 : lastE (encL (recB (headR h)) 1 l) (l.length + 1) = encL (recB (headR h)) 1 l := putL_gt h4
      rw [e3, if_pos h4, if_neg (by omega)]
  · rw [if_neg hok, if_neg hok]
end Go.Proofs.Ytioohhekamjljaa.Wk
