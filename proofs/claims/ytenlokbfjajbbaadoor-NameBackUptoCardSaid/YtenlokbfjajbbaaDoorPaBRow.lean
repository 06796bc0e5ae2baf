/- The second form's card NameBack: the row of the law, its listed variables tied to the program's text. The statement's own condition: what is read is of bulk at most the number in the given rows. -/
import Derived.Test.YtenlokbfjajbbaaDoorPaBack
import Derived.Test.YtenlokbfjajbbaaDoorCards
import Derived.Test.YtenlokbfjajbbaaDoorTie
import Derived.ProofKit
import Derived.OpenShut
import Derived.Deep.DeepHandedRow
import Derived.Lay
import Derived.ChangeMaps5
import Derived.SliceStrings
import Derived.SevenTiedAt
set_option linter.unusedSimpArgs false
set_option linter.unusedVariables false
namespace Go.Proofs.YtenlokbfjajbbaaDoor
open Go.ChangeShapes Go.WideShapes Go.ChangeAt Go.RowKit

theorem Tryd.own : ownKnob Tryd.prog.godebug = none := by kernel_rfl
theorem Tryd.laidOut : laidOutB Tryd.prog = true := by kernel_rfl
/-- An input that fits, at a world that is written out. -/
theorem witness_row {H : Type} {enc : TypeId × Value → H} {C : Checked} {os : Os} {f : FuncId} {fn : Func} {s : OpenSpec} {conds : List PathCond} {apart : Bool} {laid : List (String × DataW Unit)} (modest : Bool) (w0 : World) (args : Array Value) (hos : w0.os = os)
    (hsh : (w0.forCall (fun _ _ => 0) ⟨#[], args, []⟩).Shaped C.prog)
    (hok : Input.okWideB C.prog (w0.forCall (fun _ _ => 0) ⟨#[], args, []⟩) f ⟨#[], args, []⟩ = true)
    (hrow : s.preRow enc C.prog fn conds apart laid (w0.forCall (fun _ _ => 0) ⟨#[], args, []⟩).memory args) :
    ∃ (w : World) (tape : Tape) (i : Input), w.os = os ∧ (w.forCall tape i).Shaped C.prog ∧ i.vars = [] ∧ Input.okWide C.prog (w.forCall tape i) .any w.heap.size f i ∧
      s.preRow enc C.prog fn conds apart laid (w.forCall tape i).memory i.args ∧ ({ modest := modest } : Assume).holds C.prog (lone (Frame.enter C.prog f i.args .normal) [] (w.forCall tape i)) :=
  ⟨w0, fun _ _ => 0, ⟨#[], args, []⟩, hos, hsh, (Input.okWide_of_okWideB (base := 0) hok).1, (Input.okWide_of_okWideB hok).2, hrow, by
    simp only [Assume.holds]
    exact ⟨by simp, by simp, fun _ => Modest.zero, by simp, by simp⟩⟩
/-- What the row's shape gives: the library's variable is set. -/
theorem glob_of {W : World} (h : W.ShapedOpen Tryd.prog) : Pa.Glob W :=
  ⟨Go.Proofs.cell_of_shapedOpen_int (zero := #[.int .i64 0]) (t := 3) h (of_decide_eq_true (by kernel_rfl)) (by kernel_rfl) rfl (by kernel_rfl) (by kernel_rfl) Tryd.underlying3⟩

theorem Tryd.cellsStr : Tryd.prog.cellsOf 9 = 1 := by kernel_rfl
theorem glue_sum : ∀ xs : List (List UInt8), (Pa.glue xs).length ≤ (xs.map (fun x => x.length + 1)).sum
  | [] => by simp [Pa.glue]
  | [x] => by simp [Pa.glue]
  | x :: y :: r => by
    have ih := glue_sum (y :: r)
    rw [Pa.glue_cons (by simp), List.length_append, List.length_cons, List.map_cons, List.sum_cons]
    omega
theorem bulk_strs {H : Type} : ∀ l : List ByteArray, Rows.uptoBulkAll (strs (H := H) l) = ((l.map (fun x => x.data.toList)).map (fun x => x.length + 1)).sum
  | [] => rfl
  | s :: l => by
    have ih := bulk_strs (H := H) l
    simp only [strs, List.map_cons, Rows.uptoBulkAll, Rows.uptoBulk, List.sum_cons] at ih ⊢
    rw [ih]

set_option maxRecDepth 100000 in
theorem nameBack_lifted (os : Os) (started : os.Started) (H : Type) (enc : TypeId × Value → H) (F : Stop.Interp) :
    ReturnsInHanded {} Tryd.checked os 4 .any ((Rows.OpenSpec.upto Rows.nameBackSpec).preRow enc Tryd.prog Tryd.f4 Rows.nameBackUptoRow.domain false Rows.nameBackUptoRow.laid) (((Rows.OpenSpec.upto Rows.nameBackSpec).at F).post enc Tryd.prog Tryd.f4 false true false false) := by
  have hx : ∃ places, DataW.whole enc Tryd.prog ((World.laidAll Tryd.prog os Rows.nameBackUptoRow.laid).forCall (fun _ _ => 0) ⟨#[], #[.string ⟨#[]⟩, .slice none 0 0], []⟩).memory Tryd.f4.params.toList Rows.nameBackSpec.vars false #[Value.string ⟨#[]⟩, .slice none 0 0].toList 8 = some ([.lit (.string []), .nil], [], places) := ⟨[], by kernel_rfl⟩
  obtain ⟨places, hx⟩ := hx
  refine returnsInHanded_of_row (C := Tryd.checked) (s := Rows.OpenSpec.upto Rows.nameBackSpec) Tryd.own started (by kernel_rfl) Tryd.func4
    (witness_row (enc := enc) (C := Tryd.checked) false (World.laidAll Tryd.prog os Rows.nameBackUptoRow.laid) #[.string ⟨#[]⟩, .slice none 0 0] (World.laidAll_os _ _ _) (World.shaped_of_ZipB (by kernel_rfl) (by kernel_rfl)) (by kernel_rfl)
      (OpenSpec.preRow_of_cond 8 hx (by kernel_rfl) (fun k hk => by cases hk; kernel_rfl) (by kernel_rfl) (by rw [MakeChecks.laidMetH_plain _ _ _ (by kernel_rfl)]; exact laidMet_laidAll _ (by kernel_rfl) (by kernel_rfl)))) ?_
  intro W base args ds gs before hval0 hW _ hcond _ _ hshape _
  have hg := glob_of hshape
  have hval : ∀ (j : Nat) t v, Tryd.f4.params[j]? = some t → args[j]? = some v → Value.okWide Tryd.prog W .any base t v := hval0
  have hW' := hW
  obtain ⟨p, q, hA0, hV, rfl, _, _⟩ := hW
  have hA : DataW.TrodAll enc Tryd.prog W 0 (fun _ => true) true Tryd.f4.params.toList args.toList ds p := hA0
  rw [Tryd.params4] at hA hval
  obtain ⟨v0, v1, d0, d1, p0, p1, rfl, rfl, rfl, h0, h1⟩ := trodAll_two hA
  obtain ⟨rfl, rfl⟩ := trodVars_none hV
  obtain ⟨a, rfl, rfl, rfl, ha⟩ := Go.ChangeMaps.open_string Tryd.underlying9 (hval 0 9 v0 rfl rfl) h0
  obtain ⟨a0, len, cap, rfl⟩ := okWide_slice Tryd.underlying22 (hval 1 22 v1 rfl rfl)
  have h1k := h1
  obtain ⟨fuel, hf⟩ := h1
  clear hA0 hval0
  simp only [List.append_nil, List.nil_append] at hW'
  have hlt : ∀ x ∈ p1, x.block < W.heap.size := fun x hx => by simpa using hW'.lt x hx
  have hargs : ∀ (W' : World), Below W.heap.size W W' → DataW.Trod enc Tryd.prog W' 0 (fun b => decide (b < W.heap.size)) true 22 (.slice a0 len cap) d1 p1 :=
    fun W' hn => Below.trod Tryd.laidOut (by kernel_rfl) (of_decide_eq_true (by kernel_rfl)) h1k hn hlt
  have hk : Rows.uptoBulkAll ([DataW.lit (Lit.string a.data.toList), d1] ++ []) ≤ 1048576 := of_decide_eq_true (hcond _ rfl)
  have hS : ∃ xs, Ev.StrS W (.slice a0 len cap) xs ∧ (Pa.glue (xs.map (·.data.toList))).length < 4294967280 := by
    rcases open_strings Tryd.underlying22 Tryd.underlying9 Tryd.cellsStr hf with ⟨hcs, _⟩ | ⟨a', len', cap', ss, hcs, _, hl, hmx, hz, hx', hcell, hsz⟩
    · simp [Value.cells] at hcs
      obtain ⟨rfl, rfl, rfl⟩ := hcs
      exact ⟨[], Ev.StrS.nil _, by simp [Pa.glue]⟩
    · simp [Value.cells] at hcs
      obtain ⟨rfl, rfl, rfl⟩ := hcs
      simp only [if_true] at hz
      simp only [Prod.mk.injEq] at hx'
      obtain ⟨rfl, rfl⟩ := hx'
      have hl2 : (ss.take len).length = len := by rw [List.length_take]; omega
      have hget : ∀ j, j < len → W.cell? (a'.add j) = some (.string ((ss.take len).getD j ByteArray.empty)) := fun j hj => by
        have := hcell j (by omega)
        rw [this]
        simp [List.getD_eq_getElem?_getD, List.getElem?_take, hj]
      refine ⟨ss.take len, ⟨⟨some a', cap, by rw [hl2], by rw [hl2]; exact hl, by simpa [maxLen] using Nat.le_trans hmx (by decide), fun hp => ?_⟩⟩, ?_⟩
      · rw [hl2] at hp
        obtain ⟨b, o, sp⟩ := a'
        have h00 := hget 0 hp
        cases sp with
        | some q =>
          exfalso
          simp [World.cell?, Addr.add] at h00
          try (split at h00 <;> simp_all)
        | none =>
          refine ⟨b, o, rfl, ?_, fun j hj => ?_⟩
          · rw [Addr.add_lit] at h00
            exact World.block_lt_of_cell? W _ h00
          · rw [hl2] at hj
            have := hget j hj
            rwa [Addr.add_lit] at this
      · have h2 := glue_sum ((ss.take len).map (·.data.toList))
        have h3 := bulk_strs (H := H) (ss.take len)
        simp only [List.cons_append, List.nil_append, Rows.uptoBulkAll, Rows.uptoBulk] at hk
        omega
  obtain ⟨xs, hS, hgl⟩ := hS
  refine (Pa.back_law a _ xs W hg hS (fun _ => hgl)).mono fun e W' ⟨he, hf⟩ => ?_
  subst he
  have hnx := hf.below
  refine ⟨_, rfl, _, _, _, [], [] ++ p1, [], hW', ?_, trodAll_mk2 (Go.ChangeMaps.shut_string Tryd.underlying9 ha) (hargs _ hnx), rfl, hnx.frame _, fun h => by cases h⟩
  exact trodAll_mk1 (shut_bool Tryd.underlying4 true)

theorem nameBack_said : Rows.NameBackUptoSaid :=
  OpenClaim.holds_of_cond 4 Tryd.f4 rfl rfl rfl rfl rfl rfl rfl ⟨rfl, rfl, rfl, rfl, rfl⟩ rfl rfl rfl rfl rfl (by kernel_rfl) Tryd.func4 (by kernel_rfl)
    (of_decide_eq_true (by kernel_rfl)) (by unfold Func.isWrapper; first | (rw [if_pos (by decide +kernel)]; kernel_rfl) | (rw [if_neg (by decide +kernel)]; exact ⟨rfl, rfl⟩))
    (fun os started H enc _ F => by rw [OpenClaim.pre_eq_preRow]; exact nameBack_lifted os started H enc F)

theorem nameBack_plain (f : FuncId) (fn : Func) (hf : Tryd.pinned.checked.prog.funcNamed "snapferry/snapferrylaw09.NameBack" = some f) (hfn : Tryd.pinned.checked.prog.funcs[f]? = some fn) :
    false = Tryd.pinned.checked.prog.looks [] ∧ ∀ (j : Nat) t, fn.params[j]? = some t → Tryd.pinned.checked.prog.wantsStandIn t = false := by
  obtain rfl : f = 4 := Option.some.inj ((show Tryd.prog.funcNamed "snapferry/snapferrylaw09.NameBack" = some 4 by kernel_rfl).symm.trans hf) |>.symm
  obtain rfl : fn = Tryd.f4 := (Option.some.inj (Tryd.func4.symm.trans hfn)).symm
  refine ⟨by kernel_rfl, fun j t ht => ?_⟩
  rw [Tryd.params4] at ht
  have hm : t ∈ [9, 22] := by simpa using Array.mem_of_getElem? ht
  have hall : ([9, 22].all fun u => !Tryd.prog.wantsStandIn u) = true := by kernel_rfl
  exact (show Tryd.prog.wantsStandIn t = false by simpa using List.all_eq_true.1 hall t hm)

theorem nameBack_card : Rows.NameBackUptoCardSaid :=
  Claim7.holds_tied_plain_at .later [] _ _ _ _ nameBack_said (fun _ h => by cases h) (by kernel_rfl) (fun _ h => by cases h) nameBackUpto_row_tie rfl ⟨rfl, rfl⟩ (by kernel_rfl) rfl nameBack_plain (by kernel_rfl)
end Go.Proofs.YtenlokbfjajbbaaDoor
