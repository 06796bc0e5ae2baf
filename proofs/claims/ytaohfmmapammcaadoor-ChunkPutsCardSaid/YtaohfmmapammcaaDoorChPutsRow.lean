/- The card ChunkPuts: the row of the law, its listed variables tied to the program's text. No conditions beside the statement's own. -/
import Derived.Test.YtaohfmmapammcaaDoorChPuts
import Derived.Test.YtaohfmmapammcaaDoorChRowP
set_option linter.unusedSimpArgs false
set_option linter.unusedVariables false
namespace Go.Proofs.YtaohfmmapammcaaDoor
open Go.ChangeShapes Go.WideShapes Go.ChangeAt Go.RowKit

set_option maxRecDepth 100000 in
theorem chunkPuts_lifted (os : Os) (started : os.Started) (H : Type) (enc : TypeId × Value → H) (F : Stop.Interp) :
    ReturnsInHanded {} Tryd.checked os 6 .any ((OpenSpec.ofChange Rows.chunkPutsSpec).preRow enc Tryd.prog Tryd.f6 Rows.chunkPutsRow.domain false Rows.chunkPutsRow.laid) (((OpenSpec.ofChange Rows.chunkPutsSpec).at F).post enc Tryd.prog Tryd.f6 false true false false) := by
  have hx : ∃ places, DataW.whole enc Tryd.prog ((World.laidAll Tryd.prog os Rows.chunkPutsRow.laid).forCall (fun _ _ => 0) ⟨#[], #[.string ⟨#[]⟩, .int .i64 0, .string ⟨#[]⟩], []⟩).memory Tryd.f6.params.toList Rows.chunkPutsSpec.vars false #[Value.string ⟨#[]⟩, .int .i64 0, .string ⟨#[]⟩].toList 8 = some ([.lit (.string []), .lit (.int .i64 0), .lit (.string [])], [], places) := ⟨[], by kernel_rfl⟩
  obtain ⟨places, hx⟩ := hx
  refine returnsInHanded_of_row (C := Tryd.checked) (s := OpenSpec.ofChange Rows.chunkPutsSpec) Tryd.own started (by kernel_rfl) Tryd.func6
    (witness_row (enc := enc) (C := Tryd.checked) false (World.laidAll Tryd.prog os Rows.chunkPutsRow.laid) #[.string ⟨#[]⟩, .int .i64 0, .string ⟨#[]⟩] (World.laidAll_os _ _ _) (World.shaped_of_ZipB (by kernel_rfl) (by kernel_rfl)) (by kernel_rfl)
      (OpenSpec.preRow_of_cond 8 hx (by kernel_rfl) (fun k hk => by cases hk) (by kernel_rfl) (by rw [MakeChecks.laidMetH_plain _ _ _ (by kernel_rfl)]; exact laidMet_laidAll _ (by kernel_rfl) (by kernel_rfl)))) ?_
  intro W base args ds gs before hval0 hW _ _ hsz0 _ _ _
  have hszz : (DataW.weightsEach Tryd.prog (Tryd.f6.params.toList ++ Rows.chunkPutsSpec.plain.varTypes Tryd.prog) (ds ++ gs)).all (· ≤ reachBytes) = true := hsz0
  clear hsz0
  have hval : ∀ (j : Nat) t v, Tryd.f6.params[j]? = some t → args[j]? = some v → Value.okWide Tryd.prog W .any base t v := hval0
  have hW' := hW
  obtain ⟨p, q, hA0, hV, rfl, _, _⟩ := hW
  have hA : DataW.TrodAll enc Tryd.prog W 0 (fun _ => true) true Tryd.f6.params.toList args.toList ds p := hA0
  rw [Tryd.params6] at hA hval hszz
  obtain ⟨v0, v1, v2, d0, d1, d2, p0, p1, p2, rfl, rfl, rfl, h0, h1, h2⟩ := trodAll_three hA
  obtain ⟨rfl, rfl⟩ := trodVars_none hV
  obtain ⟨a0, rfl, rfl, rfl, b0⟩ := Go.ChangeMaps.open_string Tryd.underlying9 (hval 0 9 v0 rfl rfl) h0
  obtain ⟨a1, rfl, rfl, rfl, b1⟩ := open_int Tryd.underlying3 (hval 1 3 v1 rfl rfl) h1
  obtain ⟨a2, rfl, rfl, rfl, b2⟩ := Go.ChangeMaps.open_string Tryd.underlying9 (hval 2 9 v2 rfl rfl) h2
  have z0 := sized_string hszz (j := 0) (t := 9) rfl rfl
  have z1 := int_bounds b1
  have z2 := sized_string hszz (j := 2) (t := 9) rfl rfl
  have hrb : reachBytes < 2 ^ 47 := reachBytes_lt
  simp only [List.append_nil] at hW'
  refine (Ch.puts_any a0.data.toList a1 a2.data.toList (by omega) (by omega) W).mono fun e W' ⟨he, hf⟩ => ?_
  subst he
  have hnx := hf.below
  refine ⟨_, rfl, _, _, _, [], [] ++ ([] ++ []), [], hW', ?_, trodAll_mk3 (Go.ChangeMaps.shut_string Tryd.underlying9 b0) (shut_int Tryd.underlying3 b1) (Go.ChangeMaps.shut_string Tryd.underlying9 b2), rfl, hnx.frame _, fun h => by cases h⟩
  exact trodAll_mk1 (shut_bool Tryd.underlying4 true)

theorem chunkPuts_said : Rows.ChunkPutsSaid :=
  OpenClaim.holds_of_cond 6 Tryd.f6 rfl rfl rfl rfl rfl rfl rfl ⟨rfl, rfl, rfl, rfl, rfl⟩ rfl rfl rfl rfl rfl (by kernel_rfl) Tryd.func6 (by kernel_rfl)
    (of_decide_eq_true (by kernel_rfl)) (by unfold Func.isWrapper; first | (rw [if_pos (by decide +kernel)]; kernel_rfl) | (rw [if_neg (by decide +kernel)]; exact ⟨rfl, rfl⟩))
    (fun os started H enc _ F => by rw [OpenClaim.pre_eq_preRow]; exact chunkPuts_lifted os started H enc F)

theorem chunkPuts_plain (f : FuncId) (fn : Func) (hf : Tryd.pinned.checked.prog.funcNamed "snapferry/snapferrylaw06.ChunkPuts" = some f) (hfn : Tryd.pinned.checked.prog.funcs[f]? = some fn) :
    false = Tryd.pinned.checked.prog.looks [] ∧ ∀ (j : Nat) t, fn.params[j]? = some t → Tryd.pinned.checked.prog.wantsStandIn t = false := by
  obtain rfl : f = 6 := Option.some.inj ((show Tryd.prog.funcNamed "snapferry/snapferrylaw06.ChunkPuts" = some 6 by kernel_rfl).symm.trans hf) |>.symm
  obtain rfl : fn = Tryd.f6 := (Option.some.inj (Tryd.func6.symm.trans hfn)).symm
  refine ⟨by kernel_rfl, fun j t ht => ?_⟩
  rw [Tryd.params6] at ht
  have hm : t ∈ [9, 3, 9] := by simpa using Array.mem_of_getElem? ht
  have hall : ([9, 3, 9].all fun u => !Tryd.prog.wantsStandIn u) = true := by kernel_rfl
  exact (show Tryd.prog.wantsStandIn t = false by simpa using List.all_eq_true.1 hall t hm)

theorem chunkPuts_card : Rows.ChunkPutsCardSaid :=
  Claim7.holds_tied_plain_at .later [] _ _ _ _ chunkPuts_said (fun _ h => by cases h) (by kernel_rfl) (fun _ h => by cases h) chunkPuts_row_tie rfl ⟨rfl, rfl⟩ (by kernel_rfl) rfl chunkPuts_plain (by kernel_rfl)
end Go.Proofs.YtaohfmmapammcaaDoor
