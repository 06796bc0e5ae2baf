/- The reference's Sum: its callees, its frames. No conditions beside those written out. -/
import Derived.Test.YtaohfmmapammcaaDoorSum
import Derived.Test.YtaohfmmapammcaaDoorOwn
import Derived.Test.YtaohfmmapammcaaDoorRefSha
set_option linter.unusedSimpArgs false
set_option linter.unusedVariables false
namespace Go.Proofs.YtaohfmmapammcaaDoor.RefSum
open Go Go.RowKit Go.Proofs.YtaohfmmapammcaaDoor.Sha Go.Proofs.YtaohfmmapammcaaDoorW.PrintWords Go.Proofs.YtaohfmmapammcaaDoorW.PrintLast Go.Proofs.YtaohfmmapammcaaDoor.PChunkTells Go.Proofs.YtaohfmmapammcaaDoor.Reg Go.Proofs.YtaohfmmapammcaaDoor.Ev Go.Proofs.YtaohfmmapammcaaDoor.Press Go.Proofs.YtaohfmmapammcaaDoor.Dig

theorem turn_fn : ∀ k : Nat, k < 32 → IntKind.u64.wrap (32 - (k : Int)) = 32 - (k : Int) := by decide +kernel
theorem turn_any (x k : Int) (h0 : 0 ≤ k) (h1 : k < 32) (w : World) :
    Calls Tryd.prog 40 #[.int .u32 x, .int .u64 k] w fun e w' => e = .returned (.int .u32 (rl x (32 - k))) ∧ ∃ n, w' = w.drewN n := by
  refine (snapferryref01_turn.calls x k (rl x (32 - k)) w ?_).mono fun e w' ⟨h1, h2⟩ => ⟨h1, h2.out⟩
  obtain ⟨n, rfl⟩ := Int.eq_ofNat_of_zero_le h0
  unfold snapferryref01_turn.f
  rw [turn_fn n (by omega), if_pos (by omega), if_pos (by omega), or_comm32]
  unfold rl
  rw [show (32 - (32 - (n : Int))) = (n : Int) by omega]

noncomputable def body14 : Code := Tryd.f31.body.getD .skip
/-- The block's bytes, in the text's row. -/
structure Bytes (w : World) (g o : Nat) (s : ByteArray) : Prop where mk :: (out : ∀ j, j < 64 → w.cell? ⟨g, o + j, none⟩ = some (.int .u8 (bAt s j)))
theorem Bytes.keep {S : Nat → Prop} {w w1 : World} {g o : Nat} {s : ByteArray} (h : Bytes w g o s) (f : Fr S w w1) (hn : ¬ S g) : Bytes w1 g o s := ⟨fun j hj => Fr.cell (h.out j hj) f hn⟩
end Go.Proofs.YtaohfmmapammcaaDoor.RefSum
