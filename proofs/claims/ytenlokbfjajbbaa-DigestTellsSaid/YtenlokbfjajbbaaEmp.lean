/- 'append(v, none...)' where both are empty. -/
import Derived.Test.YtenlokbfjajbbaaAwake
set_option linter.unusedSimpArgs false
set_option linter.unusedVariables false
namespace Go.Proofs.Ytenlokbfjajbbaa.RefSum
open Go Go.RowKit Go.Proofs.Ytenlokbfjajbbaa.Sha Go.Proofs.YtenlokbfjajbbaaW.PrintWords Go.Proofs.YtenlokbfjajbbaaW.PrintLast Go.Proofs.Ytenlokbfjajbbaa.PDigestTells Go.Proofs.Ytenlokbfjajbbaa.Reg Go.Proofs.Ytenlokbfjajbbaa.Ev Go.Proofs.Ytenlokbfjajbbaa.Press Go.Proofs.Ytenlokbfjajbbaa.Dig
theorem run_append_empty (o : Oper) (a : Act) (W : World) (g c : Nat) (A : Option Addr) (ho : o.op = .call { callee := .builtin .append, args := #[.tmp 12, .tmp 13], argTypes := #[22, 22] }) (h1 : a.eval (.tmp 12) = .slice (some ⟨g, 0, none⟩) 0 0) (h2 : a.eval (.tmp 13) = .slice A 0 c) :
    (execOp a.eval o).run Try.prog W = .ok (.value (.slice (some ⟨g, 0, none⟩) 0 0)) W := by
  have hsz : (sizeOf 9).run Try.prog W = .ok 1 W := by
    obtain ⟨i0, hi0, hz0, hz1, hz2⟩ := info_parts info9
    simp [sizeOf, typeInfo, hi0, hz1]
  cases A <;> simp [execOp, ho, h1, h2, resolve, invoke, builtin, Builtin.append_, run_underlying Try.underlying22, hsz, Builtin.lenOf, Builtin.firstCells, storeCells, loadCells, loadCellsFrom, Sem.run_bind, Sem.run_pure, Result.andThen]
end Go.Proofs.Ytenlokbfjajbbaa.RefSum
