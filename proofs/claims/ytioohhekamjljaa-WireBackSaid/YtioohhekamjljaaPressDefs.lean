/- digest.press. -/
import Derived.Test.YtioohhekamjljaaDigPr
import Derived.Test.YtioohhekamjljaaReg
import Derived.Test.YtioohhekamjljaaEv
import Derived.Lib.Hide
set_option linter.unusedSimpArgs false
set_option linter.unusedVariables false
namespace Go.Proofs.Ytioohhekamjljaa.Press
open Go Go.RowKit Go.Proofs.Ytioohhekamjljaa.Sha Go.Proofs.YtioohhekamjljaaW.PrintWords Go.Proofs.YtioohhekamjljaaW.PrintLast Go.Proofs.Ytioohhekamjljaa.PWireTells Go.Proofs.Ytioohhekamjljaa.Reg Go.Proofs.Ytioohhekamjljaa.Ev

theorem and31 : ∀ k : Nat, k < 32 → Go.bits .and .u64 (IntKind.u64.wrap (k : Int)) 31 = (k : Int) := by decide +kernel
theorem sub32 : ∀ k : Nat, k < 32 → IntKind.u64.wrap (32 - (k : Int)) = (32 - (k : Int)) := by decide +kernel

theorem rot_any (x k : Int) (h0 : 0 ≤ k) (h1 : k < 32) (w : World) :
    Calls Try.prog 68 #[.int .u32 x, .int .i64 k] w fun e w' => e = .returned (.int .u32 (rl x k)) ∧ ∃ n, w' = w.drewN n := by
  refine (bits_RotateLeft32.calls x k (rl x k) w ?_).mono fun e w' ⟨h1, h2⟩ => ⟨h1, h2.out⟩
  obtain ⟨n, rfl⟩ := Int.eq_ofNat_of_zero_le h0
  unfold bits_RotateLeft32.f
  rw [and31 n (by omega), sub32 n (by omega), if_pos (by omega), if_pos (by omega)]
  rfl

abbrev Arr (w : World) (g : Nat) (t : TypeId) (ns : List Int) : Prop := Blk w g t (nums .u32 ns)
theorem Arr.at_ {w : World} {g : Nat} {t : TypeId} {ns : List Int} (h : Arr w g t ns) (i : Nat) (hi : i < ns.length) : w.cell? ⟨g, i, none⟩ = some (.int .u32 (ns.getD i 0)) :=
  Blk.at_ h i (by simp [nums, hi, List.getD])

theorem size82 : (Try.prog.info? 113).map (·.size) = some 8 := by kernel_rfl
theorem size81 : (Try.prog.info? 66).map (·.size) = some 1 := by kernel_rfl
theorem size83 : (Try.prog.info? 114).map (·.size) = some 64 := by kernel_rfl
theorem zero82 : (Try.prog.info? 113).bind (·.zero) = some (.agg (nums .u32 (List.replicate 8 0)).toArray) := by kernel_rfl
theorem zero83 : (Try.prog.info? 114).bind (·.zero) = some (.agg (nums .u32 (List.replicate 64 0)).toArray) := by kernel_rfl
def z8 : List Int := List.replicate 8 0
def z64 : List Int := List.replicate 64 0
theorem z8_len : z8.length = 8 := by simp [z8]
theorem z64_len : z64.length = 64 := by simp [z64]
theorem nums_one (l : List Int) : (nums .u32 l).toArray.all (·.oneCell') = true := by
  simp [nums, Value.oneCell']


noncomputable def body55 : Code := Try.f49.body.getD .skip
/-- What press leaves. -/
def Pressed (gk : Nat) (w : World) (ns : List Int) (e : Ending) (w' : World) : Prop := e = .returned (.tuple #[]) ∧ Fr (One gk) w w' ∧ Arr w' gk 113 ns
/-- What holds at the label. -/
def AtLabel (s : ByteArray) (H T : List Int) (w : World) (gw gv t : Nat) (w' : World) : Prop :=
  t < 64 ∧ Fr No w w' ∧ Arr w' gw 114 (pad s t) ∧ Arr w' gv 113 (vs s H T t) ∧ w.heap.size ≤ gw ∧ w.heap.size ≤ gv

end Go.Proofs.Ytioohhekamjljaa.Press
