/- Steps of a region that draws its order: a new block, a row stored; texts in memory. No conditions beside those written out. -/
import Derived.Test.YtioohhekamjljaaEv2
import Derived.Test.YtioohhekamjljaaWLast
set_option linter.unusedSimpArgs false
set_option linter.unusedVariables false
namespace Go.Proofs.Ytioohhekamjljaa.Ev
open Go Go.RowKit

section
variable {P : Program} {ops : Array Oper} {rest : List Oper} {o : Oper} {a : Act} {Q : Exit → Act → World → Prop} {W : World} {K : Act → World → Prop} {E : Prop}
/-- A new block as one step of a region that draws. -/
theorem step_alloc {N : Option Tmp} (hgd : o.guard = none) (hd : o.dst = N) (t : TypeId) (ho : o.op = .alloc t) (z : Value) (zs : List Value) (hz : (P.info? t).bind (·.zero) = some z) (hzs : z.cells = zs.toArray)
    (h : ∀ g w1, W.heap.size ≤ g → Fr No W w1 → Blk w1 g t zs → K (a.put N (.pointer (some ⟨g, 0, none⟩))) w1) : if Region.wanted o (yielded ops a.tmps) = true then Oper.wp P o a W K Q else E := by
  have hw : Region.wanted o (yielded ops a.tmps) = true := by simp [Region.wanted, hgd]
  rw [if_pos hw]
  have hzr : (zeroValue t).run P W = .ok z W := by
    obtain ⟨i, hi, hiz⟩ := Option.bind_eq_some_iff.1 hz
    simp [zeroValue, typeInfo, hi, hiz]
  have hrun : (execOp a.eval o).run P W = .ok (.value (.pointer (some ⟨W.heap.size, 0, none⟩))) (W.alloc (.cells z.cells t (0, 0))) := by
    simp [execOp, ho, Instr.alloc, hzr, newVar, newRow, Sem.run_bind, Result.andThen]
  unfold Oper.wp
  rw [hrun]
  subst hd
  exact h _ _ (Nat.le_refl _) (Fr.alloc _ _) (by rw [hzs]; exact Blk.new W t zs)
/-- A row stored as one step of a region that draws. -/
theorem step_store_row (hgd : o.guard = none) (hd : o.dst = none) (ty : TypeId) (x y : Operand) (ho : o.op = .store ty x y) (g : Nat) (vs : Array Value) (hx : a.eval x = .pointer (some ⟨g, 0, none⟩)) (hy : a.eval y = .agg vs)
    (t : TypeId) (cs : List Value) (hb : Blk W g t cs) (hi : (P.info? ty).map (·.size) = some vs.size) (hl : cs.length = vs.size) (h1 : vs.all (·.oneCell') = true)
    (h : ∀ w1, Fr (One g) W w1 → Blk w1 g t vs.toList → K (a.put none undef) w1) : if Region.wanted o (yielded ops a.tmps) = true then Oper.wp P o a W K Q else E := by
  have hw : Region.wanted o (yielded ops a.tmps) = true := by simp [Region.wanted, hgd]
  rw [if_pos hw]
  refine wp_store_row ty x y ho g vs hx hy t cs.toArray hb.out hi (by simpa using hl) h1 ?_
  rw [hd]
  exact h _ (Fr.setRow _ _ _) (by simpa using hb.row vs.toList)
end

section
open Go.Proofs.YtioohhekamjljaaW.PrintLast
/-- What a region leaves, once for all its orders: u the values that play no part any more, t those that do. -/
def Leaves {τ : Type} (a : Act) (ns : (Nat → Value) → τ → List (Tmp × Value)) (F : τ → World → Prop) (e : Exit) (a' : Act) (w' : World) : Prop := e = .normal ∧ ∃ u t, a' = putAll a (ns u t) ∧ F t w'
theorem Leaves.pan {τ : Type} {a : Act} {ns : (Nat → Value) → τ → List (Tmp × Value)} {F : τ → World → Prop} {c : List PanicEntry} {a' : Act} {w' : World} {p : Prop} (h : Leaves a ns F (.panic c) a' w') : p := by
  have := h.1
  cases this
theorem region_join {P : Program} {c : Code} {Q : Exit → Act → World → Prop} {a : Act} {w : World} {τ : Type} (ns : (Nat → Value) → τ → List (Tmp × Value)) (F : τ → World → Prop)
    (h : c.wp P (Leaves a ns F) a w) (hcont : ∀ u t w', F t w' → Q .normal (putAll a (ns u t)) w') : c.wp P Q a w := by
  refine Code.wp_mono (fun e a' w' hh => ?_) h
  obtain ⟨rfl, u, t, rfl, hF⟩ := hh
  exact hcont u t w' hF
theorem join_fin {a a' : Act} {w' : World} {τ : Type} {ns : (Nat → Value) → τ → List (Tmp × Value)} {F : τ → World → Prop} (t : τ) (hF : F t w') (h : putAll a (ns (fun i => a'.tmps.getD i undef) t) = a') :
    Leaves a ns F .normal a' w' := ⟨rfl, _, t, h.symm, hF⟩
end

/-- The slice v reads as the texts xs. -/
structure StrS (w : World) (v : Value) (xs : List ByteArray) : Prop where
  out : ∃ A c, v = .slice A xs.length c ∧ xs.length ≤ c ∧ c ≤ 9223372036854775807 ∧ (0 < xs.length → ∃ b o, A = some ⟨b, o, none⟩ ∧ b < w.heap.size ∧
    ∀ j, j < xs.length → w.cell? ⟨b, o + j, none⟩ = some (.string (xs.getD j ByteArray.empty)))
theorem StrS.nil (w : World) : StrS w (.slice none 0 0) [] := ⟨⟨none, 0, rfl, Nat.le_refl _, by omega, fun h => absurd h (by simp)⟩⟩
theorem StrS.keep {S : Nat → Prop} {w w' : World} {v : Value} {xs : List ByteArray} (h : StrS w v xs) (f : Fr S w w') (hn : ∀ b, b < w.heap.size → (∃ o n c, v = .slice (some ⟨b, o, none⟩) n c) → ¬ S b) : StrS w' v xs := by
  obtain ⟨A, c, rfl, h1, h2, h3⟩ := h.out
  refine ⟨⟨A, c, rfl, h1, h2, fun hp => ?_⟩⟩
  obtain ⟨b, o, rfl, hb, hc⟩ := h3 hp
  have hnb := hn b hb ⟨o, _, _, rfl⟩
  exact ⟨b, o, rfl, Nat.lt_of_lt_of_le hb f.size, fun j hj => Fr.cell (hc j hj) f hnb⟩
theorem StrS.no {w w' : World} {v : Value} {xs : List ByteArray} (h : StrS w v xs) (f : Fr No w w') : StrS w' v xs := h.keep f (fun _ _ _ hh => hh)
theorem StrS.one {w : World} {v : Value} {xs : List ByteArray} (h : StrS w v xs) : v.oneCell' = true := by
  obtain ⟨A, c, rfl, _⟩ := h.out
  rfl
end Go.Proofs.Ytioohhekamjljaa.Ev
