/- slices.Chunk over bytes: what its iterator hands to a loop's body. Conditions: sizes are bounded, as written out. -/
import Derived.RangeFuncBox
import Derived.RangeFuncLeaves
import Derived.Shelf.Abstract
import Derived.WalkKit
import Derived.OwnWalkIn
import Derived.TacticsInMore
import Derived.LoopNIn
import Derived.LoopIn
import Derived.Lib.SlBytesRow
import Derived.Sort.QuietIn
import Derived.Test.YtaohfmmapammcaaChPlain
import Derived.Test.YtaohfmmapammcaaEv
set_option linter.unusedSimpArgs false
set_option linter.unusedVariables false
namespace Go.Proofs.Ytaohfmmapammcaa.Ch
open Go Go.RowKit Go.Shelf Go.Proofs.Ytaohfmmapammcaa.Dig Go.Proofs.Ytaohfmmapammcaa.Ev

attribute [local go_sem] Oper.semAt_some

/-- What has come when k rounds are over. -/
def upto (N : Nat) (k : Nat) : List (Fin N) := (List.finRange N).take k
theorem upto_succ (N k : Nat) (h : k < N) : upto N (k + 1) = upto N k ++ [⟨k, h⟩] := by
  unfold upto
  rw [List.take_add_one]
  simp [h]
theorem upto_len (N k : Nat) (h : k ≤ N) : (upto N k).length = k := by simp [upto]; omega
theorem upto_all (N : Nat) : upto N N = List.finRange N := List.take_of_length_le (by simp)

/-- The k-th piece of a row of len bytes. -/
def pieceV (b z len : Nat) (k : Nat) : Value := .slice (some ⟨b, z * k, none⟩) (min z (len - z * k)) (min z (len - z * k))
/-- The iterator's two boxes stay. -/
def KpB (Bs Bz : Nat) (W W' : World) : Prop := W'.heap[Bs]? = W.heap[Bs]? ∧ W'.heap[Bz]? = W.heap[Bz]?
theorem KpB.t {Bs Bz : Nat} {A B C : World} (h : KpB Bs Bz A B) (k : KpB Bs Bz B C) : KpB Bs Bz A C := ⟨k.1.trans h.1, k.2.trans h.2⟩
theorem KpB.b {Bs Bz : Nat} {w : World} (h1 : Bs < w.heap.size) (h2 : Bz < w.heap.size) (W : World) (l : Nat) (o o' : Obj) (hl : w.heap.size ≤ l) (h : W.heap[l]? = some o) (_ : o.isCells = false) (_ : o.isWalk = false) : KpB Bs Bz W (W.putObj l o') :=
  ⟨World.putObj_heap_other (by omega), World.putObj_heap_other (by omega)⟩
theorem KpB.of {n₀ Bs Bz : Nat} {A B : World} (h : Below n₀ A B) (h1 : Bs < n₀) (h2 : Bz < n₀) : KpB Bs Bz A B := ⟨h.block _ h1, h.block _ h2⟩

set_option maxRecDepth 100000 in
set_option maxHeartbeats 4000000 in
theorem chunk1_in (n : Nat) (hn : 1 ≤ n) (l Bs Bz b len cap z N : Nat) (hz : 0 < z) (hz2 : z ≤ 4096) (hN : ∀ k, k < N ↔ z * k < len) (hlen : len ≤ 1099511627776) (hcap : len ≤ cap)
    (J Jx : List (Fin N) → World → Prop) (hJd : ∀ s W n, J s W → J s (W.drewN n))
    (hY : ∀ pre x W, J pre W → pre.length < N → YieldAt Fence.wide (n - 1) Try.prog l #[pieceV b z len x.1] W fun e W' =>
      (e = .returned (.bool true) ∧ J (pre ++ [x]) W' ∧ KpB Bs Bz W W') ∨ (e = .returned (.bool false) ∧ Jx (pre ++ [x]) W'))
    (W : World) (hBs : W.heap[Bs]? = some (.cells #[.slice (some ⟨b, 0, none⟩) len cap] 43 (0, 0))) (hBz : W.heap[Bz]? = some (.cells #[.int .i64 z] 3 (0, 0))) (h0 : J [] W) :
    CallsIn Fence.wide n Try.prog 108 #[.func (.yield l) #[] #[], .pointer (some ⟨Bs, 0, none⟩), .pointer (some ⟨Bz, 0, none⟩)] W fun e W' => (∃ v, e = .returned v) ∧
      ((∃ ys, ys = List.finRange N ∧ J ys W') ∨ (∃ pre, (∃ k, k ≤ N ∧ pre = upto N k) ∧ Jx pre W')) := by
  refine callsIn_of_wp Try.func108 rfl trivial ?_ rfl
  simp only [Try.ntmps108, List.size_toArray, List.length_cons, List.length_nil, Nat.reduceAdd, Nat.reduceSub, Array.replicate_succ, Array.replicate_zero, List.push_toArray, List.append_toArray, List.nil_append, List.cons_append]
  gi_wp2
  gi_loopw [4] (fun i wr => ∃ k : Nat, k ≤ N ∧ i = .int .i64 (z * k : Nat) ∧ J (upto N k) wr ∧ KpB Bs Bz W wr)
    (fun i _ => len + z - (intOf i).toNat)
  case atStart => exact ⟨0, Nat.zero_le _, by simp, h0, ⟨rfl, rfl⟩⟩
  case round =>
    obtain ⟨k, hk, rfl, hJs, hkp⟩ := hrel
    have cs : wr.cell? ⟨Bs, 0, none⟩ = some (.slice (some ⟨b, 0, none⟩) len cap) := by simp [World.cell?, hkp.1, hBs]
    have cz : wr.cell? ⟨Bz, 0, none⟩ = some (.int .i64 z) := by simp [World.cell?, hkp.2, hBz]
    have HKP := Kp.mk hkp
    clear hkp hBs hBz
    by_cases hlt : k < N
    · have hlt2 : z * k < len := (hN k).1 hlt
      obtain ⟨q, hq⟩ : ∃ q, q = z * k := ⟨_, rfl⟩
      obtain ⟨m, hm⟩ : ∃ m, m = min z (len - q) := ⟨_, rfl⟩
      rw [← hq] at hlt2 ⊢
      have HQ := Kp.mk hq
      have HY := Kp.mk (fun W hJ => hY (upto N k) ⟨k, hlt⟩ W hJ (by rw [upto_len _ _ hk]; exact hlt))
      have hle : (q : Int) ≤ (len : Int) := by omega
      have hm1 : 1 ≤ m := by omega
      have hm2 : q + m ≤ len := by omega
      have hm3 : min (z : Int) ((len - q : Nat) : Int) = (m : Int) := by omega
      have hm4 : ¬ m = 0 := by omega
      have hcq : ¬ cap = q := by omega
      have HM := Kp.mk hm
      clear hq hN hY hm
      gi_wp2
      gi_quiet (fail)
      rename_i nq
      obtain ⟨fn, tmps, assign, body, hy, hR⟩ := HY.out (wr.drewN nq) (hJd _ _ _ hJs)
      dsimp only [pieceV] at hy
      rw [← HQ.out, ← HM.out] at hy
      clear HY
      gi_wp2
      refine hR.mono ?_
      rintro e W3 (⟨rfl, hJ3, hk3⟩ | ⟨rfl, hJx3⟩)
      · have cz3 : W3.cell? ⟨Bz, 0, none⟩ = some (.int .i64 z) := by
          have hx : W3.heap[Bz]? = wr.heap[Bz]? := hk3.2
          have := World.cell?_of_block (w := wr) (w' := W3) (a := ⟨Bz, 0, none⟩) hx
          exact this.trans cz
        clear hy hR
        gi_wp2
        go_roundw
        case rel => exact ⟨k + 1, by omega, by rw [Nat.mul_succ, ← HQ.out]; go_num, by rw [upto_succ N k hlt]; exact hJ3, HKP.out.t hk3⟩
        case measure => simp [intOf]; omega
      · gi_wp2
        refine bodyPost_ret (results_none rfl _ _ _) rfl ?_
        exact ⟨⟨_, rfl⟩, .inr ⟨_, ⟨k + 1, by omega, (upto_succ _ _ hlt).symm⟩, hJx3⟩⟩
    · have hge : len ≤ z * k := by have := (not_congr (hN k)).1 hlt; omega
      obtain rfl : k = N := by omega
      obtain ⟨q, hq⟩ : ∃ q, q = z * k := ⟨_, rfl⟩
      rw [← hq] at hge ⊢
      clear hN hY hq
      gi_wp2
      go_end0
      exact ⟨⟨_, rfl⟩, .inl ⟨_, rfl, by rw [← upto_all]; exact hJs⟩⟩

set_option maxHeartbeats 1000000 in
theorem chunk_in (F : Fence) (n : Nat) (h30 : F.fn 78) (hro : F.round = none) (a : Option Addr) (len cap : Nat) (z : Nat) (hz : 0 < z) (w : World) :
    CallsIn F n Try.prog 78 #[.slice a len cap, .int .i64 z] w fun e w' => e = .returned (.func (.func 108) #[] #[.pointer (some ⟨w.heap.size, 0, none⟩), .pointer (some ⟨w.heap.size + 1, 0, none⟩)]) ∧
      w' = (w.alloc (.cells #[.slice a len cap] 43)).alloc (.cells #[.int .i64 z] 3) := by
  have hz2 : ¬ ((z : Int) < 1) := by omega
  refine callsIn_of_wp Try.func78 rfl h30 ?_ hro
  simp only [Try.ntmps78, List.size_toArray, List.length_cons, List.length_nil, Nat.reduceAdd, Nat.reduceSub, Array.replicate_succ, Array.replicate_zero, List.push_toArray, List.append_toArray, List.nil_append, List.cons_append]
  gi_wp2
  go_ret
  exact ⟨rfl, rfl⟩

theorem chunk_stops (n : Nat) (hn : 1 ≤ n) (Bs Bz b len cap z N : Nat) (hz : 0 < z) (hz2 : z ≤ 4096) (hN : ∀ k, k < N ↔ z * k < len) (hlen : len ≤ 1099511627776) (hcap : len ≤ cap) (w : World)
    (hBs : w.heap[Bs]? = some (.cells #[.slice (some ⟨b, 0, none⟩) len cap] 43 (0, 0))) (hBz : w.heap[Bz]? = some (.cells #[.int .i64 z] 3 (0, 0))) :
    SeqStopsK Fence.wide n Try.prog 108 #[.pointer (some ⟨Bs, 0, none⟩), .pointer (some ⟨Bz, 0, none⟩)] (fun x : Fin N => #[pieceV b z len x.1]) (KpB Bs Bz) (fun ys => ys = List.finRange N) (fun _ => True) N w := fun l J Jx W hW hJ _ hY h0 => by
  have h1 := (Array.getElem?_eq_some_iff.1 hBs).1
  have h2 := (Array.getElem?_eq_some_iff.1 hBz).1
  refine (chunk1_in n hn l Bs Bz b len cap z N hz hz2 hN hlen hcap J Jx (fun s W n h => hJ s W (W.drewN n) none h ⟨rfl, rfl, rfl, Nat.le_refl _, fun _ _ _ => rfl⟩ (fun _ e => by cases e)) hY W ((hW.block _ h1).trans hBs) ((hW.block _ h2).trans hBz) h0).mono ?_
  rintro e W' ⟨he, ⟨ys, hys, hj⟩ | ⟨pre, _, hj⟩⟩
  · exact ⟨he, .inl ⟨ys, hys, hj⟩⟩
  · exact ⟨he, .inr ⟨pre, trivial, hj⟩⟩

/-- 'out = append(out, x)' in a loop's body, out in a box: what the walk owes behind it. -/
theorem appended {W w1 : World} {n₀ B : Nat} {t e : TypeId} {size : Nat} {v v' : Value} {k m : Nat} {xs ys : List Value} {tmp : Obj}
    (hv : Boxed W B t v) (hte : t ≠ e) (hrow : W.ownsRow n₀ e size v k xs) (hn₀ : n₀ ≤ W.heap.size)
    (hown' : w1.ownsRow n₀ e size v' m ys) (hgrow : (W.alloc tmp).grownBy w1 v.ownBlock) :
    Boxed w1 B t v ∧ Boxed (w1.setCell ⟨B, 0, none⟩ v') B t v' ∧ (w1.setCell ⟨B, 0, none⟩ v').ownsRow n₀ e size v' m ys ∧ KeepsOthers W (w1.setCell ⟨B, 0, none⟩ v') ∧
      (∀ m, m ≤ n₀ → m ≤ B → Below m W (w1.setCell ⟨B, 0, none⟩ v')) ∧ ∀ i, i < n₀ → i ≠ B → (w1.setCell ⟨B, 0, none⟩ v').heap[i]? = W.heap[i]? := by
  have hv1 : Boxed w1 B t v := (hv.alloc tmp).kept hgrow (hv.not_row hte hrow)
  have hrb : ∀ j, v.ownBlock = some j → n₀ ≤ j := fun j ej => by
    rcases hrow.2 with ⟨rfl, _⟩ | ⟨g, cap, cur, rfl, hb, _, _⟩
    · simp [Value.ownBlock] at ej
    · obtain rfl : g = j := by simpa [Value.ownBlock] using ej
      exact hb
  refine ⟨hv1, hv1.set v', hown'.kept (grownBy_setCell' w1 B v') (.inr (hv1.not_row hte hown').symm), ?_, fun q hq hB => ?_, fun i hi hne => ?_⟩
  · refine ((KeepsOthers.alloc W tmp).trans (KeepsOthers.of_grownBy hgrow fun j o ej hj => ?_)).trans (KeepsOthers.setCell _ _ _)
    rcases (hrow.alloc tmp).2 with ⟨rfl, _⟩ | ⟨g, cap, cur, rfl, _, hgb, _⟩
    · simp [Value.ownBlock] at ej
    · obtain rfl : g = j := by simpa [Value.ownBlock] using ej
      rw [hgb] at hj; cases hj; rfl
  · exact (((Below.refl q W).alloc (by omega) tmp).grown hgrow (by simp; omega) fun j ej => by have := hrb j ej; omega).setCell (p := ⟨B, 0, none⟩) hB v'
  · rw [Below.heap_setCell _ _ _ _ hne, hgrow.block i (by simp; omega) (fun e => by have := hrb i e.symm; omega)]
    exact Below.heap_alloc _ _ _ (by omega)
end Go.Proofs.Ytaohfmmapammcaa.Ch
