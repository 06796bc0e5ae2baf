/- chunk.Cut: a new row of the file's chunks; nothing that was there has turned. Conditions: at most 2^40 bytes. -/
import Derived.Test.YtaohfmmapammcaaDoorChIter
import Derived.Test.YtaohfmmapammcaaDoorOwn
import Derived.Test.YtaohfmmapammcaaDoorEv3
set_option linter.unusedSimpArgs false
set_option linter.unusedVariables false
namespace Go.Proofs.YtaohfmmapammcaaDoor.Ch
open Go Go.RowKit Go.Shelf Go.Proofs.YtaohfmmapammcaaDoorW.PrintWords Go.Proofs.YtaohfmmapammcaaDoor.Sha Go.Proofs.YtaohfmmapammcaaDoor.Dig Go.Proofs.YtaohfmmapammcaaDoor.Ev

attribute [local go_sem] Oper.semAt_some

theorem infoStr : (Tryd.prog.info? 9).map (fun i => (i.zero, i.size, i.bytes)) = some (some (.string ⟨#[]⟩), 1, 16) := by kernel_rfl
theorem zeroStrs : (Tryd.prog.info? 35).bind (·.zero) = some (.slice none 0 0) := by kernel_rfl

/-- The bytes of a text, in memory. -/
theorem bytes_of {w : World} {g : Nat} {l : List UInt8} (h : ∀ j, j < l.length → w.cell? ⟨g, j, none⟩ = some (.int .u8 (bAt (bs l) j))) : Lib.Bytes w g 0 (bs l) := fun i hi => by
  have hi' : i < l.length := by simpa [bs, ByteArray.size] using hi
  rw [Nat.zero_add, h i hi']
  have e1 : bAt (bs l) i = ((l[i]'hi').toNat : Int) := by
    show ((l.getD i 0).toNat : Int) = _
    rw [List.getD_eq_getElem?_getD, List.getElem?_eq_getElem hi']
    rfl
  have e2 : ((bs l)[i]'hi) = l[i]'hi' := by
    have e3 : (bs l).data.toList[i]'(by simpa [bs] using hi') = (bs l)[i]'hi := by rw [Array.getElem_toList]; rfl
    rw [← e3]
  rw [e1, e2]
theorem piece_conv {W : World} {g : Nat} {l : List UInt8} (z k : Nat) (h : ∀ j, j < l.length → W.cell? ⟨g, j, none⟩ = some (.int .u8 (bAt (bs l) j))) (hk : z * k < l.length) :
    (convert 49 9 (pieceV g z l.length k)).run Tryd.prog W = .ok (.string (bs (pieceL z l k))) W := by
  have hs0 : (bs l).size = l.length := by simp [bs, ByteArray.size]
  have hm : z * k + min z (l.length - z * k) ≤ (bs l).size := by
    have : (bs l).size = l.length := by simp [bs, ByteArray.size]
    rw [this]; omega
  have := Lib.run_convert_window (P := Tryd.prog) W 49 5 9 Tryd.underlying49 Tryd.underlying5 Tryd.underlying9 g 0 (bs l) (bytes_of h) (z * k) (min z (l.length - z * k)) (min z (l.length - z * k)) hm
  rw [Nat.zero_add] at this
  unfold pieceV
  have e : (bs l).extract (z * k) (z * k + min z (l.length - z * k)) = bs (pieceL z l k) := by
    apply ByteArray.ext
    apply Array.toList_inj.1
    simp only [ByteArray.data_extract, Array.toList_extract, bs, pieceL, List.extract_eq_take_drop]
    rw [show z * k + min z (l.length - z * k) - z * k = min z (l.length - z * k) by omega]
    rcases Nat.le_total z (l.length - z * k) with h1 | h1
    · rw [Nat.min_eq_left h1]
    · rw [Nat.min_eq_right h1, List.take_of_length_le (by simp), List.take_of_length_le (by simp; omega)]
  rw [this, e]

/-- What the loop of Cut holds between two rounds. -/
structure CutI (l : List UInt8) (w : World) (g3 gb B0 N : Nat) (pre : List (Fin N)) (W : World) : Prop where
  row : ∃ v, Boxed W g3 35 v ∧ W.ownsRow B0 9 1 v pre.length (pre.map fun k => .string (bs (pieceL 16 l k.1)))
  bel : Below w.heap.size w W
  cells : ∀ j, j < l.length → W.cell? ⟨gb, j, none⟩ = some (.int .u8 (bAt (bs l) j))
  sz : B0 ≤ W.heap.size
theorem fin_map {α : Type} (N : Nat) (f : Nat → α) : (List.finRange N).map (fun k => f k.1) = (List.range N).map f := by
  apply List.ext_getElem
  · simp
  · intro i h1 h2
    simp
theorem cutI_own (l : List UInt8) (w : World) (g3 gb B0 N B : Nat) (hB : w.heap.size ≤ B) : OwnFrom B (fun (pre : List (Fin N)) W => CutI l w g3 gb B0 N pre W) := fun s W W' row hs hg hr => by
  have h1 := (Own.from (holdsRow_own B0 g3 35 9 1 (fun (pre : List (Fin N)) => pre.length) (fun pre => pre.map fun k => .string (bs (pieceL 16 l k.1))) (fun _ _ => True)) B) s W W' row
  obtain ⟨v, a, b⟩ := hs.row
  obtain ⟨v', a', b', _⟩ := h1 ⟨v, a, b, trivial⟩ hg hr
  exact ⟨⟨v', a', b'⟩, ownFrom_below (β := List (Fin N)) (Nat.le_refl _) hB s W W' row hs.bel hg hr, fun j hj => cell_kept (hs.cells j hj) hg (fun r e => (hr r e).2), Nat.le_trans hs.sz hg.size⟩

set_option maxRecDepth 100000 in
set_option maxHeartbeats 4000000 in
theorem cut_any (l : List UInt8) (hl : l.length ≤ 1099511627776) (w : World) :
    Calls Tryd.prog 18 #[.string (bs l)] w fun e W' => ∃ v, e = .returned v ∧ W'.ownsRow w.heap.size 9 1 v (cutL l).length ((cutL l).map fun c => .string (bs c)) ∧ Below w.heap.size w W' := by
  have hsz : (bs l).size = l.length := by simp [bs, ByteArray.size]
  have HSZ := Kp.mk hsz
  have HN : Kp (∀ k, k < cutN 16 l ↔ 16 * k < l.length) := ⟨cutN_lt 16 (by decide) l⟩
  obtain ⟨N, hNN⟩ : ∃ N, N = cutN 16 l := ⟨_, rfl⟩
  have HNN := Kp.mk hNN
  have hNb : N ≤ 1099511627776 := by rw [hNN]; unfold cutN; omega
  rw [← hNN] at HN
  clear hsz hNN
  refine (callsIn_wide (n := 9)).1 ?_
  refine callsIn_of_wp_marks Tryd.func18 rfl trivial ?_ rfl
  simp only [Tryd.ntmps18, List.size_toArray, List.length_cons, List.length_nil, Nat.reduceAdd, Nat.reduceSub, Array.replicate_succ, Array.replicate_zero, List.push_toArray, List.append_toArray, List.nil_append, List.cons_append]
  refine wpIn_wide.2 ?_
  go_wp2_with (first
    | ((with_reducible refine gate_dst (N := 3) rfl ?_); refine ev_alloc rfl 35 rfl _ [.slice none 0 0] zeroStrs rfl ?_; intro g3 w1 hg3 f1 b3)
    | ((with_reducible refine gate_dst (N := 6) rfl ?_); refine ev_bytes rfl 9 49 (.tmp 5) rfl (bs l) rfl 5 Tryd.underlying9 Tryd.underlying49 Tryd.underlying5 ?_; intro gb cb w2 hgb hgb2 hcb f2 cbs)
    | (go_at_call 30; refine ((callsIn_wide (n := 8)).1 (chunk_in Fence.wide 8 trivial rfl _ _ _ 16 (by decide) _)).mono ?_; rintro e w3 ⟨rfl, rfl⟩))
  have hlen2 : w2.heap.size < w2.heap.size + 1 + 1 := by omega
  have hg3w2 : g3 < w2.heap.size := Nat.lt_of_lt_of_le b3.lt f2.size
  have hw2 : w.heap.size ≤ w2.heap.size := Nat.le_trans f1.size f2.size
  have HS1 : ((w2.alloc (.cells #[.slice (some ⟨gb, 0, none⟩) l.length cb] 49)).alloc (.cells #[.int .i64 16] 3)).heap[w2.heap.size]? = some (.cells #[.slice (some ⟨gb, 0, none⟩) l.length cb] 49 (0, 0)) :=
    (Below.heap_alloc _ _ _ (by simp)).trans (World.alloc_heap_new w2 _)
  have HS2 : ((w2.alloc (.cells #[.slice (some ⟨gb, 0, none⟩) l.length cb] 49)).alloc (.cells #[.int .i64 16] 3)).heap[w2.heap.size + 1]? = some (.cells #[.int .i64 16] 3 (0, 0)) := by
    have := World.alloc_heap_new (w2.alloc (.cells #[.slice (some ⟨gb, 0, none⟩) l.length cb] 49)) (.cells #[.int .i64 16] 3)
    rwa [World.size_alloc] at this
  have F3 : Fr No w2 ((w2.alloc (.cells #[.slice (some ⟨gb, 0, none⟩) l.length cb] 49)).alloc (.cells #[.int .i64 16] 3)) := (Fr.alloc _ _).no (Fr.alloc _ _)
  have HZ : ((w2.alloc (.cells #[.slice (some ⟨gb, 0, none⟩) l.length cb] 49)).alloc (.cells #[.int .i64 16] 3)).heap.size = w2.heap.size + 1 + 1 := by simp
  generalize hW3 : (w2.alloc (.cells #[.slice (some ⟨gb, 0, none⟩) l.length cb] 49)).alloc (.cells #[.int .i64 16] 3) = w3 at HS1 HS2 F3 HZ ⊢
  clear hW3
  have I0 : CutI l w g3 gb w3.heap.size N [] w3 :=
    ⟨⟨_, ((b3.no f2).no F3).out, World.ownsRow_nil _ _ _ _⟩, ((f1.no f2).no F3).below, fun j hj => Fr.cell (cbs j (by rw [HSZ.out]; exact hj)) F3 (fun h => h), Nat.le_refl _⟩
  have hcap : l.length ≤ cb := by have := HSZ.out; omega
  have H1 := chunk_stops 8 (by decide) w2.heap.size (w2.heap.size + 1) gb l.length cb 16 N (by decide) (by decide) HN.out hl hcap w3 HS1 HS2
  have hg3' : g3 < w3.heap.size := by omega
  have hgb' : gb < w3.heap.size := by omega
  have hne : g3 ≠ gb := by have := b3.lt; omega
  have hw3 : w.heap.size ≤ w3.heap.size := by omega
  have K0 := Kp.mk (KpB.b (Bs := w2.heap.size) (Bz := w2.heap.size + 1) (w := w3) (by omega) (by omega))
  clear f1 f2 F3 b3 cbs hcb HS1 HS2
  obtain ⟨i0, hi, hz0, hz1, hz2⟩ := info_parts infoStr
  refine (wpIn_wide (n := 9)).1 ?_
  refine wpIn_rangeFunc_ownG (n := 9) (α := Fin N) rfl (by decide) (gf := 37) (lb := #[.pointer (some ⟨w2.heap.size, 0, none⟩), .pointer (some ⟨w2.heap.size + 1, 0, none⟩)]) rfl trivial (enters_of Tryd.func37 (by kernel_rfl) rfl)
    H1 KpB.t K0.out (Below.refl _ _) (fun _ => rfl)
    (CutI l w g3 gb w3.heap.size N) (fun _ _ _ => False) (cutI_own l w g3 gb w3.heap.size N w3.heap.size hw3) (fun _ _ _ _ _ hs _ _ => hs) I0
    (fun x => { tmps := #[.string (bs l), undef, .slice none 0 0, .pointer (some ⟨g3, 0, none⟩), pieceV gb 16 l.length x.1, .string (bs l), .slice (some ⟨gb, 0, none⟩) l.length cb, .func (.func 37) #[] #[.pointer (some ⟨w2.heap.size, 0, none⟩), .pointer (some ⟨w2.heap.size + 1, 0, none⟩)], pieceV gb 16 l.length x.1, undef, undef, undef, undef, undef, undef], defers := [] }) ?assign ?body ?done ?stop
  case assign =>
    intro q x W K hK
    gi_wp2
    exact hK
  case body =>
    rintro q pre x W hI hlt
    obtain ⟨v, hv, hrow⟩ := hI.row
    have hc := hv.cell
    have hcv := piece_conv 16 x.1 hI.cells ((HN.out x.1).1 x.2)
    have hle := hI.sz
    have hpl : pre.length ≤ 1099511627776 := by omega
    gi_wp2_with (gi_at_builtin; refine wpListIn_append_own _ rfl _ _ 35 rfl w3.heap.size 9 i0 (.string ⟨#[]⟩) 1 16 Tryd.underlying35 hi hz0 hz1 hz2 rfl (by decide) _ _ _ rfl (hrow.alloc _) ⟨W.heap.size, 0, none⟩ 1 1 [.string (bs (pieceL 16 l x.1))] rfl rfl (cell_one_new _ _ _) (by simp [Value.oneCell']) (by simp only [maxLen]; omega) (by omega) (by simp; omega) ?_; intro v' w1 hown' hgrow _; obtain ⟨g', cap', rfl⟩ := ownsRow_succ hown'; obtain ⟨hv1, hv2, hr2, hk2, hb2, hb3⟩ := appended hv (by decide) hrow hle hown' hgrow; have hc1 := hv1.cell; have hf1 := hv1.frozen)
    exact ⟨hk2.from _, ⟨hb3 _ (by omega) (by omega), hb3 _ (by omega) (by omega)⟩, ⟨⟨_, hv2, by simpa using hr2⟩, hI.bel.trans (hb2 _ hw3 hg3), fun j hj => (World.cell?_of_block (hb3 gb hgb' (Ne.symm hne))).trans (hI.cells j hj), Nat.le_trans hle hk2.size⟩⟩
  case done =>
    rintro D ys W hD rfl hI hK
    obtain ⟨v, hv, hrow⟩ := hI.row
    have hc := hv.cell
    go_wp2
    refine ⟨by simp, .inl ⟨_, _, rfl, run_takeDeferred hK, ?_⟩⟩
    refine ⟨_, results_tmp rfl _ _ _, v, rfl, ?_, hI.bel.trans (belowK_b (w := w) (Nat.le_refl _) W D _ _ (by omega) hK rfl rfl)⟩
    have h1 := own_le (ownsRow_putObj hrow (.deferred none) hK rfl) hw3
    rw [fin_map N (fun k => Value.string (bs (pieceL 16 l k)))] at h1
    rw [cutZ_len, ← HNN.out]
    simp only [cutL, cutZ, List.map_map, ← HNN.out]
    simpa [Function.comp_def] using h1
  case stop =>
    rintro D c pre W _ _ h _
    exact h.elim
end Go.Proofs.YtaohfmmapammcaaDoor.Ch
