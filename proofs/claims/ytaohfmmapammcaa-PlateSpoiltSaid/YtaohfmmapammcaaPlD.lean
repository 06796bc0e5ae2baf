/- Texts joined by merge.py: PlRange, PlPW, PlPlain2, PlAwake, PlFew. -/
import Derived.Test.YtaohfmmapammcaaPlC
import Derived.Test.YtaohfmmapammcaaChIter
import Derived.Test.YtaohfmmapammcaaPlA
/- plate's Write: its text's bytes in parts. Conditions: sizes are bounded, as written out. -/
set_option linter.unusedSimpArgs false
set_option linter.unusedVariables false
namespace Go.Proofs.Ytaohfmmapammcaa.Pl
open Go Go.RowKit Go.Shelf Go.Proofs.YtaohfmmapammcaaW.PrintWords Go.Proofs.YtaohfmmapammcaaW.PrintLast Go.Proofs.Ytaohfmmapammcaa.Sha Go.Proofs.Ytaohfmmapammcaa.Dig Go.Proofs.Ytaohfmmapammcaa.Ev Go.Proofs.Ytaohfmmapammcaa.Reg Go.Proofs.Ytaohfmmapammcaa.Ch

attribute [local go_sem] Oper.semAt_some
abbrev ChunkN : Nat := 108
theorem infoStr : (Try.prog.info? 9).map (fun i => (i.zero, i.size, i.bytes)) = some (some (.string ⟨#[]⟩), 1, 16) := by kernel_rfl
theorem zeroStrsP : (Try.prog.info? 22).bind (·.zero) = some (.slice none 0 0) := by kernel_rfl
/-- The bytes of a text, in memory. -/
theorem bytes_ofP {w : World} {g : Nat} {l : List UInt8} (h : ∀ j, j < l.length → w.cell? ⟨g, j, none⟩ = some (.int .u8 (bAt (bs l) j))) : Lib.Bytes w g 0 (bs l) := fun i hi => by
  have hi' : i < l.length := by simpa [bs, ByteArray.size] using hi
  rw [Nat.zero_add, h i hi']
  have e1 : bAt (bs l) i = ((l[i]'hi').toNat : Int) := by
    show ((l.getD i 0).toNat : Int) = _
    rw [List.getD_eq_getElem?_getD, List.getElem?_eq_getElem hi']
    rfl
  have e2 : ((bs l)[i]'hi) = l[i]'hi' := by
    have e3 : (bs l).data.toList[i]'(by simpa [bs] using hi') = (bs l)[i]'hi := by rw [Array.getElem_toList]; rfl
    rw [← e3]
  rw [e1, e2]
theorem piece_convP {W : World} {g : Nat} {l : List UInt8} (z k : Nat) (h : ∀ j, j < l.length → W.cell? ⟨g, j, none⟩ = some (.int .u8 (bAt (bs l) j))) (hk : z * k < l.length) :
    (convert 43 9 (pieceV g z l.length k)).run Try.prog W = .ok (.string (bs (pieceL z l k))) W := by
  have hs0 : (bs l).size = l.length := by simp [bs, ByteArray.size]
  have hm : z * k + min z (l.length - z * k) ≤ (bs l).size := by
    have : (bs l).size = l.length := by simp [bs, ByteArray.size]
    rw [this]; omega
  have := Lib.run_convert_window (P := Try.prog) W 43 5 9 Try.underlying43 Try.underlying5 Try.underlying9 g 0 (bs l) (bytes_ofP h) (z * k) (min z (l.length - z * k)) (min z (l.length - z * k)) hm
  rw [Nat.zero_add] at this
  unfold pieceV
  have e : (bs l).extract (z * k) (z * k + min z (l.length - z * k)) = bs (pieceL z l k) := by
    apply ByteArray.ext
    apply Array.toList_inj.1
    simp only [ByteArray.data_extract, Array.toList_extract, bs, pieceL, List.extract_eq_take_drop]
    rw [show z * k + min z (l.length - z * k) - z * k = min z (l.length - z * k) by omega]
    rcases Nat.le_total z (l.length - z * k) with h1 | h1
    · rw [Nat.min_eq_left h1]
    · rw [Nat.min_eq_right h1, List.take_of_length_le (by simp), List.take_of_length_le (by simp; omega)]
  rw [this, e]

/-- What the loop over the parts holds between two rounds. -/
structure CutJ (l : List UInt8) (w : World) (g3 gb B0 N : Nat) (pre : List (Fin N)) (W : World) : Prop where
  row : ∃ v, Boxed W g3 22 v ∧ W.ownsRow B0 9 1 v pre.length (pre.map fun k => .string (bs (pieceL 32 l k.1)))
  bel : Below w.heap.size w W
  cells : ∀ j, j < l.length → W.cell? ⟨gb, j, none⟩ = some (.int .u8 (bAt (bs l) j))
  sz : B0 ≤ W.heap.size
theorem fin_mapP {α : Type} (N : Nat) (f : Nat → α) : (List.finRange N).map (fun k => f k.1) = (List.range N).map f := by
  apply List.ext_getElem
  · simp
  · intro i h1 h2
    simp
theorem cutJ_own (l : List UInt8) (w : World) (g3 gb B0 N B : Nat) (hB : w.heap.size ≤ B) : OwnFrom B (fun (pre : List (Fin N)) W => CutJ l w g3 gb B0 N pre W) := fun s W W' row hs hg hr => by
  have h1 := (Own.from (holdsRow_own B0 g3 22 9 1 (fun (pre : List (Fin N)) => pre.length) (fun pre => pre.map fun k => .string (bs (pieceL 32 l k.1))) (fun _ _ => True)) B) s W W' row
  obtain ⟨v, a, b⟩ := hs.row
  obtain ⟨v', a', b', _⟩ := h1 ⟨v, a, b, trivial⟩ hg hr
  exact ⟨⟨v', a', b'⟩, ownFrom_below (β := List (Fin N)) (Nat.le_refl _) hB s W W' row hs.bel hg hr, fun j hj => cell_kept (hs.cells j hj) hg (fun r e => (hr r e).2), Nat.le_trans hs.sz hg.size⟩

set_option maxRecDepth 100000 in
set_option maxHeartbeats 8000000 in
theorem pw_range (gp g2 g5 g8 g10 gb cb bS bZ : Nat) (n1 : Int) (s t : B) (w w8 : World) (u : Nat → Value) (hl : t.length ≤ 1099511627776) (hcap : t.length ≤ cb) (hbS : bS < w8.heap.size) (hbZ : bZ < w8.heap.size) (hw : w.heap.size ≤ w8.heap.size) (hbel : Below w.heap.size w w8) (hg10 : w.heap.size ≤ g10) (hg10' : g10 < w8.heap.size) (hgb' : gb < w8.heap.size) (hne : g10 ≠ gb) (hne1 : g10 ≠ bS) (hne2 : g10 ≠ bZ)
    (HS1 : w8.heap[bS]? = some (.cells #[.slice (some ⟨gb, 0, none⟩) t.length cb] 43 (0, 0))) (HS2 : w8.heap[bZ]? = some (.cells #[.int .i64 32] 3 (0, 0))) (b10 : Blk w8 g10 22 [.slice none 0 0]) (cbs : ∀ j, j < t.length → w8.cell? ⟨gb, j, none⟩ = some (.int .u8 (bAt (bs t) j))) (Q : Exit → Act → World → Prop)
    (hQ : ∀ (DS : List Deferred) (u : Nat → Value) (D : Nat) (v : Value) (W : World), DS = [{ target := .collected D, args := #[] }] → w8.heap.size ≤ D → W.heap[D]? = some (.deferred (some [])) → Blk W g10 22 [v] → W.ownsRow w8.heap.size 9 1 v (cutZ 32 t).length ((cutZ 32 t).map fun c => .string (bs c)) → Below w.heap.size w W → Q .normal { tmps := List.toArray (.pointer (some ⟨gp, 0, none⟩) :: .string (bs s) :: .pointer (some ⟨g2, 0, none⟩) :: u 3 :: u 4 :: .pointer (some ⟨g5, 0, none⟩) :: .int .i64 n1 :: .string (bs t) :: .pointer (some ⟨g8, 0, none⟩) :: .func (.func PutN) #[] #[.pointer (some ⟨g8, 0, none⟩)] :: .pointer (some ⟨g10, 0, none⟩) :: u 11 :: u 12 :: u 13 :: u 14 :: u 15 :: u 16 :: u 17 :: u 18 :: u 19 :: u 20 :: u 21 :: u 22 :: u 23 :: u 24 :: u 25 :: u 26 :: u 27 :: u 28 :: u 29 :: u 30 :: u 31 :: u 32 :: u 33 :: u 34 :: u 35 :: u 36 :: u 37 :: u 38 :: u 39 :: u 40 :: u 41 :: u 42 :: u 43 :: u 44 :: u 45 :: u 46 :: u 47 :: u 48 :: u 49 :: u 50 :: u 51 :: u 52 :: u 53 :: u 54 :: u 55 :: u 56 :: u 57 :: u 58 :: u 59 :: u 60 :: u 61 :: u 62 :: u 63 :: u 64 :: u 65 :: u 66 :: u 67 :: u 68 :: u 69 :: u 70 :: u 71 :: u 72 :: u 73 :: u 74 :: u 75 :: u 76 :: u 77 :: u 78 :: u 79 :: u 80 :: u 81 :: u 82 :: u 83 :: u 84 :: u 85 :: u 86 :: u 87 :: u 88 :: u 89 :: u 90 :: u 91 :: u 92 :: u 93 :: u 94 :: u 95 :: u 96 :: u 97 :: u 98 :: u 99 :: u 100 :: u 101 :: u 102 :: u 103 :: u 104 :: u 105 :: u 106 :: u 107 :: u 108 :: u 109 :: u 110 :: u 111 :: u 112 :: u 113 :: u 114 :: u 115 :: u 116 :: u 117 :: u 118 :: []), defers := DS } W) :
    Code.wp Try.prog (sub [1,1,1,1,1,1,1,1,0,1,0] bodyPW) Q { tmps := List.toArray (.pointer (some ⟨gp, 0, none⟩) :: .string (bs s) :: .pointer (some ⟨g2, 0, none⟩) :: u 3 :: u 4 :: .pointer (some ⟨g5, 0, none⟩) :: .int .i64 n1 :: .string (bs t) :: .pointer (some ⟨g8, 0, none⟩) :: .func (.func PutN) #[] #[.pointer (some ⟨g8, 0, none⟩)] :: .pointer (some ⟨g10, 0, none⟩) :: u 11 :: u 12 :: u 13 :: u 14 :: u 15 :: u 16 :: u 17 :: u 18 :: u 19 :: u 20 :: u 21 :: u 22 :: u 23 :: u 24 :: u 25 :: u 26 :: u 27 :: u 28 :: u 29 :: u 30 :: u 31 :: u 32 :: u 33 :: u 34 :: u 35 :: u 36 :: u 37 :: u 38 :: u 39 :: u 40 :: u 41 :: u 42 :: u 43 :: u 44 :: u 45 :: u 46 :: u 47 :: u 48 :: u 49 :: u 50 :: u 51 :: u 52 :: u 53 :: u 54 :: u 55 :: u 56 :: u 57 :: u 58 :: .func (.func ChunkN) #[] #[.pointer (some ⟨bS, 0, none⟩), .pointer (some ⟨bZ, 0, none⟩)] :: u 60 :: u 61 :: u 62 :: u 63 :: u 64 :: u 65 :: u 66 :: u 67 :: u 68 :: u 69 :: u 70 :: u 71 :: u 72 :: u 73 :: u 74 :: u 75 :: u 76 :: u 77 :: u 78 :: u 79 :: u 80 :: u 81 :: u 82 :: u 83 :: u 84 :: u 85 :: u 86 :: u 87 :: u 88 :: u 89 :: u 90 :: u 91 :: u 92 :: u 93 :: u 94 :: u 95 :: u 96 :: u 97 :: u 98 :: u 99 :: u 100 :: u 101 :: u 102 :: u 103 :: u 104 :: u 105 :: u 106 :: u 107 :: u 108 :: u 109 :: u 110 :: u 111 :: u 112 :: u 113 :: u 114 :: u 115 :: u 116 :: u 117 :: u 118 :: []), defers := [] } w8 := by
  conv => arg 2; whnf
  have HQ := Kp.mk hQ
  have HN : Kp (∀ k, k < cutN 32 t ↔ 32 * k < t.length) := ⟨cutN_lt 32 (by decide) t⟩
  obtain ⟨N, hNN⟩ : ∃ N, N = cutN 32 t := ⟨_, rfl⟩
  have HNN := Kp.mk hNN
  have hNb : N ≤ 1099511627776 := by rw [hNN]; unfold cutN; omega
  rw [← hNN] at HN
  clear hNN hQ
  have I0 : CutJ t w g10 gb w8.heap.size N [] w8 := ⟨⟨_, b10.out, World.ownsRow_nil _ _ _ _⟩, hbel, cbs, Nat.le_refl _⟩
  have H1 := chunk_stops 8 (by decide) bS bZ gb t.length cb 32 N (by decide) (by decide) HN.out hl hcap w8 HS1 HS2
  have K0 := Kp.mk (KpB.b (Bs := bS) (Bz := bZ) (w := w8) hbS hbZ)
  clear b10 cbs HS1 HS2
  obtain ⟨i0, hi, hz0, hz1, hz2⟩ := info_parts infoStr
  refine (wpIn_wide (n := 9)).1 ?_
  refine wpIn_rangeFunc_ownG (n := 9) (α := Fin N) rfl (by decide) (gf := 108) (lb := #[.pointer (some ⟨bS, 0, none⟩), .pointer (some ⟨bZ, 0, none⟩)]) rfl trivial (enters_of Try.func108 (by kernel_rfl) rfl)
    H1 KpB.t K0.out (Below.refl _ _) (fun _ => rfl)
    (CutJ t w g10 gb w8.heap.size N) (fun _ _ _ => False) (cutJ_own t w g10 gb w8.heap.size N w8.heap.size hw) (fun _ _ _ _ _ hs _ _ => hs) I0
    (fun x => { tmps := List.toArray (.pointer (some ⟨gp, 0, none⟩) :: .string (bs s) :: .pointer (some ⟨g2, 0, none⟩) :: u 3 :: u 4 :: .pointer (some ⟨g5, 0, none⟩) :: .int .i64 n1 :: .string (bs t) :: .pointer (some ⟨g8, 0, none⟩) :: .func (.func PutN) #[] #[.pointer (some ⟨g8, 0, none⟩)] :: .pointer (some ⟨g10, 0, none⟩) :: pieceV gb 32 t.length x.1 :: u 12 :: u 13 :: u 14 :: u 15 :: u 16 :: u 17 :: u 18 :: u 19 :: u 20 :: u 21 :: u 22 :: u 23 :: u 24 :: u 25 :: u 26 :: u 27 :: u 28 :: u 29 :: u 30 :: u 31 :: u 32 :: u 33 :: u 34 :: u 35 :: u 36 :: u 37 :: u 38 :: u 39 :: u 40 :: u 41 :: u 42 :: u 43 :: u 44 :: u 45 :: u 46 :: u 47 :: u 48 :: u 49 :: u 50 :: u 51 :: u 52 :: u 53 :: u 54 :: u 55 :: u 56 :: u 57 :: u 58 :: .func (.func ChunkN) #[] #[.pointer (some ⟨bS, 0, none⟩), .pointer (some ⟨bZ, 0, none⟩)] :: pieceV gb 32 t.length x.1 :: u 61 :: u 62 :: u 63 :: u 64 :: u 65 :: u 66 :: u 67 :: u 68 :: u 69 :: u 70 :: u 71 :: u 72 :: u 73 :: u 74 :: u 75 :: u 76 :: u 77 :: u 78 :: u 79 :: u 80 :: u 81 :: u 82 :: u 83 :: u 84 :: u 85 :: u 86 :: u 87 :: u 88 :: u 89 :: u 90 :: u 91 :: u 92 :: u 93 :: u 94 :: u 95 :: u 96 :: u 97 :: u 98 :: u 99 :: u 100 :: u 101 :: u 102 :: u 103 :: u 104 :: u 105 :: u 106 :: u 107 :: u 108 :: u 109 :: u 110 :: u 111 :: u 112 :: u 113 :: u 114 :: u 115 :: u 116 :: u 117 :: u 118 :: []), defers := [] }) ?assign ?body ?done ?stop
  case assign =>
    intro q x W K hK
    gi_wp2
    exact hK
  case body =>
    rintro q pre x W hI hlt
    obtain ⟨v, hv, hrow⟩ := hI.row
    have hc := hv.cell
    have hcv := piece_convP 32 x.1 hI.cells ((HN.out x.1).1 x.2)
    have hle := hI.sz
    have hpl : pre.length ≤ 1099511627776 := by omega
    gi_wp2_with (gi_at_builtin; refine wpListIn_append_own _ rfl _ _ 22 rfl w8.heap.size 9 i0 (.string ⟨#[]⟩) 1 16 Try.underlying22 hi hz0 hz1 hz2 rfl (by decide) _ _ _ rfl (hrow.alloc _) ⟨W.heap.size, 0, none⟩ 1 1 [.string (bs (pieceL 32 t x.1))] rfl rfl (cell_one_new _ _ _) (by simp [Value.oneCell']) (by simp only [maxLen]; omega) (by omega) (by simp; omega) ?_; intro v' w1 hown' hgrow _; obtain ⟨g', cap', rfl⟩ := ownsRow_succ hown'; obtain ⟨hv1, hv2, hr2, hk2, hb2, hb3⟩ := appended hv (by decide) hrow hle hown' hgrow; have hc1 := hv1.cell; have hf1 := hv1.frozen)
    exact ⟨hk2.from _, ⟨hb3 _ (by omega) (Ne.symm hne1), hb3 _ (by omega) (Ne.symm hne2)⟩, ⟨⟨_, hv2, by simpa using hr2⟩, hI.bel.trans (hb2 _ hw hg10), fun j hj => (World.cell?_of_block (hb3 gb hgb' (Ne.symm hne))).trans (hI.cells j hj), Nat.le_trans hle hk2.size⟩⟩
  case done =>
    rintro D ys W hD rfl hI hK
    obtain ⟨v, hv, hrow⟩ := hI.row
    have h1 : W.ownsRow w8.heap.size 9 1 v (cutZ 32 t).length ((cutZ 32 t).map fun c => .string (bs c)) := by
      rw [fin_mapP N (fun k => Value.string (bs (pieceL 32 t k)))] at hrow
      rw [cutZ_len, ← HNN.out]
      simp only [cutZ, List.map_map, ← HNN.out]
      simpa [Function.comp_def] using hrow
    dsimp only
    exact K_ud (K := Q .normal) (DS := [{ target := .collected D, args := #[] }]) (fun u => HQ.out _ u D v W rfl hD hK ⟨hv⟩ h1 hI.bel) rfl
  case stop =>
    rintro D c pre W _ _ h _
    exact h.elim
end Go.Proofs.Ytaohfmmapammcaa.Pl

/- plate's Write, whole. Conditions: sizes are bounded, as written out. -/
set_option linter.unusedSimpArgs false
set_option linter.unusedVariables false
namespace Go.Proofs.Ytaohfmmapammcaa.Pl
open Go Go.RowKit Go.Shelf Go.Proofs.YtaohfmmapammcaaW.PrintWords Go.Proofs.YtaohfmmapammcaaW.PrintLast Go.Proofs.Ytaohfmmapammcaa.Sha Go.Proofs.Ytaohfmmapammcaa.Dig Go.Proofs.Ytaohfmmapammcaa.Ev Go.Proofs.Ytaohfmmapammcaa.Reg Go.Proofs.Ytaohfmmapammcaa.Ch

attribute [local go_sem] Oper.semAt_some
/-- What a plate is behind a writing that answers x. -/
def endP (x : Int) (p : PlateS) (s : B) : PlateS := if x = 0 then wroteP p s else lostP p
theorem Dk.less_set {w w1 : World} {S T : Nat → Prop} {b m : Nat} {D : DiskS} (h : Dk w S b m D) (f : Fr No w w1) (hT : ∀ k, T k → w.heap.size ≤ k ∧ k < w1.heap.size) : Dk w1 (fun k => S k ∧ ¬ T k) b m D := by
  obtain ⟨v, h1, h2⟩ := h.ex
  have hb := h1.blk.lt
  have hm := h1.lasts.lt
  refine ⟨⟨v, h1.no f, fun k hk => ⟨h2 k hk, fun ht => ?_⟩⟩, ⟨h.sb, fun ht => by have := (hT _ ht).1; omega⟩, ⟨h.sm, fun ht => by have := (hT _ ht).1; omega⟩, fun k hk => ⟨h.top k (Nat.le_trans f.size hk), fun ht => by have := (hT _ ht).2; omega⟩⟩
  obtain ⟨cells, hc⟩ := own_typed h1.wait k hk
  have := (Array.getElem?_eq_some_iff.1 hc).1
  have := (hT _ ht).1
  omega
theorem Fr.putObj {w : World} {D : Nat} (o : Obj) : Fr (One D) w (w.putObj D o) :=
  ⟨rfl, rfl, rfl, by simp [World.putObj], fun k _ hn => World.putObj_heap_other hn⟩

set_option maxRecDepth 100000 in
set_option maxHeartbeats 8000000 in
theorem write_plate {w : World} {S : Nat → Prop} {b m gp : Nat} {D : DiskS} {p : PlateS} {s : B} (hD : Dk w S b m D) (hb : Bd D 1000000) (hP : Blk w gp 123 (plL b p)) (hn : ¬ S gp) (hs : p.side ≤ 1) (h0 : 0 ≤ p.number) (h1 : p.number < 2147483647) (hh : p.half ≤ 4096) (hl : s.length + 40 ≤ p.half * 32) (r : DiskS × Int) (hr : r = writeAll D (((1 - p.side) * p.half : Nat) : Int) (toldL (p.number + 1) s)) :
    Calls Try.prog 26 #[.pointer (some ⟨gp, 0, none⟩), .string (bs s)] w fun e w' => e = .returned (.int .i64 r.2) ∧ Dk w' S b m r.1 ∧ Blk w' gp 123 (plL b (endP r.2 p s)) ∧ Fr (More S gp) w w' := by
  have HD := Kp.mk hD
  have HP := Kp.mk hP
  have HB := Kp.mk hb
  have HN := Kp.mk hn
  have HR := Kp.mk hr
  have hsz : (bs s).size = s.length := bs_size s
  have HL := Kp.mk hl
  have hl1 : (s.length : Int) ≤ (p.half : Int) * 32 - 40 := by omega
  have CRM : Kp (∀ w', Blk w' gp 123 (plL b p) → Calls Try.prog 28 #[.pointer (some ⟨gp, 0, none⟩)] w' fun e w'' => e = .returned (.int .i64 ((p.half : Int) * 32 - 40)) ∧ w'' = w') := ⟨fun w' h => room_any h hh⟩
  obtain ⟨q, hq⟩ : ∃ q, q = (1 - p.side) * p.half := ⟨_, rfl⟩
  obtain ⟨t, ht⟩ : ∃ t, t = toldL (p.number + 1) s := ⟨_, rfl⟩
  rw [← hq, ← ht] at HR
  have htl : t.length = s.length + 40 := by rw [ht, toldL_len]
  have hqN : q ≤ 4096 := by
    rcases (by omega : p.side = 0 ∨ p.side = 1) with e | e
    · rw [hq, e]; omega
    · rw [hq, e]; omega
  have CT : Kp (∀ w', Calls Try.prog 76 #[.int .i64 (p.number + 1), .string (bs s)] w' fun e w'' => e = .returned (.string (bs t)) ∧ Fr No w' w'') := ⟨fun w' => by rw [ht]; exact told_any _ s (by omega) (by omega) (by omega) w'⟩
  have HTL := Kp.mk htl
  have hst : (bs t).size = t.length := bs_size t
  have HST := Kp.mk hst
  have HQ := Kp.mk hq
  clear hD hP hb hn hr hl hq ht htl hst
  refine (callsIn_wide (n := 9)).1 ?_
  refine callsIn_of_wp_marks Try.func26 rfl trivial ?_ rfl
  simp only [Try.ntmps26, List.size_toArray, List.length_cons, List.length_nil, Nat.reduceAdd, Nat.reduceSub, Array.replicate_succ, Array.replicate_zero, List.push_toArray, List.append_toArray, List.nil_append, List.cons_append]
  refine wpIn_wide.2 ?_
  go_wp2_with (first
    | ((with_reducible refine gate_dst (N := 2) rfl ?_); refine ev_box rfl 37 _ rfl _ rfl [.pointer (some ⟨gp, 0, none⟩)] (by rfl) ?_; intro g2 w1 hg2 f1 b2; have P1 := HP.out.no f1; have c2 := b2.at_ 0 rfl; have k3 := P1.at_ 3 rfl)
    | (go_at_call 28; refine (CRM.out _ P1).mono ?_; rintro e w9 ⟨rfl, hww⟩; subst hww))
  refine wp_u (fun u => pw_reg5 b gp g2 s p w9 u hs h0 h1 b2 P1 _ ?_) rfl
  intro u g5 w2 hg5 f2 b5
  clear c2 k3
  go_wp2_with (go_at_call 76; refine (CT.out _).mono ?_; rintro e w3 ⟨rfl, f3⟩)
  have g2w := b2.lt
  have g5w := b5.lt
  have z92 := f2.size
  have z23 := f3.size
  have gpw := P1.lt
  have D3 : Dk w3 (Less (Less S g2) g5) b m D := ((HD.out.less_new f1 hg2 g2w).less_new f2 hg5 g5w).no f3
  have F3 : Fr No w w3 := (f1.no f2).no f3
  have P3 := (P1.no f2).no f3
  have B2 := (b2.no f2).no f3
  have B5 := b5.no f3
  have gpw0 : gp < w.heap.size := HP.out.lt
  clear f1 f2 f3 P1 b2 b5
  refine wp_u (fun u => pw_reg7 b m gp g2 g5 q (1 - p.side) (p.number + 1) s t p (Less (Less S g2) g5) D w3 u HQ.out hqN D3 (HB.out.up (by decide)) B2 P3 B5 (fun h => h.1.2 rfl) (fun h => HN.out h.1.1) (fun h => h.2 rfl) _ ?_) rfl
  intro u g8 w4 hg8 d4 b8 f4
  have g8w := b8.lt
  have BD4 : Bd (writeD D (q : Int) []).1 1000002 := HB.out.write _ _
  have CF := Kp.mk (put_flush d4 (BD4.up (by decide)) (by have := BD4.wait; omega) b8 (fun h => h.2 rfl))
  have hw3 := F3.size
  have P4 := P3.keep f4 (fun h => HN.out h.1.1)
  have B24 := B2.keep f4 (fun h => h.1.2 rfl)
  have B54 := B5.keep f4 (fun h => h.2 rfl)
  have c24 := B24.at_ 0 rfl
  have k04 := P4.at_ 0 rfl
  have hgp8 : gp ≠ g8 := by omega
  have hg28 : g2 ≠ g8 := by have := B2.lt; omega
  have hg58 : g5 ≠ g8 := by have := B5.lt; omega
  obtain ⟨r1, hr1⟩ : ∃ r1, r1 = writeD D (q : Int) [] := ⟨_, rfl⟩
  rw [← hr1] at CF BD4
  have HR1 := Kp.mk hr1
  clear hr1 d4 b8 P3 B2 B5 D3
  go_wp2_with (first
    | (go_at_call 77; (with_reducible refine CF.out.mono ?_); rintro e w5 ⟨rfl, d5, e5, f5⟩)
    | ((with_reducible refine gate_dst (N := 10) rfl ?_); refine ev_alloc rfl 22 rfl _ [.slice none 0 0] zeroStrsP rfl ?_; intro g10 w6 hg10 f6 b10)
    | ((with_reducible refine gate_dst (N := 58) rfl ?_); refine ev_bytes rfl 9 43 (.tmp 57) rfl (bs t) rfl 5 Try.underlying9 Try.underlying43 Try.underlying5 ?_; rw [HST.out]; intro gb cb w7 hgb hgb2 hcb f7 cbs)
    | (go_at_call 78; refine ((callsIn_wide (n := 8)).1 (chunk_in Fence.wide 8 trivial rfl _ _ _ 32 (by decide) _)).mono ?_; rintro e w8 ⟨rfl, rfl⟩))
  have HS1 : ((w7.alloc (.cells #[.slice (some ⟨gb, 0, none⟩) t.length cb] 43)).alloc (.cells #[.int .i64 32] 3)).heap[w7.heap.size]? = some (.cells #[.slice (some ⟨gb, 0, none⟩) t.length cb] 43 (0, 0)) :=
    (Below.heap_alloc _ _ _ (by simp)).trans (World.alloc_heap_new w7 _)
  have HS2 : ((w7.alloc (.cells #[.slice (some ⟨gb, 0, none⟩) t.length cb] 43)).alloc (.cells #[.int .i64 32] 3)).heap[w7.heap.size + 1]? = some (.cells #[.int .i64 32] 3 (0, 0)) := by
    have := World.alloc_heap_new (w7.alloc (.cells #[.slice (some ⟨gb, 0, none⟩) t.length cb] 43)) (.cells #[.int .i64 32] 3)
    rwa [World.size_alloc] at this
  have F8 : Fr No w7 ((w7.alloc (.cells #[.slice (some ⟨gb, 0, none⟩) t.length cb] 43)).alloc (.cells #[.int .i64 32] 3)) := (Fr.alloc _ _).no (Fr.alloc _ _)
  have HZ : ((w7.alloc (.cells #[.slice (some ⟨gb, 0, none⟩) t.length cb] 43)).alloc (.cells #[.int .i64 32] 3)).heap.size = w7.heap.size + 1 + 1 := by simp
  generalize hW8 : (w7.alloc (.cells #[.slice (some ⟨gb, 0, none⟩) t.length cb] 43)).alloc (.cells #[.int .i64 32] 3) = w8 at HS1 HS2 F8 HZ ⊢
  clear hW8
  have z5 := f6.size
  have z6 := f7.size
  have z10 := b10.lt
  have htb : t.length ≤ 1099511627776 := by have := HTL.out; have := HL.out; omega
  refine wp_u (fun u => pw_range gp g2 g5 g8 g10 gb cb w7.heap.size (w7.heap.size + 1) (p.number + 1) s t w5 w8 u htb hcb (by omega) (by omega) (by omega) ((f6.no f7).no F8).below hg10 (by omega) (by omega) (by omega) (by omega) (by omega) HS1 HS2 ((b10.no f7).no F8) (fun j hj => Fr.cell (cbs j hj) F8 (fun h => h)) _ ?_) rfl
  clear HS1 HS2 cbs b10
  intro DS u De v W9 hDS hDe hK9 B10 row bel
  have f59 : Fr No w5 W9 := Fr.of_below bel
  obtain ⟨k, hk⟩ : ∃ k, k = cutN 32 t := ⟨_, rfl⟩
  have h2k : 1 < k := by rw [hk]; exact (cutN_lt 32 (by decide) t 1).2 (by have := HTL.out; omega)
  have hk1 : k ≤ 4096 := by rw [hk]; unfold cutN; have := HTL.out; have := HL.out; omega
  rw [cutZ_len, ← hk] at row
  obtain ⟨A, cp, rfl⟩ := own_slice row
  have hrow : ∀ kk, (Value.slice A k cp).ownBlock = some kk → w8.heap.size ≤ kk ∧ kk < W9.heap.size := fun kk h => ⟨own_new_base row kk h, by
    obtain ⟨cells, hc⟩ := own_typed row kk h
    exact (Array.getElem?_eq_some_iff.1 hc).1⟩
  have hDe9 : De < W9.heap.size := (Array.getElem?_eq_some_iff.1 hK9).1
  have z9 := f59.size
  have z10' := B10.lt
  have z4 := f5.size
  have z34 := f4.size
  obtain ⟨st0, hst0⟩ : ∃ st0, st0 = putD (r1.1, r1.2) flushD := ⟨_, rfl⟩
  rw [← hst0] at d5 e5
  have HRR : Kp (r = putD (partsD (q : Int) t k k st0) flushD) := ⟨by rw [HR.out, hst0, HR1.out, hk]; rfl⟩
  have BD5 : Bd st0.1 1000004 := by rw [hst0]; exact Bd.putD BD4 Bd.flush
  obtain ⟨S9, hS9⟩ : ∃ S9 : Nat → Prop, S9 = fun x => Less (Less (Less S g2) g5) g8 x ∧ ¬ (x = g10 ∨ x = De ∨ (Value.slice A k cp).ownBlock = some x) := ⟨_, rfl⟩
  have D9 : Dk W9 S9 b m st0.1 := by
    rw [hS9]
    exact d5.less_set f59 (fun x hx => by
      rcases hx with rfl | rfl | hx
      · exact ⟨hg10, z10'⟩
      · exact ⟨by omega, hDe9⟩
      · have := hrow x hx; exact ⟨by omega, this.2⟩)
  have hsub9 : ∀ x, S9 x → Less (Less (Less S g2) g5) g8 x ∧ ¬ (x = g10 ∨ x = De ∨ (Value.slice A k cp).ownBlock = some x) := fun x h => by rw [hS9] at h; exact h
  have OFF : Off S9 gp g2 g5 g8 g10 (.slice A k cp) := ⟨fun h => HN.out (hsub9 _ h).1.1.1.1, fun h => (hsub9 _ h).1.1.1.2 rfl, fun h => (hsub9 _ h).1.1.2 rfl, fun h => (hsub9 _ h).1.2 rfl, fun h => (hsub9 _ h).2 (.inl rfl), fun x hx h => (hsub9 _ h).2 (.inr (.inr hx))⟩
  have hnDe : ¬ S9 De := fun h => (hsub9 _ h).2 (.inr (.inl rfl))
  have NE : Ne8 gp g2 g5 g8 g10 (.slice A k cp) := ⟨hgp8, hg28, hg58, by omega, fun x hx => by have := hrow x hx; omega⟩
  have P9 := (P4.keep f5 (fun h => h.elim (fun h => HN.out h.1.1.1) hgp8)).no f59
  have B29 := (B24.keep f5 (fun h => h.elim (fun h => h.1.1.2 rfl) hg28)).no f59
  have B59 := (B54.keep f5 (fun h => h.elim (fun h => h.1.2 rfl) hg58)).no f59
  have E9 := e5.no f59
  have c10 := B10.at_ 0 rfl
  have F59 : Fr (More S gp) w W9 := (((F3.mono (fun i h => h.elim)).trans f4 (fun i h => .inl (.inl h.1.1))).trans f5 (fun i h => h.elim (fun h => .inl (.inl h.1.1.1)) (fun h => .inr (by omega)))).trans f59 (fun i h => h.elim)
  have Z := Kp.mk (And.intro hK9 (And.intro hDe9 hDe))
  have HROW := Kp.mk hrow
  have HKK := Kp.mk hk
  have HDS := Kp.mk hDS
  have h1kz : (1 : Int) < (k : Int) := by omega
  clear hK9 hrow hDS hk hst0 hS9 d5 e5 f4 f5 f6 f7 F8 F3 bel B24 B54 P4 c24 k04
  go_upto_block 3 with (first
    | ((with_reducible refine gate_dst (N := 12) rfl ?_); refine ev_alloc rfl 3 rfl _ [.int .i64 0] zeroInt rfl ?_; intro g12 w10 hg12 f10 b12)
    | ((with_reducible refine gate_store (t := 3) (p := 12) rfl ?_); refine ev_store rfl 3 _ _ rfl g12 0 (.int .i64 ((k : Int) - 1)) rfl rfl rfl 3 _ b12 (by show 0 < 1; decide) sizeInt ?_; intro w11 f11 b12'))
  have z12 := b12.lt
  have z1011 := f11.size
  have L0 : LoopI w11 S9 b m gp g2 g5 g8 g10 g12 (1 - p.side) k 1000004 p (.slice A k cp) (cutZ 32 t) st0 w11 := by
    have n8 : g8 ≠ g12 := by omega
    have n2 : g2 ≠ g12 := by omega
    have n5 : g5 ≠ g12 := by omega
    have n10 : g10 ≠ g12 := by omega
    have np : gp ≠ g12 := by omega
    refine ⟨⟨Less S9 g12, (D9.less_new f10 hg12 z12).one f11 (fun h => h.2 rfl), fun x h => h.1, fun h => h.2 rfl⟩, (E9.no f10).one f11 n8, b12', (B29.no f10).one f11 n2, (B59.no f10).one f11 n5, (B10.no f10).one f11 n10, (P9.no f10).one f11 np, ?_, BD5⟩
    have := own_keep (own_no (own_le row (Nat.zero_le _)) f10) f11 (fun x hx e => by have := HROW.out x hx; have e : x = g12 := e; omega)
    rw [cutZ_len, ← HKK.out]
    exact this
  have hps : ∀ i y, (cutZ 32 t)[i]? = some y → y = pieceL 32 t i := fun i y h => by
    have hi := (List.getElem?_eq_some_iff.1 h).1
    rw [cutZ_len] at hi
    rw [cutZ_get 32 t i hi] at h
    injection h with h
    exact h.symm
  have hlt : ∀ g, g = gp ∨ g = g2 ∨ g = g5 ∨ g = g8 ∨ g = g10 ∨ (Value.slice A k cp).ownBlock = some g → g < w11.heap.size ∧ g ≠ g12 := fun g hg => by
    rcases hg with h | h | h | h | h | h
    · omega
    · omega
    · omega
    · omega
    · omega
    · have := HROW.out g h; omega
  refine wp_ud (fun u => pw_loop DS S9 b m gp g2 g5 g8 g10 g12 q (1 - p.side) k 1000004 (p.number + 1) s t p (.slice A k cp) (cutZ 32 t) st0 w11 u HQ.out (by omega) hh (by rw [cutZ_len]; exact HKK.out) hk1 hps OFF NE L0 (by omega) (by decide) hlt _ ?_) rfl
  clear L0 hps hlt
  intro u g12' w12 LI F12
  obtain ⟨Sj, dj, hsub, hn12⟩ := LI.disk
  have h8j : ¬ Sj g8 := fun h => OFF.n8 (hsub _ h)
  have CF2 := Kp.mk (put_flush dj (LI.bd.up (by omega)) (by have := LI.bd.wait; omega) LI.err h8j)
  have hrr : putD ((partsD (q : Int) t k k st0).1, (partsD (q : Int) t k k st0).2) flushD = r := HRR.out.symm
  rw [hrr] at CF2
  have l2 := LI.p2.at_ 0 rfl
  have k0 := LI.pl.at_ 0 rfl
  have P12 := LI.pl
  have B212 := LI.p2
  have B512 := LI.s5
  have hde12 := hDe9
  have F12t : Fr (More S gp) w w12 := ((F59.no f10).one f11 (.inr (by omega))).trans F12 (fun x hx => by
    rcases hx with h | h | h
    · exact .inl (.inl (hsub9 x h).1.1.1.1)
    · exact .inr (by omega)
    · exact .inr (by omega))
  have K12 : w12.heap[De]? = some (.deferred (some [])) := Fr.obj (Fr.obj (Fr.obj Z.out.1 f10 (fun h => h)) f11 (fun h => by have h : De = g12 := h; omega)) F12 (fun h => by
    rcases h with h | h | h
    · exact hnDe h
    · omega
    · omega)
  have hsj : ∀ x, Sj x → S x := fun x h => (hsub9 x (hsub x h)).1.1.1.1
  have hjp : ¬ Sj gp := fun h => HN.out (hsj _ h)
  have hjD : ¬ Sj De := fun h => hnDe (hsub _ h)
  have hj2 : ¬ Sj g2 := fun h => OFF.n2 (hsub _ h)
  have hj5 : ¬ Sj g5 := fun h => OFF.n5 (hsub _ h)
  have hpD : De ≠ gp := by omega
  have h8D : De ≠ g8 := by omega
  have hp2 : g2 ≠ gp := by omega
  have hp5 : g5 ≠ gp := by omega
  have HW : Kp (wroteP p s = ⟨p.half, 1 - p.side, p.number + 1, s⟩) := ⟨rfl⟩
  clear LI dj hrr F12 F59 f10 f11 b12 b12' D9 P9 B29 B59 E9 B10 row
  by_cases hr0 : r.2 = 0
  · have hrb : (r.2 != 0) = false := by simp [hr0]
    have HR0 := Kp.mk hr0
    clear hr0
    go_wp2_with (first
      | (go_at_call 77; (with_reducible refine CF2.out.mono ?_); rintro e w13 ⟨rfl, d13, e13, f13⟩; have l8 := e13.at_ 0 rfl))
    have mj : ∀ {x : Nat}, ¬ Sj x → x ≠ g8 → ¬ More Sj g8 x := fun h1 h2 h => h.elim h1 h2
    refine wp_ud (fun u => pw_reg26 DS b gp g2 g5 g8 (1 - p.side) (p.number + 1) s p w13 u (B212.keep f13 (mj hj2 hg28)) (P12.keep f13 (mj hjp hgp8)) (B512.keep f13 (mj hj5 hg58)) hp2 hp5 _ ?_) rfl
    intro u w14 f14 b14
    clear l2 k0 l8
    go_wp2_with fail
    have K14 : w14.heap[De]? = some (.deferred (some [])) := Fr.obj (Fr.obj K12 f13 (mj hjD h8D)) f14 hpD
    rw [HDS.out]
    refine ⟨by simp, .inl ⟨_, _, rfl, run_takeDeferred K14, ?_⟩⟩
    have F14 : Fr (More S gp) w (w14.putObj De (.deferred none)) := ((F12t.trans f13 (fun x h => h.elim (fun h => .inl (.inl (hsj x h))) (fun h => .inr (by omega)))).one f14 (.inl (.inr rfl))).one (Fr.putObj _) (.inr (by omega))
    refine ⟨_, results_tmp rfl _ _ _, by first | rfl | (rw [HR0.out]; rfl), ((d13.one f14 hjp).one (Fr.putObj _) hjD).wide hsj, ?_, F14⟩
    have he : endP r.2 p s = ⟨p.half, 1 - p.side, p.number + 1, s⟩ := if_pos HR0.out
    rw [he]
    exact b14.one (Fr.putObj _) (Ne.symm hpD)
  · have hrb : (r.2 != 0) = true := by simpa using hr0
    have HR0 := Kp.mk hr0
    clear hr0
    go_wp2_with (first
      | (go_at_call 77; (with_reducible refine CF2.out.mono ?_); rintro e w13 ⟨rfl, d13, e13, f13⟩; have l8 := e13.at_ 0 rfl))
    have mj : ∀ {x : Nat}, ¬ Sj x → x ≠ g8 → ¬ More Sj g8 x := fun h1 h2 h => h.elim h1 h2
    refine wp_ud (fun u => pw_reg24 DS b gp g2 g5 g8 (p.number + 1) s p w13 u (B212.keep f13 (mj hj2 hg28)) (P12.keep f13 (mj hjp hgp8)) hp2 _ ?_) rfl
    intro u w14 f14 b14
    have l8' := (e13.one f14 (Ne.symm hgp8)).at_ 0 rfl
    clear l2 k0 l8
    go_wp2_with fail
    have K14 : w14.heap[De]? = some (.deferred (some [])) := Fr.obj (Fr.obj K12 f13 (mj hjD h8D)) f14 hpD
    rw [HDS.out]
    refine ⟨by simp, .inl ⟨_, _, rfl, run_takeDeferred K14, ?_⟩⟩
    have F14 : Fr (More S gp) w (w14.putObj De (.deferred none)) := ((F12t.trans f13 (fun x h => h.elim (fun h => .inl (.inl (hsj x h))) (fun h => .inr (by omega)))).one f14 (.inl (.inr rfl))).one (Fr.putObj _) (.inr (by omega))
    refine ⟨_, results_tmp rfl _ _ _, rfl, ((d13.one f14 hjp).one (Fr.putObj _) hjD).wide hsj, ?_, F14⟩
    have he : endP r.2 p s = lostP p := if_neg HR0.out
    rw [he]
    exact b14.one (Fr.putObj _) (Ne.symm hpD)
end Go.Proofs.Ytaohfmmapammcaa.Pl

/- A plate on a fresh disk; a writing that is cut; no program in sight. No conditions beside those written out. -/
set_option linter.unusedSimpArgs false
set_option linter.unusedVariables false
namespace Go.Proofs.Ytaohfmmapammcaa.Pl
open Go Go.Proofs.Ytaohfmmapammcaa.Dig Go.Proofs.Ytaohfmmapammcaa.Ch

theorem number_zero4 : numberL [0, 0, 0, 0] = 0 := by decide
theorem half_begin (f : Int → Option B) (half side : Nat) (h : 1 ≤ half) : ∃ r, halfL f half side = secF f ((side * half : Nat) : Int) ++ r := by
  obtain ⟨n, rfl⟩ : ∃ n, half = n + 1 := ⟨half - 1, by omega⟩
  unfold halfL
  rw [List.range_succ_eq_map, List.flatMap_cons]
  exact ⟨_, rfl⟩
/-- A half whose first sector is noughts has the number 0. -/
theorem read_zero (f : Int → Option B) (half side : Nat) (h : 1 ≤ half) (hz : secF f ((side * half : Nat) : Int) = zero32) : (readL (halfL f half side) half).1 = 0 := by
  obtain ⟨r, hr⟩ := half_begin f half side h
  have h4 : (halfL f half side).take 4 = [0, 0, 0, 0] := by
    rw [hr, hz]
    rfl
  unfold readL
  split
  · rfl
  · split
    · rfl
    · show numberL ((halfL f half side).take 4) = 0
      rw [h4]; exact number_zero4
theorem open_fresh (half : Nat) (h : 1 ≤ half) : openP (fun _ => none) half = ⟨half, 0, 0, []⟩ := by
  have h0 := read_zero (fun _ => none) half 0 h rfl
  have h1 := read_zero (fun _ => none) half 1 h rfl
  have c0 : ¬ 0 < (readL (halfL (fun _ => none) half 0) half).1 := by omega
  have c1 : ¬ 0 < (readL (halfL (fun _ => none) half 1) half).1 := by omega
  unfold openP openL
  dsimp only
  rw [if_neg c0]
  exact if_neg c1
theorem fresh_alone (half : Nat) (h : 1 ≤ half) : Alone (fun _ => none) ⟨half, 0, 0, []⟩ :=
  ⟨⟨by show 0 ≤ 1; omega, Int.le_refl _, fun _ => rfl, fun h => absurd h (by show ¬ (0 : Int) < 0; omega), fun s hs => by
    exact Int.le_of_eq (read_zero (fun _ => none) half s h rfl)⟩, fun h => absurd h (by show ¬ (0 : Int) < 0; omega)⟩

/-- A plate's text written to a disk that is well. -/
theorem writeP_ok {D : DiskS} {p : PlateS} (h : OkD D) (s : B) (hs : s.length + 40 ≤ p.half * 32) (hsd : p.side ≤ 1) (hz : D.size = 2 * p.half) :
    writeAll D (((1 - p.side) * p.half : Nat) : Int) (toldL (p.number + 1) s) = ({ D with lasts := wroteF D.lasts p s, count := D.count + cutN 32 (toldL (p.number + 1) s) + 4 }, 0) := by
  have hk : cutN 32 (toldL (p.number + 1) s) ≤ p.half := by
    unfold cutN
    rw [toldL_len]
    omega
  have hq : (1 - p.side) * p.half ≤ p.half := by
    rcases (by omega : p.side = 0 ∨ p.side = 1) with e | e
    · rw [e]; omega
    · rw [e]; omega
  exact writeAll_ok h _ _ (by omega) (by rw [toldL_len]; omega) (by omega)
theorem wroteF_full {f : Int → Option B} (h : ∀ a s, f a = some s → s.length = 32) (p : PlateS) (s : B) : ∀ a x, wroteF f p s a = some x → x.length = 32 := store_full h _ _ _ _

theorem write_gen {D : DiskS} (hu : D.down = false) (hc : D.cutAt ≠ D.count + 1) (a : Int) (d : B) (h0 : 0 ≤ a) (h1 : a < D.size) (hd : d.length ≤ 32) : writeD D a d = (countD (waitD D a d), 0) := by
  have h2 : askedD D a = 0 := by
    unfold askedD
    rw [hu, if_neg (by decide), if_neg (by omega), if_neg (by omega)]
  have h3 : failB D = false := by unfold failB; simpa using hc
  have h4 : failD (waitD D a d) = countD (waitD D a d) := if_neg hc
  unfold writeD
  rw [h2, if_neg (by omega), if_neg (by omega), h3, h4]
  rfl
theorem write_crash {D : DiskS} (hu : D.down = false) (hc : D.cutAt = D.count + 1) (a : Int) (d : B) (h0 : 0 ≤ a) (h1 : a < D.size) (hd : d.length ≤ 32) : writeD D a d = (crashD (countD (waitD D a d)), 7) := by
  have h2 : askedD D a = 0 := by
    unfold askedD
    rw [hu, if_neg (by decide), if_neg (by omega), if_neg (by omega)]
  have h3 : failB D = true := by unfold failB; simpa using hc
  have h4 : failD (waitD D a d) = crashD (countD (waitD D a d)) := if_pos hc
  unfold writeD
  rw [h2, if_neg (by omega), if_neg (by omega), h3, h4]
  rfl
theorem flush_gen {D : DiskS} (hu : D.down = false) (hc : D.cutAt ≠ D.count + 1) : flushD D = (lastD (countD D), 0) := by
  have h3 : failB D = false := by unfold failB; simpa using hc
  have h4 : failD D = countD D := if_neg hc
  unfold flushD
  rw [hu, h3, h4]
  rfl
/-- A text of two parts, cut at its third effect. -/
theorem writeAll_cut {D : DiskS} (hu : D.down = false) (hc : D.cutAt = 3) (hn : D.count = 0) (hw : D.wait = []) (o : Int) (b : B) (ho : 0 ≤ o) (hb : 32 < b.length) (hb2 : b.length ≤ 64) (hk : o + 2 ≤ D.size) :
    writeAll D o b = ({ D with lasts := put1 D.lasts (o, zero32), wait := [], cutAt := 0, count := 3, down := true }, 7) := by
  have h2 : cutN 32 b = 2 := by unfold cutN; omega
  obtain ⟨C, hC⟩ : ∃ C : DiskS, C = { D with lasts := put1 D.lasts (o, zero32), wait := [], cutAt := 0, count := 3, down := true } := ⟨_, rfl⟩
  have e1 : putD (writeD D o []) flushD = (lastD (countD (countD (waitD D o []))), 0) := by
    rw [write_gen hu (by omega) o [] ho (by omega) (by simp), putD_0, flush_gen (D := countD (waitD D o [])) hu (by show D.cutAt ≠ D.count + 1 + 1; omega)]
  obtain ⟨F, hF⟩ : ∃ F, F = lastD (countD (countD (waitD D o []))) := ⟨_, rfl⟩
  rw [← hF] at e1
  have fu : F.down = false := by rw [hF]; exact hu
  have fc : F.cutAt = F.count + 1 := by rw [hF]; show D.cutAt = D.count + 1 + 1 + 1; omega
  have fz : F.size = D.size := by rw [hF]; rfl
  have e2 : partD o b 2 1 (F, 0) = (C, 7) := by
    unfold partD
    rw [if_neg (by omega), putD_0]
    show writeD _ _ _ = _
    rw [write_crash fu fc _ _ (by omega) (by rw [fz]; show o + ((1 : Nat) : Int) < _; omega) (pieceL32 _ _), hC, hF]
    unfold crashD
    rw [if_neg (by show ¬ D.down = true; rw [hu]; decide)]
    simp only [countD, waitD, lastD, hw, List.nil_append, List.foldl_cons, List.foldl_nil, pad_nil, Prod.mk.injEq, DiskS.mk.injEq, true_and, and_true]
    omega
  have e3 : partD o b 2 0 (C, 7) = (C, 7) := by
    unfold partD
    have c7 : putD (C, 7) flushD = (C, 7) := putD_no C flushD (by decide)
    rw [if_pos ⟨rfl, by omega⟩, c7]
    exact putD_no C _ (by decide)
  unfold writeAll
  rw [h2, e1]
  show putD (partD o b 2 0 (partD o b 2 1 (F, 0))) flushD = _
  rw [e2, e3]
  have e4 : putD (C, 7) flushD = (C, 7) := putD_no C flushD (by decide)
  rw [e4, hC]
/-- What awake finds behind its cut. -/
theorem open_cut (s : B) (hs : s.length + 40 ≤ 4 * 32) : (openP (put1 (wroteF (fun _ => none) ⟨4, 0, 0, []⟩ s) (0, zero32)) 4).number = 1 ∧ (openP (put1 (wroteF (fun _ => none) ⟨4, 0, 0, []⟩ s) (0, zero32)) 4).text = s := by
  obtain ⟨f, hf⟩ : ∃ f, f = wroteF (fun _ => none) ⟨4, 0, 0, []⟩ s := ⟨_, rfl⟩
  have ha : Alone f (wroteP ⟨4, 0, 0, []⟩ s) := by rw [hf]; exact wrote_alone (fresh_alone 4 (by decide)).toTells s hs (by omega) (by decide)
  have h1 : readL (halfL f 4 1) 4 = (1, s) := ha.cur (by show (0 : Int) < 0 + 1; decide)
  rw [← hf]
  have e1 : halfL (put1 f (0, zero32)) 4 1 = halfL f 4 1 := halfL_congr fun i hi => by
    unfold put1
    rw [if_neg (by show ¬ ((1 * 4 + i : Nat) : Int) = 0; omega)]
  have e0 : (readL (halfL (put1 f (0, zero32)) 4 0) 4).1 = 0 := read_zero _ 4 0 (by decide) rfl
  have c0 : ¬ 0 < (readL (halfL (put1 f (0, zero32)) 4 0) 4).1 := by omega
  unfold openP openL
  rw [e1, h1]
  dsimp only
  rw [if_neg c0]
  dsimp only
  rw [if_pos (by decide)]
  exact ⟨rfl, rfl⟩
end Go.Proofs.Ytaohfmmapammcaa.Pl

/- plate's Write refused, done; the law's awake. Conditions: sizes are bounded, as written out. -/
set_option linter.unusedSimpArgs false
set_option linter.unusedVariables false
namespace Go.Proofs.Ytaohfmmapammcaa.Pl
open Go Go.RowKit Go.Proofs.YtaohfmmapammcaaW.PrintWords Go.Proofs.YtaohfmmapammcaaW.PrintLast Go.Proofs.Ytaohfmmapammcaa.Sha Go.Proofs.Ytaohfmmapammcaa.Dig Go.Proofs.Ytaohfmmapammcaa.Ev Go.Proofs.Ytaohfmmapammcaa.Reg Go.Proofs.Ytaohfmmapammcaa.Ch

set_option maxRecDepth 100000 in
set_option maxHeartbeats 4000000 in
theorem write_long {w : World} {b gp : Nat} {p : PlateS} {s : B} (hP : Blk w gp 123 (plL b p)) (hh : p.half ≤ 4096) (hl : (p.half : Int) * 32 - 40 < (s.length : Int)) :
    Calls Try.prog 26 #[.pointer (some ⟨gp, 0, none⟩), .string (bs s)] w fun e w' => e = .returned (.int .i64 6) ∧ Fr No w w' := by
  have HP := Kp.mk hP
  have hsz : (bs s).size = s.length := bs_size s
  have CRM : Kp (∀ w', Blk w' gp 123 (plL b p) → Calls Try.prog 28 #[.pointer (some ⟨gp, 0, none⟩)] w' fun e w'' => e = .returned (.int .i64 ((p.half : Int) * 32 - 40)) ∧ w'' = w') := ⟨fun w' h => room_any h hh⟩
  clear hP
  go_enter Try.func26, Try.ntmps26
  go_wp2_with (first
    | ((with_reducible refine gate_dst (N := 2) rfl ?_); refine ev_box rfl 37 _ rfl _ rfl [.pointer (some ⟨gp, 0, none⟩)] (by rfl) ?_; intro g2 w1 hg2 f1 b2; have P1 := HP.out.no f1; have c2 := b2.at_ 0 rfl)
    | (go_at_call 28; refine (CRM.out _ P1).mono ?_; rintro e w9 ⟨rfl, hww⟩; subst hww))
  go_ret
  exact ⟨rfl, f1⟩
set_option maxRecDepth 100000 in
set_option maxHeartbeats 4000000 in
theorem write_full {w : World} {b gp : Nat} {p : PlateS} {s : B} (hP : Blk w gp 123 (plL b p)) (hh : p.half ≤ 4096) (hl : (s.length : Int) ≤ (p.half : Int) * 32 - 40) (hn : 2147483647 ≤ p.number) :
    Calls Try.prog 26 #[.pointer (some ⟨gp, 0, none⟩), .string (bs s)] w fun e w' => e = .returned (.int .i64 1) ∧ Fr No w w' := by
  have HP := Kp.mk hP
  have hsz : (bs s).size = s.length := bs_size s
  have CRM : Kp (∀ w', Blk w' gp 123 (plL b p) → Calls Try.prog 28 #[.pointer (some ⟨gp, 0, none⟩)] w' fun e w'' => e = .returned (.int .i64 ((p.half : Int) * 32 - 40)) ∧ w'' = w') := ⟨fun w' h => room_any h hh⟩
  clear hP
  go_enter Try.func26, Try.ntmps26
  go_wp2_with (first
    | ((with_reducible refine gate_dst (N := 2) rfl ?_); refine ev_box rfl 37 _ rfl _ rfl [.pointer (some ⟨gp, 0, none⟩)] (by rfl) ?_; intro g2 w1 hg2 f1 b2; have P1 := HP.out.no f1; have c2 := b2.at_ 0 rfl; have k3 := P1.at_ 3 rfl)
    | (go_at_call 28; refine (CRM.out _ P1).mono ?_; rintro e w9 ⟨rfl, hww⟩; subst hww))
  go_ret
  exact ⟨rfl, f1⟩

def wellD (D : DiskS) (p : PlateS) (s : B) : DiskS := { D with lasts := wroteF D.lasts p s, count := D.count + cutN 32 (toldL (p.number + 1) s) + 4 }
theorem wellD_ok {D : DiskS} (h : OkD D) (p : PlateS) (s : B) : OkD (wellD D p s) := ⟨h.up, h.cut, h.quiet, by have := h.cnt; show 0 ≤ D.count + _ + 4; omega, wroteF_full h.full p s⟩
theorem wellD_count {D : DiskS} (p : PlateS) (s : B) (hs : s.length + 40 ≤ p.half * 32) : (wellD D p s).count ≤ D.count + p.half + 4 := by
  have hk : cutN 32 (toldL (p.number + 1) s) ≤ p.half := by
    unfold cutN
    rw [toldL_len]
    omega
  show D.count + _ + 4 ≤ _
  omega
theorem write_well {w : World} {S : Nat → Prop} {b m gp : Nat} {D : DiskS} {p : PlateS} {s : B} (hD : Dk w S b m D) (hok : OkD D) (hc : D.count ≤ 1000000) (hz : D.size = 2 * p.half) (hP : Blk w gp 123 (plL b p)) (hn : ¬ S gp) (hs : p.side ≤ 1) (h0 : 0 ≤ p.number) (h1 : p.number < 2147483647) (hh : p.half ≤ 4096) (hl : s.length + 40 ≤ p.half * 32) :
    Calls Try.prog 26 #[.pointer (some ⟨gp, 0, none⟩), .string (bs s)] w fun e w' => e = .returned (.int .i64 0) ∧ Dk w' S b m (wellD D p s) ∧ Blk w' gp 123 (plL b (wroteP p s)) ∧ Fr (More S gp) w w' :=
  write_plate hD ⟨hok.cnt, hc, by rw [hok.quiet]; exact Nat.zero_le _⟩ hP hn hs h0 h1 hh hl (wellD D p s, 0) (writeP_ok hok s hl hs hz).symm

/-- The disk that awake finds behind its cut. -/
def cutX : DiskS := ⟨8, put1 (wroteF (fun _ => none) ⟨4, 0, 0, []⟩ [111, 110, 101]) (0, zero32), [], 0, 3, false⟩
theorem cutX_ok : OkD cutX := ⟨rfl, rfl, rfl, by decide, fun a s h => by
  unfold cutX put1 at h
  dsimp only at h
  by_cases e : a = 0
  · rw [if_pos e] at h; cases h; rfl
  · rw [if_neg e] at h
    exact wroteF_full (fun _ _ h => by cases h) _ _ a s h⟩
set_option maxRecDepth 100000 in
set_option maxHeartbeats 8000000 in
theorem awake_any (w : World) : Calls Try.prog 18 #[] w fun e w' => e = .returned (.bool true) ∧ Fr No w w' := by
  go_enter Try.func18, Try.ntmps18
  go_wp2_with fail
  refine (new_any 8 (by decide) (by decide) w).mono ?_
  rintro e w1 ⟨b, m, rfl, d1, hb, hm, f1⟩
  have D1 : Dk w1 (fun k => w.heap.size ≤ k) b m (newD 8) := ⟨⟨.slice none 0 0, d1, fun k hk => by simp [Value.ownBlock] at hk⟩, hb, hm, fun k hk => Nat.le_trans f1.size hk⟩
  have HD1 := Kp.mk D1
  clear D1 d1
  go_wp2_with fail
  refine (open_any HD1.out (newD_ok 8) 4 rfl (by decide) (by decide)).mono ?_
  rintro e w2 ⟨gp, rfl, P2, hgp, D2, f2⟩
  rw [show (newD 8).lasts = fun _ => none from rfl, open_fresh 4 (by decide)] at P2
  have HP2 := Kp.mk P2
  have HD2 := Kp.mk D2
  have gw := P2.lt
  clear P2 D2
  go_wp2_with fail
  refine (write_well (p := ⟨4, 0, 0, []⟩) (s := [111, 110, 101]) HD2.out (newD_ok 8) (by decide) rfl HP2.out (fun h => h.2 rfl) (by decide) (by decide) (by decide) (by decide) (by decide)).mono ?_
  rintro e w3 ⟨rfl, D3, P3, f3⟩
  have HP3 := Kp.mk P3
  have HD3 := Kp.mk D3
  clear D3 P3
  go_wp2_with fail
  refine (arm_any HD3.out 3).mono ?_
  rintro e w4 ⟨rfl, D4, f4⟩
  have P4 := HP3.out.keep f4 (fun h => h.2 rfl)
  have HP4 := Kp.mk P4
  have HD4 := Kp.mk D4
  clear D4 P4
  go_wp2_with fail
  have HC := writeAll_cut (D := armD (wellD (newD 8) ⟨4, 0, 0, []⟩ [111, 110, 101]) 3) rfl rfl rfl rfl 0 (toldL (1 + 1) [116, 119, 111]) (by decide) (by rw [toldL_len]; decide) (by rw [toldL_len]; decide) (by decide)
  refine (write_plate (p := wroteP ⟨4, 0, 0, []⟩ [111, 110, 101]) (s := [116, 119, 111]) HD4.out ⟨by decide, by decide, by decide⟩ HP4.out (fun h => h.2 rfl) (by decide) (by decide) (by decide) (by decide) (by decide) _ HC.symm).mono ?_
  clear HC
  rintro e w5 ⟨rfl, D5, P5, f5⟩
  have HP5 := Kp.mk P5
  have HD5 := Kp.mk D5
  clear D5 P5
  go_wp2_with fail
  refine (start_any HD5.out).mono ?_
  rintro e w6 ⟨rfl, D6, f6⟩
  have HP6 := Kp.mk (HP5.out.keep f6 (fun h => h.2 rfl))
  have HD6 : Kp (Dk w6 (Less (fun k => w.heap.size ≤ k) gp) b m cutX) := ⟨D6⟩
  clear D6
  go_wp2_with fail
  refine (open_any HD6.out cutX_ok 4 rfl (by decide) (by decide)).mono ?_
  rintro e w7 ⟨gq, rfl, P7, hgq, D7, f7⟩
  obtain ⟨oc1, oc2⟩ := open_cut [111, 110, 101] (by decide)
  have HP7 : Kp (Blk w7 gq 123 (plL b (openP cutX.lasts 4))) := ⟨P7⟩
  have CT7 : Kp (∀ W, Blk W gq 123 (plL b (openP cutX.lasts 4)) → Calls Try.prog 24 #[.pointer (some ⟨gq, 0, none⟩)] W fun e w' => e = .returned (.string ⟨#[111, 110, 101]⟩) ∧ w' = W) := ⟨fun W h => by
    have h := text_any h
    have e : (openP cutX.lasts 4).text = [111, 110, 101] := oc2
    rw [e] at h
    exact h⟩
  have CN7 : Kp (∀ W, Blk W gq 123 (plL b (openP cutX.lasts 4)) → Calls Try.prog 23 #[.pointer (some ⟨gq, 0, none⟩)] W fun e w' => e = .returned (.int .i64 1) ∧ w' = W) := ⟨fun W h => by
    have h := pnumber_any h
    have e : (openP cutX.lasts 4).number = 1 := oc1
    rw [e] at h
    exact h⟩
  have he : endP 7 (wroteP ⟨4, 0, 0, []⟩ [111, 110, 101]) [116, 119, 111] = ⟨4, 1, 0, []⟩ := if_neg (by decide)
  rw [he] at HP6
  have HP67 := Kp.mk (HP6.out.no f7)
  have gqw := P7.lt
  have FW : Kp (Fr No w w7) := ⟨(((((f1.no f2).trans f3 (fun i h => h.elim (fun h => .inr h.1) (fun e => .inr (by have := f1.size; omega)))).trans f4 (fun i h => .inr h.1)).trans f5 (fun i h => h.elim (fun h => .inr h.1) (fun e => .inr (by have := f1.size; omega)))).trans f6 (fun i h => .inr h.1)).no f7⟩
  clear oc1 oc2 P7 D7 he f1 f2 f3 f4 f5 f6 f7 hb hm HD1 HD2 HD3 HD4 HD5 HD6 HP2 HP3 HP4 HP5 HP6
  go_wp2_with fail
  refine (new_any 7 (by decide) (by decide) w7).mono ?_
  rintro e w8 ⟨b', m', rfl, d8, hb', hm', f8⟩
  have D8 : Dk w8 (fun k => w7.heap.size ≤ k) b' m' (newD 7) := ⟨⟨.slice none 0 0, d8, fun k hk => by simp [Value.ownBlock] at hk⟩, hb', hm', fun k hk => Nat.le_trans f8.size hk⟩
  have HD8 := Kp.mk D8
  clear D8 d8 hb' hm'
  go_wp2_with fail
  refine (open_bad HD8.out (.inl (by decide))).mono ?_
  rintro e w10 ⟨rfl, hww⟩
  subst hww
  have HPp := Kp.mk (HP67.out.no f8)
  have HPq := Kp.mk (HP7.out.no f8)
  have CR : Kp (Calls Try.prog 28 #[.pointer (some ⟨gp, 0, none⟩)] w10 fun e w' => e = .returned (.int .i64 88) ∧ w' = w10) := ⟨room_any HPp.out (by decide)⟩
  have CTp : Kp (Calls Try.prog 24 #[.pointer (some ⟨gp, 0, none⟩)] w10 fun e w' => e = .returned (.string ⟨#[]⟩) ∧ w' = w10) := ⟨text_any HPp.out⟩
  go_wp2_with (first
    | (go_at_call 28; (with_reducible refine CR.out.mono ?_); rintro e w11 ⟨rfl, hww⟩; subst hww)
    | (go_at_call 24; (with_reducible refine CTp.out.mono ?_); rintro e w11 ⟨rfl, hww⟩; subst hww)
    | (go_at_call 24; (with_reducible refine (CT7.out _ HPq.out).mono ?_); rintro e w11 ⟨rfl, hww⟩; subst hww)
    | (go_at_call 23; (with_reducible refine (CN7.out _ HPq.out).mono ?_); rintro e w11 ⟨rfl, hww⟩; subst hww))
  go_ret
  exact ⟨rfl, FW.out.no f8⟩
end Go.Proofs.Ytaohfmmapammcaa.Pl

/- The plates' laws: texts that came in, few. Conditions: sizes are bounded, as written out. -/
set_option linter.unusedSimpArgs false
set_option linter.unusedVariables false
namespace Go.Proofs.Ytaohfmmapammcaa.Pl
open Go Go.RowKit Go.Proofs.YtaohfmmapammcaaW.PrintWords Go.Proofs.YtaohfmmapammcaaW.PrintLast Go.Proofs.Ytaohfmmapammcaa.Sha Go.Proofs.Ytaohfmmapammcaa.Dig Go.Proofs.Ytaohfmmapammcaa.Ev Go.Proofs.Ytaohfmmapammcaa.Reg Go.Proofs.Ytaohfmmapammcaa.Ch

/-- Texts that came in. -/
structure Txts (w : World) (A : Option Addr) (l : List B) : Prop where
  out : 0 < l.length → ∃ b o, A = some ⟨b, o, none⟩ ∧ b < w.heap.size ∧ ∀ (i : Nat) (x : B), l[i]? = some x → w.cell? ⟨b, o + i, none⟩ = some (.string (bs x))
theorem Txts.no {w w1 : World} {A : Option Addr} {l : List B} (h : Txts w A l) (f : Fr No w w1) : Txts w1 A l := ⟨fun h0 => by
  obtain ⟨b, o, e, hb, hc⟩ := h.out h0
  exact ⟨b, o, e, Nat.lt_of_lt_of_le hb f.size, fun i x hx => Fr.cell (hc i x hx) f (fun h => h)⟩⟩
def totL (l : List B) : Nat := (l.map List.length).sum
def fewB (l : List B) : Bool := decide (l.length ≤ 30) && decide (totL l ≤ 5000)
theorem totL_snoc (l : List B) (i : Nat) (x : B) (h : l[i]? = some x) : totL (l.take (i + 1)) = totL (l.take i) + x.length := by
  rw [List.take_add_one, h]
  simp [totL]
theorem totL_le (l : List B) (i : Nat) : totL (l.take i) ≤ totL l := by
  have : totL l = totL (l.take i) + totL (l.drop i) := by
    unfold totL
    rw [← List.sum_append, ← List.map_append, List.take_append_drop]
  omega
theorem totL_mem (l : List B) (i : Nat) (x : B) (h : l[i]? = some x) : x.length ≤ totL l := by
  have h1 := totL_snoc l i x h
  have h2 := totL_le l (i + 1)
  omega
theorem few_true {l : List B} (h : fewB l = true) : l.length ≤ 30 ∧ ∀ (i : Nat) (x : B), l[i]? = some x → x.length ≤ 5000 := by
  simp only [fewB, Bool.and_eq_true, decide_eq_true_eq] at h
  exact ⟨h.1, fun i x hx => Nat.le_trans (totL_mem l i x hx) h.2⟩

set_option maxHeartbeats 4000000 in
set_option maxRecDepth 100000 in
theorem few_any (l : List B) (A : Option Addr) (c : Nat) (w : World) (hX : Txts w A l) (hs : ∀ (i : Nat) (x : B), l[i]? = some x → x.length ≤ 1099511627776000) (hl : l.length ≤ 1099511627776000) :
    Calls Try.prog 27 #[.slice A l.length c] w fun e w' => e = .returned (.bool (fewB l)) ∧ w' = w := by
  obtain ⟨z, hz⟩ : ∃ z, fewB l = z := ⟨_, rfl⟩
  rw [hz]
  have HZ := Kp.mk hz
  have HX := Kp.mk hX
  have HS := Kp.mk hs
  clear hz hX hs
  go_enter Try.func27, Try.ntmps27
  go_wp2_with fail
  go_loopg [3, 4] l.length (fun gg s3 s4 wr => ∃ i : Nat, i ≤ l.length ∧ l.length - i ≤ gg ∧ s3 = .int .i64 (totL (l.take i) : Nat) ∧ s4 = .int .i64 i ∧ wr = w ∧ i ≤ 30 ∧ Kp (totL (l.take i) ≤ 5000))
  case atStart => exact ⟨0, Nat.zero_le _, by omega, rfl, rfl, rfl, by omega, ⟨by simp [totL]⟩⟩
  case round =>
    obtain ⟨i, hi, hg, rfl, rfl, rfl, h30, H5⟩ := hrel
    have h5 := H5.out
    by_cases hlt : i < l.length
    · have hltz : (i : Int) < (l.length : Int) := by omega
      obtain ⟨x, hx⟩ : ∃ x, l[i]? = some x := ⟨_, List.getElem?_eq_getElem hlt⟩
      obtain ⟨b, o, rfl, hb, hcc⟩ := HX.out.out (by omega)
      have l1 := hcc i x hx
      have hxl := HS.out i x hx
      have hsn := totL_snoc l i x hx
      have hle := totL_le l (i + 1)
      have hxs : (bs x).size = x.length := bs_size x
      have fin : 30 ≤ i ∨ 5000 < totL (l.take i) + x.length → z = false := fun h => by
        rw [← HZ.out]
        unfold fewB
        rcases h with h | h
        · have : ¬ l.length ≤ 30 := by omega
          simp [this]
        · have : ¬ totL l ≤ 5000 := by omega
          simp [this]
      have HSN := Kp.mk hsn
      generalize totL (l.take i) = n at *
      have hn0 : (0 : Int) ≤ (n : Int) := by omega
      clear hcc hx hle hsn H5
      by_cases c1 : i < 30
      · have c1z : ¬ (30 : Int) ≤ (i : Int) := by omega
        by_cases c2 : n + x.length ≤ 5000
        · have c2z : ¬ (5000 : Int) < (n : Int) + (x.length : Int) := by omega
          clear fin
          go_wp2_with fail
          go_roundg (l.length - (i + 1))
          case measure => omega
          case rel => exact ⟨i + 1, by omega, by omega, by rw [HSN.out]; go_num, by go_num, rfl, by omega, ⟨by rw [HSN.out]; exact c2⟩⟩
        · have c2z : (5000 : Int) < (n : Int) + (x.length : Int) := by omega
          obtain rfl : z = false := fin (.inr (by omega))
          clear fin
          go_wp2_with fail
          go_ret
          exact ⟨rfl, rfl⟩
      · have c1z : (30 : Int) ≤ (i : Int) := by omega
        obtain rfl : z = false := fin (.inl (by omega))
        clear fin
        go_wp2_with fail
        go_ret
        exact ⟨rfl, rfl⟩
    · obtain rfl : i = l.length := by omega
      have hltz : ¬ (l.length : Int) < (l.length : Int) := by omega
      have : z = true := by
        rw [← HZ.out]
        rw [List.take_length] at h5
        simp [fewB, h30, h5]
      subst this
      clear H5 h5
      go_wp2_with fail
      go_ret
      exact ⟨rfl, rfl⟩
end Go.Proofs.Ytaohfmmapammcaa.Pl
