/- Texts joined by merge.py: WiAwake, LexOk, WireAwL, WireAwake, WireFew, WireSame, WiTwo. -/
import Derived.Test.YtioohhekamjljaaWxD
import Derived.Test.YtioohhekamjljaaWxA
import Derived.Still
import Derived.BigQuiet
import Derived.Test.YtioohhekamjljaaWxC
/- One small stream, fed piece by piece: what awake asks; no program in sight. No conditions beside those written out. -/
set_option linter.unusedSimpArgs false
set_option linter.unusedVariables false
namespace Go.Proofs.Ytioohhekamjljaa.Wk
open Go.Proofs.Ytioohhekamjljaa.Crc Go.Proofs.Ytioohhekamjljaa.Wi

theorem feed_go {R : Rd} {s : B} {L : List Rc} {wt : B} {e0 : Nat} {out : List St} {d : Sd} (h0 : R.err = 0) (hl : R.all.length + s.length ≤ 65536) (ho : ¬ (R.d.over = true ∧ s ≠ [])) (hr : recs R.next (R.wait ++ s) = (L, wt, e0))
    (hs : stepsP dg (R.all ++ s) R.d L = (out, d)) (hw : d.wrong = 0) (hv : ¬ (d.over = true ∧ d.at_ < (R.all ++ s).length)) : feedP dg R s = (⟨R.all ++ s, wt, R.next + L.length, d, e0⟩, out, e0) := by
  unfold feedP
  rw [if_neg (by rw [h0]; exact fun h => h rfl), if_neg (by omega), if_neg ho, hr]
  dsimp only
  rw [hs]
  dsimp only
  rw [if_neg (by rw [hw]; exact fun h => h rfl), if_neg hv]
/-- A stream, decoded. -/
theorem feed_all {h : Hd} {l : List Cm} (k : OkS dg h l) (hl : (streamP dg h l).length ≤ 65536) : feedP dg Rd0 (streamP dg h l) = (⟨streamP dg h l, [], l.length + 2, ⟨(streamP dg h l).length, true, true, 0⟩, 0⟩, .head h :: (l.map St.cmd ++ [St.fin]), 0) := by
  have h1 := recs_stream k []
  rw [List.append_nil, recs_nil, List.append_nil] at h1
  have h2 := steps_stream k [] []
  rw [List.append_nil, List.append_nil] at h2
  have := feed_go (R := Rd0) (s := streamP dg h l) (L := allR dg h l) (wt := []) (e0 := 0) rfl (by show 0 + _ ≤ _; omega) (by rintro ⟨h, _⟩; cases h) h1 h2 rfl (by rintro ⟨_, h⟩; exact Nat.lt_irrefl _ h)
  rw [this, all_len]
  have e : Rd0.next + (l.length + 2) = l.length + 2 := Nat.zero_add _
  have e2 : Rd0.all ++ streamP dg h l = streamP dg h l := rfl
  have e3 : ∀ d : Sd, stepsP dg (streamP dg h l) d [] = ([], d) := fun _ => rfl
  rw [e, e2, e3]
theorem cmds_of (h : Hd) (l : List Cm) : (St.head h :: (l.map St.cmd ++ [St.fin])).filterMap cmdSt = l := by
  have : ∀ l : List Cm, (l.map St.cmd ++ [St.fin]).filterMap cmdSt = l := by
    intro l
    induction l with
    | nil => rfl
    | cons c l ih =>
      show c :: (l.map St.cmd ++ [St.fin]).filterMap cmdSt = _
      rw [ih]
  exact this l
theorem dec_stream {h : Hd} {l : List Cm} (k : OkS dg h l) (hl : (streamP dg h l).length ≤ 65536) : decV (streamP dg h l) = (h, l, 0) := by
  unfold decV
  rw [feed_all k hl]
  dsimp only
  rw [if_neg (fun h => h rfl), if_pos rfl, cmds_of]
  rfl
/-- A proper beginning is none. -/
theorem dec_cut {h : Hd} {l : List Cm} (k : OkS dg h l) (hl : (streamP dg h l).length ≤ 65536) {a b : B} (e : a ++ b = streamP dg h l) (hb : b ≠ []) : decV a = (zeroH, [], 2) := by
  obtain ⟨out, d, h1, h2, h3, h4, h5, _⟩ := tells_cut k e hb
  have hla : a.length ≤ 65536 := by
    have := congrArg List.length e
    rw [List.length_append] at this
    omega
  obtain ⟨g1, g2, g3, g4, g5⟩ := feed_fed (fed_new dg) a (by show 0 + _ ≤ _; omega)
  have ha : Rd0.all ++ a = a := rfl
  rw [ha, h1] at g2
  have g2' : (feedP dg Rd0 a).2.2 = 0 := g2
  have F := g5 g2'
  have gall : (feedP dg Rd0 a).1.all = a := by
    rw [g1, if_neg (by rintro ⟨h, _⟩; cases h)]
    rfl
  have hd : (feedP dg Rd0 a).1.d = d := by
    rw [F.d, gall]
    have := congrArg (fun z => z.2.1) h1
    exact this
  unfold decV
  rw [g2', if_neg (fun h => h rfl), hd, h3, if_neg (by decide)]
/-- A head and a command without a name. -/
structure Aw (h : Hd) (c : Cm) : Prop where
  okh : okH h = true
  okc : rightC c = true
  nm : c.name = []
  dt : c.data = []
def RA1 (h : Hd) (c : Cm) : Rd := ⟨(streamP dg h [c]).take 100, (recB (cmdR 1 c)).take 17, 1, ⟨83, true, false, 0⟩, 0⟩
def RA2 (h : Hd) (c : Cm) : Rd := ⟨streamP dg h [c], [], 3, ⟨158, true, true, 0⟩, 0⟩
theorem r1_len {h : Hd} (k : okH h = true) : (recB (headR h)).length = 83 := by
  rw [rec_len, show (headR h).pay = headB h from rfl, headB_len k]
theorem r2_len {c : Cm} (h1 : c.name = []) (h2 : c.data = []) : (recB (cmdR 1 c)).length = 32 := by
  rw [rec_len, show (cmdR 1 c).pay = printC c from rfl, print_len, h1, h2]
  rfl
theorem r3_len (h : Hd) (c : Cm) : (recB (lastR dg h [c])).length = 43 := by
  rw [rec_len, show (lastR dg h [c]).pay = dg (foreP h [c]) from rfl, dg_len]
theorem fore_eq (h : Hd) (c : Cm) : foreP h [c] = recB (headR h) ++ recB (cmdR 1 c) := by
  unfold foreP
  show recB (headR h) ++ (recB (cmdR 1 c) ++ []) = _
  rw [List.append_nil]
theorem s_eq (h : Hd) (c : Cm) : streamP dg h [c] = recB (headR h) ++ (recB (cmdR 1 c) ++ recB (lastR dg h [c])) := by
  rw [streamP_eq, fore_eq, List.append_assoc]
theorem s_len {h : Hd} {c : Cm} (w : Aw h c) : (streamP dg h [c]).length = 158 := by
  rw [s_eq, List.length_append, List.length_append, r1_len w.okh, r2_len w.nm w.dt, r3_len]
theorem okS {h : Hd} {c : Cm} (w : Aw h c) : OkS dg h [c] := ⟨w.okh, (by intro d hd; rw [List.mem_singleton.1 hd]; exact w.okc), (by show 1 + 1 ≤ _; decide), by rw [dg_len]; decide⟩
theorem take100 {h : Hd} {c : Cm} (w : Aw h c) : (streamP dg h [c]).take 100 = recB (headR h) ++ (recB (cmdR 1 c)).take 17 := by
  have h1 := r1_len w.okh
  have h2 := r2_len w.nm w.dt
  rw [s_eq, List.take_append, h1, List.take_of_length_le (by omega), List.take_append_of_le_length (by omega)]
theorem drop100 {h : Hd} {c : Cm} (w : Aw h c) : (streamP dg h [c]).drop 100 = (recB (cmdR 1 c)).drop 17 ++ recB (lastR dg h [c]) := by
  have h1 := r1_len w.okh
  have h2 := r2_len w.nm w.dt
  rw [s_eq, List.drop_append, h1, List.drop_of_length_le (by omega), List.nil_append, List.drop_append_of_le_length (by omega)]
theorem okR2 {h : Hd} {c : Cm} (w : Aw h c) : OkR (cmdR 1 c) := cmdR_ok w.okc (by decide)
theorem short2 {h : Hd} {c : Cm} (w : Aw h c) : parseT ((recB (cmdR 1 c)).take 17) = .none := parse_short _ (okR2 w) (List.take_append_drop 17 (recB (cmdR 1 c))) (by
  intro e
  have := congrArg List.length e
  have h2 := r2_len w.nm w.dt
  rw [List.length_drop, h2] at this
  simp at this)
theorem recs1 {h : Hd} {c : Cm} (w : Aw h c) (q : B) (hw : parseT q = .none) : recs 0 (recB (headR h) ++ q) = ([headR h], q, 0) := by
  rw [recs_got (n := 0) (parse_rec _ (headR_ok w.okh) q) rfl, recs_none hw]
theorem step1 {h : Hd} {c : Cm} (w : Aw h c) (all : B) : stepsP dg all Sd0 [headR h] = ([.head h], ⟨83, true, false, 0⟩) := by
  rw [steps_ok (step_head dg _ w.okh)]
  have : Sd.go Sd0 (headR h) (.head h) = ⟨83, true, false, 0⟩ := by
    unfold Sd.go
    rw [show (headR h).pay = headB h from rfl, headB_len w.okh]
    rfl
  rw [this]
  rfl
theorem feedA1 {h : Hd} {c : Cm} (w : Aw h c) : feedP dg Rd0 ((streamP dg h [c]).take 100) = (RA1 h c, [.head h], 0) := by
  have hl := s_len w
  refine feed_go (R := Rd0) (L := [headR h]) (wt := (recB (cmdR 1 c)).take 17) rfl (by rw [List.length_take, hl]; decide) (by rintro ⟨hh, _⟩; cases hh) ?_ (step1 w _) rfl (by rintro ⟨hh, _⟩; cases hh)
  show recs 0 ([] ++ (streamP dg h [c]).take 100) = _
  rw [List.nil_append, take100 w, recs1 w _ (short2 w)]
theorem recs2 {h : Hd} {c : Cm} (w : Aw h c) : recs 1 (recB (cmdR 1 c) ++ recB (lastR dg h [c])) = ([cmdR 1 c, lastR dg h [c]], [], 0) := by
  rw [recs_got (n := 1) (parse_rec _ (okR2 w) (recB (lastR dg h [c]))) rfl]
  have : recs (1 + 1) (recB (lastR dg h [c])) = ([lastR dg h [c]], [], 0) := by
    have hq := parse_rec _ (lastR_ok (okS w)) []
    rw [List.append_nil] at hq
    rw [recs_got (n := 1 + 1) (t := []) hq rfl, recs_nil]
  rw [this]
theorem fore_take {h : Hd} {c : Cm} (w : Aw h c) : (streamP dg h [c]).take 115 = foreP h [c] := by
  have h1 := r1_len w.okh
  have h2 := r2_len w.nm w.dt
  have h3 : (foreP h [c]).length = 115 := by rw [fore_eq, List.length_append, h1, h2]
  rw [streamP_eq, List.take_append_of_le_length (by omega), List.take_of_length_le (by omega)]
theorem step2 {h : Hd} {c : Cm} (w : Aw h c) : stepsP dg (streamP dg h [c]) ⟨83, true, false, 0⟩ [cmdR 1 c, lastR dg h [c]] = ([.cmd c, .fin], ⟨158, true, true, 0⟩) := by
  rw [steps_ok (step_cmd dg _ w.okc 1)]
  have h1 : Sd.go ⟨83, true, false, 0⟩ (cmdR 1 c) (.cmd c) = ⟨115, true, false, 0⟩ := by
    unfold Sd.go
    rw [show (cmdR 1 c).pay = printC c from rfl, print_len, w.nm, w.dt]
    have hk := cmdR_kind w.okc 1
    have : decide ((cmdR 1 c).kind = 1) = false := decide_eq_false (by omega)
    rw [this]
    rfl
  rw [h1]
  have h2 : stepP dg ((streamP dg h [c]).take (⟨115, true, false, 0⟩ : Sd).at_) true false (lastR dg h [c]) = .ok .fin := by
    show stepP dg ((streamP dg h [c]).take 115) true false _ = _
    rw [fore_take w]
    exact step_last dg
  rw [steps_ok (d := ⟨115, true, false, 0⟩) h2]
  have h3 : Sd.go ⟨115, true, false, 0⟩ (lastR dg h [c]) .fin = ⟨158, true, true, 0⟩ := by
    unfold Sd.go
    rw [show (lastR dg h [c]).pay = dg (foreP h [c]) from rfl, dg_len]
    rfl
  rw [h3]
  rfl
theorem feedA2 {h : Hd} {c : Cm} (w : Aw h c) : feedP dg (RA1 h c) ((streamP dg h [c]).drop 100) = (RA2 h c, [.cmd c, .fin], 0) := by
  have hl := s_len w
  have hj : (RA1 h c).all ++ (streamP dg h [c]).drop 100 = streamP dg h [c] := List.take_append_drop 100 _
  have := feed_go (R := RA1 h c) (s := (streamP dg h [c]).drop 100) (L := [cmdR 1 c, lastR dg h [c]]) (wt := []) (e0 := 0) (out := [.cmd c, .fin]) (d := ⟨158, true, true, 0⟩) rfl
    (by show ((streamP dg h [c]).take 100).length + _ ≤ _; rw [List.length_take, List.length_drop, hl]; decide) (by rintro ⟨hh, _⟩; cases hh)
    (by show recs 1 ((recB (cmdR 1 c)).take 17 ++ (streamP dg h [c]).drop 100) = _; rw [drop100 w, ← List.append_assoc, List.take_append_drop, recs2 w]) (by rw [hj]; exact step2 w) rfl (by rw [hj, hl]; rintro ⟨_, hh⟩; exact absurd hh (by decide))
  rw [hj] at this
  exact this
theorem feedA3 {h : Hd} {c : Cm} (w : Aw h c) : feedP dg (RA2 h c) [120] = ({ RA2 h c with err := 17 }, [], 17) := by
  have hl := s_len w
  unfold feedP
  rw [if_neg (fun hh => hh rfl), if_neg (by show ¬ 65536 < (streamP dg h [c]).length + 1; omega), if_pos ⟨rfl, by decide⟩]
theorem take83 {h : Hd} {c : Cm} (w : Aw h c) : (streamP dg h [c]).take 83 = recB (headR h) := by
  have h1 := r1_len w.okh
  rw [s_eq, List.take_append_of_le_length (by omega), List.take_of_length_le (by omega)]
theorem resA {h : Hd} {c : Cm} (w : Aw h c) : resOk ((streamP dg h [c]).take 83) := by
  have h1 := r1_len w.okh
  unfold resOk
  rw [take83 w]
  have := feed_go (R := Rd0) (s := recB (headR h)) (L := [headR h]) (wt := []) (e0 := 0) rfl (by rw [h1]; decide) (by rintro ⟨hh, _⟩; cases hh) (by have := recs1 w [] parse_nil; rw [List.append_nil] at this; exact this) (step1 w _) rfl (by rintro ⟨hh, _⟩; cases hh)
  rw [this]
  exact ⟨rfl, h1.symm⟩
theorem decA {h : Hd} {c : Cm} (w : Aw h c) : decV (streamP dg h [c]) = (h, [c], 0) := dec_stream (okS w) (by rw [s_len w]; decide)
theorem decA2 {h : Hd} {c : Cm} (w : Aw h c) : decV ((streamP dg h [c]).take 157) = (zeroH, [], 2) := dec_cut (okS w) (by rw [s_len w]; decide) (List.take_append_drop 157 _) (by
  intro e
  have := congrArg List.length e
  have hl := s_len w
  rw [List.length_drop, hl] at this
  simp at this)
def hA : Hd := ⟨List.replicate 32 1, List.replicate 32 2, 3⟩
def cA : Cm := ⟨10, 2, 0, 0, 0, 0, [], []⟩
theorem awA : Aw hA cA := ⟨by decide, by decide, rfl, rfl⟩
end Go.Proofs.Ytioohhekamjljaa.Wk

/- That a region may be walked in the text's order, told by a cheap test (for regions of many operations). No conditions beside those written out. -/
set_option linter.unusedSimpArgs false
set_option linter.unusedVariables false
namespace Go.Proofs.Ytioohhekamjljaa.Wk
open Go

/-- Operation k waits for none behind it; all behind it wait for it or bear it. -/
def lexAt (md : Region.Mode) (ops : Array Oper) (n k : Nat) : Bool :=
  match ops[k]? with
  | none => false
  | some ok => (ok.after.all fun e => !Region.binds md e || Nat.blt e.on k) &&
    (List.range n).all fun j => Nat.ble j k || match ops[j]? with
      | some oj => oj.after.any (fun e => Region.binds md e && e.on == k) || ok.apart ops oj
      | none => true
def lexOk (md : Region.Mode) (ops : Array Oper) (n : Nat) : Bool := Region.noSelect ops && Nat.beq ops.size n && (List.range n).all fun k => lexAt md ops n k
theorem lexFrom_ok {md : Region.Mode} {ops : Array Oper} (h : ∀ k, k < ops.size → lexAt md ops ops.size k = true) : ∀ (m k : Nat) (listed : Array Bool), m + k = ops.size → listed.size = ops.size → (∀ j, j < ops.size → listed[j]? = some (decide (j < k))) → Region.lexFrom md ops m k listed = true
  | 0, k, listed, hm, hs, hl => by
    show (Region.ready md ops listed).isEmpty = true
    unfold Region.ready
    rw [List.isEmpty_iff, List.filter_eq_nil_iff]
    intro i hi
    have hi' : i < ops.size := List.mem_range.1 hi
    have : listed.getD i true = true := by
      rw [Array.getD_eq_getD_getElem?, hl i hi', Option.getD_some, decide_eq_true]
      omega
    rw [this]
    simp
  | m + 1, k, listed, hm, hs, hl => by
    have hk : k < ops.size := by omega
    have hat := h k hk
    have hget : ∀ j d, j < ops.size → listed.getD j d = decide (j < k) := fun j d hj => by rw [Array.getD_eq_getD_getElem?, hl j hj, Option.getD_some]
    unfold lexAt at hat
    obtain ⟨o, ho⟩ : ∃ o, ops[k]? = some o := ⟨_, Array.getElem?_eq_getElem hk⟩
    rw [ho] at hat
    dsimp only at hat
    rw [Bool.and_eq_true] at hat
    obtain ⟨h1, h2⟩ := hat
    show ((Region.ready md ops listed).contains k && Region.free md ops listed k && Region.lexFrom md ops m (k + 1) (listed.setIfInBounds k true)) = true
    rw [Bool.and_eq_true, Bool.and_eq_true]
    refine ⟨⟨?_, ?_⟩, ?_⟩
    · rw [List.contains_iff_mem]
      unfold Region.ready
      rw [List.mem_filter]
      refine ⟨List.mem_range.2 hk, ?_⟩
      rw [hget k true hk, ho, Option.map_some, Option.getD_some, Bool.and_eq_true]
      refine ⟨by simp, ?_⟩
      rw [Array.all_eq_true_iff_forall_mem] at h1 ⊢
      intro e he
      have := h1 e he
      rw [Bool.or_eq_true] at this ⊢
      rcases this with h | h
      · exact .inl h
      · right
        have hlt : e.on < k := by simpa using h
        rw [hget _ _ (by omega), decide_eq_true hlt]
    · unfold Region.free
      rw [ho]
      dsimp only
      rw [List.all_eq_true] at h2 ⊢
      intro j hj
      have hjn : j < ops.size := List.mem_range.1 hj
      have := h2 j hj
      rw [Bool.or_eq_true] at this
      rcases this with h | h
      · have hle : j ≤ k := by simpa using h
        rcases Nat.lt_or_eq_of_le hle with h' | h'
        · rw [hget j true hjn, decide_eq_true h']
          simp
        · subst h'
          simp
      · rw [Bool.or_eq_true]
        exact .inr h
    · refine lexFrom_ok h m (k + 1) _ (by omega) (by rw [Array.size_setIfInBounds, hs]) (fun j hj => ?_)
      rw [Array.getElem?_setIfInBounds]
      by_cases e : k = j
      · subst e
        rw [if_pos rfl, if_pos (by omega), decide_eq_true (by omega)]
      · rw [if_neg e, hl j hj]
        congr 1
        rw [Bool.eq_iff_iff, decide_eq_true_eq, decide_eq_true_eq]
        omega
theorem lexB_ok {md : Region.Mode} {ops : Array Oper} (n : Nat) (h : lexOk md ops n = true) : Region.lexB md ops = true := by
  unfold lexOk at h
  rw [Bool.and_eq_true, Bool.and_eq_true] at h
  obtain ⟨⟨h1, h2⟩, h3⟩ := h
  have hn : ops.size = n := Nat.eq_of_beq_eq_true h2
  subst hn
  unfold Region.lexB
  rw [Bool.and_eq_true]
  refine ⟨h1, lexFrom_ok (fun k hk => ?_) ops.size 0 _ (by omega) (by simp) (fun j hj => ?_)⟩
  · rw [List.all_eq_true] at h3
    exact h3 k (List.mem_range.2 hk)
  · rw [Array.getElem?_replicate, if_pos hj]
    rfl
end Go.Proofs.Ytioohhekamjljaa.Wk

/- The law's awake. No conditions beside those written out. -/
set_option linter.unusedSimpArgs false
set_option linter.unusedVariables false
namespace Go.Proofs.Ytioohhekamjljaa.Wk
open Go Go.RowKit Go.Proofs.YtioohhekamjljaaW.PrintWords Go.Proofs.YtioohhekamjljaaW.PrintLast Go.Proofs.Ytioohhekamjljaa.Ev Go.Proofs.Ytioohhekamjljaa.Reg Go.Proofs.Ytioohhekamjljaa.Sha Go.Proofs.Ytioohhekamjljaa.Sb Go.Proofs.Ytioohhekamjljaa.Crc Go.Proofs.Ytioohhekamjljaa.Wi

def nmA (k : Int) : B := if k = 1 then hA.parent else hA.child
theorem name_1 (w : World) : Calls Try.prog 23 #[.int .u8 1] w fun e w' => e = .returned (.string (bs hA.parent)) ∧ Fr No w w' :=
  (PWireTells.snapferrylaw15_Name.calls 40 1 (bs hA.parent) w (by kernel_rfl)).mono fun e w' ⟨h1, h2⟩ => ⟨h1, Fr.of_below h2⟩
theorem name_2 (w : World) : Calls Try.prog 23 #[.int .u8 2] w fun e w' => e = .returned (.string (bs hA.child)) ∧ Fr No w w' :=
  (PWireTells.snapferrylaw15_Name.calls 40 2 (bs hA.child) w (by kernel_rfl)).mono fun e w' ⟨h1, h2⟩ => ⟨h1, Fr.of_below h2⟩
theorem own_block {w : World} {base size n k : Nat} {e t : TypeId} {v : Value} {cs ds : List Value} (h : w.ownsRow base e size v n cs) (b : Blk w k t ds) (he : e ≠ t) (hk : v.ownBlock = some k) : False := own_not h b he hk
theorem hd3_one (a b : B) : (#[.string (bs a), .string (bs b), .int .i64 3] : Array Value).all (·.oneCell') = true := by
  show (#[.string (bs a), .string (bs b), .int .i64 3] : Array Value).all (fun x => x.oneCell') = true
  rw [show (#[.string (bs a), .string (bs b), .int .i64 3] : Array Value) = [Value.string (bs a), .string (bs b), .int .i64 3].toArray from rfl]
  simp only [List.all_toArray, List.all_cons, List.all_nil]
  rfl
theorem row_some {w : World} {base size n cp : Nat} {e : TypeId} {A : Option Addr} {cs : List Value} (h : w.ownsRow base e size (.slice A n cp) n cs) (hn : 0 < n) : ∃ b, A = some ⟨b, 0, none⟩ := by
  rcases h.2 with ⟨_, hz⟩ | ⟨b, _, _, hv, _⟩
  · omega
  · injection hv with hv
    exact ⟨b, hv⟩
theorem row_cell {w : World} {base size n cp b : Nat} {e : TypeId} {cs : List Value} (h : w.ownsRow base e size (.slice (some ⟨b, 0, none⟩) n cp) n cs) : ∀ i u, cs[i]? = some u → w.cell? ⟨b, i, none⟩ = some u := fun i u hu => by
  have := h.cells (g := b) rfl i u hu
  rw [Addr.add_lit, Nat.zero_add] at this
  exact this
/-- What lies in a block of another type stays where a reader is fed. -/
theorem row_feed {w w' : World} {base g gr b sz n : Nat} {R : Rd} {p v x : Value} {te : Int} {e : TypeId} {cs : List Value} (M : RdM w base g gr R p v te) (h : w.ownsRow b e sz x n cs) (h1 : e ≠ 96) (h2 : e ≠ 124) (h3 : e ≠ 5) (f : Fr (fun k => k = g ∨ k = gr ∨ Own v k) w w') : w'.ownsRow b e sz x n cs :=
  own_keep h f (fun k hk hh => by
    rcases hh with rfl | rfl | hh
    · exact own_not h M.bf.blk h1 hk
    · exact own_not h M.rd h2 hk
    · exact own_apart h M.bf.own h3 k hk hh)
theorem blk_feed {w w' : World} {base g gr b : Nat} {R : Rd} {p v : Value} {te : Int} {e : TypeId} {cs : List Value} (M : RdM w base g gr R p v te) (h : Blk w b e cs) (h1 : e ≠ 96) (h2 : e ≠ 124) (h3 : e ≠ 5) (f : Fr (fun k => k = g ∨ k = gr ∨ Own v k) w w') : Blk w' b e cs :=
  h.keep f (fun hh => by
    rcases hh with rfl | rfl | hh
    · exact h.ne M.bf.blk h1 rfl
    · exact h.ne M.rd h2 rfl
    · exact ownF_ne M.bf.own h h3 hh)
theorem cms_one {w : World} {g : Nat} {c : Cm} (h : Blk w g 58 (cmL c)) : CmS w (some ⟨g, 0, none⟩) [c] := ⟨fun _ => ⟨g, 0, rfl, h.lt, fun j c' hj i u hu => by
  match j, hj with
  | 0, hj =>
    simp at hj
    subst hj
    simpa using h.at_ i hu
  | j + 1, hj => simp at hj⟩⟩
noncomputable def bodyAwake : Code := Try.f7.body.getD .skip
set_option maxHeartbeats 16000000 in
set_option maxRecDepth 100000 in
theorem awake_last {w : World} {g1 g5 gl gq bD bA bB cD ca cb : Nat} {s : B} (u : Nat → Value) (h : Hd) (c : Cm) (b1 : Blk w g1 23 (hdL h)) (b5 : Blk w g5 23 (hdL h)) (bl : Blk w gl 58 (cmL c))
    (cD' : ∀ i u, (cmsL [c])[i]? = some u → w.cell? ⟨bD, i, none⟩ = some u) (cA' : ∀ i u, (stepsL [.head h])[i]? = some u → w.cell? ⟨bA, i, none⟩ = some u) (cB' : ∀ i u, (stepsL [.cmd c, .fin])[i]? = some u → w.cell? ⟨bB, i, none⟩ = some u) (hz : (s.length : Int) = 158) (Q : Exit → Act → World → Prop)
    (hQ : ∀ (u : Nat → Value) n, Q .normal { tmps := List.toArray (.bool true :: u 1 :: u 2 :: u 3 :: u 4 :: u 5 :: u 6 :: u 7 :: u 8 :: u 9 :: u 10 :: u 11 :: u 12 :: u 13 :: u 14 :: u 15 :: u 16 :: u 17 :: u 18 :: u 19 :: u 20 :: u 21 :: u 22 :: u 23 :: u 24 :: u 25 :: u 26 :: u 27 :: u 28 :: u 29 :: u 30 :: u 31 :: u 32 :: u 33 :: u 34 :: u 35 :: u 36 :: u 37 :: u 38 :: u 39 :: u 40 :: u 41 :: u 42 :: u 43 :: u 44 :: u 45 :: u 46 :: u 47 :: u 48 :: u 49 :: u 50 :: u 51 :: u 52 :: u 53 :: u 54 :: u 55 :: u 56 :: u 57 :: u 58 :: u 59 :: u 60 :: u 61 :: u 62 :: u 63 :: u 64 :: u 65 :: u 66 :: u 67 :: u 68 :: u 69 :: u 70 :: u 71 :: u 72 :: u 73 :: u 74 :: u 75 :: u 76 :: u 77 :: u 78 :: u 79 :: u 80 :: u 81 :: u 82 :: u 83 :: u 84 :: u 85 :: u 86 :: u 87 :: u 88 :: u 89 :: u 90 :: u 91 :: u 92 :: u 93 :: u 94 :: u 95 :: u 96 :: u 97 :: u 98 :: u 99 :: u 100 :: u 101 :: u 102 :: u 103 :: u 104 :: u 105 :: u 106 :: u 107 :: u 108 :: u 109 :: u 110 :: u 111 :: u 112 :: u 113 :: u 114 :: u 115 :: u 116 :: u 117 :: u 118 :: u 119 :: u 120 :: u 121 :: u 122 :: u 123 :: u 124 :: u 125 :: u 126 :: u 127 :: u 128 :: u 129 :: u 130 :: u 131 :: u 132 :: u 133 :: u 134 :: u 135 :: u 136 :: u 137 :: u 138 :: u 139 :: u 140 :: u 141 :: u 142 :: u 143 :: u 144 :: u 145 :: u 146 :: u 147 :: u 148 :: u 149 :: u 150 :: u 151 :: u 152 :: u 153 :: u 154 :: u 155 :: u 156 :: u 157 :: u 158 :: u 159 :: u 160 :: u 161 :: u 162 :: u 163 :: u 164 :: u 165 :: u 166 :: u 167 :: u 168 :: u 169 :: u 170 :: u 171 :: u 172 :: u 173 :: u 174 :: u 175 :: u 176 :: u 177 :: u 178 :: u 179 :: u 180 :: u 181 :: u 182 :: []), defers := [] } (w.drewN n)) :
    Code.wp Try.prog (sub [1,1,1,1,1,1,1,1,1,1,1,1,1,0] bodyAwake) Q { tmps := List.toArray (u 0 :: .pointer (some ⟨g1, 0, none⟩) :: .slice (some ⟨gl, 0, none⟩) 1 1 :: .string (bs s) :: u 4 :: .pointer (some ⟨g5, 0, none⟩) :: .slice (some ⟨bD, 0, none⟩) 1 cD :: .int .i64 0 :: u 8 :: .slice (some ⟨bA, 0, none⟩) 1 ca :: .int .i64 0 :: .slice (some ⟨bB, 0, none⟩) 2 cb :: .int .i64 0 :: .int .i64 158 :: .bool true :: u 15 :: .int .i64 17 :: .pointer (some ⟨gq, 0, none⟩) :: .int .i64 0 :: u 19 :: u 20 :: .int .i64 2 :: u 22 :: u 23 :: u 24 :: u 25 :: u 26 :: u 27 :: u 28 :: u 29 :: u 30 :: u 31 :: u 32 :: u 33 :: u 34 :: u 35 :: u 36 :: u 37 :: u 38 :: u 39 :: u 40 :: u 41 :: u 42 :: u 43 :: u 44 :: u 45 :: u 46 :: u 47 :: u 48 :: u 49 :: u 50 :: u 51 :: u 52 :: u 53 :: u 54 :: u 55 :: u 56 :: u 57 :: u 58 :: u 59 :: u 60 :: u 61 :: u 62 :: u 63 :: u 64 :: u 65 :: u 66 :: u 67 :: u 68 :: u 69 :: u 70 :: u 71 :: u 72 :: u 73 :: u 74 :: u 75 :: u 76 :: u 77 :: u 78 :: u 79 :: u 80 :: u 81 :: u 82 :: u 83 :: u 84 :: u 85 :: u 86 :: u 87 :: u 88 :: u 89 :: u 90 :: u 91 :: u 92 :: u 93 :: u 94 :: u 95 :: u 96 :: u 97 :: u 98 :: u 99 :: u 100 :: u 101 :: u 102 :: u 103 :: u 104 :: u 105 :: u 106 :: u 107 :: u 108 :: u 109 :: u 110 :: u 111 :: u 112 :: u 113 :: u 114 :: u 115 :: u 116 :: u 117 :: u 118 :: u 119 :: u 120 :: u 121 :: u 122 :: u 123 :: u 124 :: u 125 :: u 126 :: u 127 :: u 128 :: u 129 :: u 130 :: u 131 :: u 132 :: u 133 :: u 134 :: u 135 :: u 136 :: u 137 :: u 138 :: u 139 :: u 140 :: u 141 :: u 142 :: u 143 :: u 144 :: u 145 :: u 146 :: u 147 :: u 148 :: u 149 :: u 150 :: u 151 :: u 152 :: u 153 :: u 154 :: u 155 :: u 156 :: u 157 :: u 158 :: u 159 :: u 160 :: u 161 :: u 162 :: u 163 :: u 164 :: u 165 :: u 166 :: u 167 :: u 168 :: u 169 :: u 170 :: u 171 :: u 172 :: u 173 :: u 174 :: u 175 :: u 176 :: u 177 :: u 178 :: u 179 :: u 180 :: u 181 :: u 182 :: []), defers := [] } w := by
  conv => arg 2; whnf
  have e10 := b1.at_ 0 rfl
  have e50 := b5.at_ 0 rfl
  have e11 := b1.at_ 1 rfl
  have e51 := b5.at_ 1 rfl
  have e12 := b1.at_ 2 rfl
  have e52 := b5.at_ 2 rfl
  have el0 := bl.at_ 0 rfl
  have ed0 := cD' 0 _ rfl
  have el1 := bl.at_ 1 rfl
  have ed1 := cD' 1 _ rfl
  have el2 := bl.at_ 2 rfl
  have ed2 := cD' 2 _ rfl
  have el3 := bl.at_ 3 rfl
  have ed3 := cD' 3 _ rfl
  have el4 := bl.at_ 4 rfl
  have ed4 := cD' 4 _ rfl
  have el5 := bl.at_ 5 rfl
  have ed5 := cD' 5 _ rfl
  have el6 := bl.at_ 6 rfl
  have ed6 := cD' 6 _ rfl
  have el7 := bl.at_ 7 rfl
  have ed7 := cD' 7 _ rfl
  have ea0 := cA' 0 _ rfl
  have ea1 := cA' 1 _ rfl
  have ea2 := cA' 2 _ rfl
  have ea3 := cA' 3 _ rfl
  have eb0 := cB' 0 _ rfl
  have eb12 := cB' 12 _ rfl
  clear cD' cA' cB'
  have HQ := Kp.mk hQ
  clear hQ b1 b5 bl
  refine wp_region_quiet_lit (by kernel_rfl) (lexB_ok 94 (by kernel_rfl)) ?_
  simp only [List.append_eq, List.cons_append, List.nil_append]
  repeat (go_big_quiet_step (fail))
  refine wpQuiet_nil ?_
  intro _ hw'
  obtain ⟨nq, hw''⟩ := hw'
  subst hw''
  exact K_u (K := fun a w' => Q .normal a w') (fun u => HQ.out u _) rfl
end Go.Proofs.Ytioohhekamjljaa.Wk

/- The law's awake. No conditions beside those written out. -/
set_option linter.unusedSimpArgs false
set_option linter.unusedVariables false
namespace Go.Proofs.Ytioohhekamjljaa.Wk
open Go Go.RowKit Go.Proofs.YtioohhekamjljaaW.PrintWords Go.Proofs.YtioohhekamjljaaW.PrintLast Go.Proofs.Ytioohhekamjljaa.Ev Go.Proofs.Ytioohhekamjljaa.Reg Go.Proofs.Ytioohhekamjljaa.Sha Go.Proofs.Ytioohhekamjljaa.Sb Go.Proofs.Ytioohhekamjljaa.Crc Go.Proofs.Ytioohhekamjljaa.Wi

set_option maxHeartbeats 16000000 in
set_option maxRecDepth 100000 in
theorem awake_any (W : World) : Calls Try.prog 7 #[] W fun e w' => e = .returned (.bool true) ∧ Fr No W w' := by
  obtain ⟨h, hh⟩ : ∃ h, h = hA := ⟨_, rfl⟩
  obtain ⟨c, hc⟩ : ∃ c, c = cA := ⟨_, rfl⟩
  have w0 : Aw h c := by rw [hh, hc]; exact awA
  have hp1 : h.parent.length ≤ 1000 := by rw [hh]; decide
  have hp2 : h.child.length ≤ 1000 := by rw [hh]; decide
  have HEN := encR_is h [c] hp1 hp2 (by simp)
  have hsl := s_len w0
  have hok : (okH h && [c].all rightC) = true := by rw [w0.okh]; simp [w0.okc]
  rw [if_pos hok, if_pos (by omega)] at HEN
  have Z1 := Kp.mk (feedA1 w0)
  have Z2 := Kp.mk (feedA2 w0)
  have Z3 := Kp.mk (feedA3 w0)
  have Z4 := Kp.mk (resA w0)
  have Z5 := Kp.mk (decA w0)
  have Z6 := Kp.mk (decA2 w0)
  obtain ⟨s, hs⟩ : ∃ s, streamP dg h [c] = s := ⟨_, rfl⟩
  rw [hs] at HEN hsl Z1 Z2 Z4 Z5 Z6
  have hz : (s.length : Int) = 158 := by omega
  have hz2 : (bs s).size = 158 := by rw [bs_size, hsl]
  have CE : Kp (∀ w' g, Blk w' g 58 (cmL c) → Calls Try.prog 9 #[hdV h, .slice (some ⟨g, 0, none⟩) 1 1] w' fun e w'' => e = .returned (.tuple #[.string (bs s), .int .i64 0]) ∧ Fr No w' w'') := ⟨fun w' g hb => by
    have := encode_any h (some ⟨g, 0, none⟩) 1 [c] w' (cms_one hb) (by simp) hp1 hp2
    rw [HEN] at this
    exact this⟩
  have CD : Kp (∀ w', Calls Try.prog 12 #[.string (bs s)] w' fun e w'' => ∃ A cc, e = .returned (.tuple #[hdV h, .slice A 1 cc, .int .i64 0]) ∧ w''.ownsRow w'.heap.size 58 8 (.slice A 1 cc) 1 (cmsL [c]) ∧ Fr No w' w'') := ⟨fun w' => by
    have := decode_any s (by omega) w'
    rw [Z5.out] at this
    exact this⟩
  have CD2 : Kp (∀ w', Calls Try.prog 12 #[.string (bs (s.take 157))] w' fun e w'' => ∃ A cc, e = .returned (.tuple #[hdV zeroH, .slice A 0 cc, .int .i64 2]) ∧ Fr No w' w'') := ⟨fun w' => by
    have := decode_any (s.take 157) (by rw [List.length_take]; omega) w'
    rw [Z6.out] at this
    exact this.mono fun e w'' ⟨A, cc, h1, _, h3⟩ => ⟨A, cc, h1, h3⟩⟩
  have CR : Kp (∀ w', Calls Try.prog 18 #[.string (bs (s.take 83))] w' fun e w'' => ∃ g, e = .returned (.tuple #[.pointer (some ⟨g, 0, none⟩), .int .i64 0]) ∧ Fr No w' w'') := ⟨fun w' => (resume_ok (s.take 83) (by rw [List.length_take]; omega) w' Z4.out).mono fun e w'' ⟨g, gr, p, v, te, h1, _, h3⟩ => ⟨g, h1, h3⟩⟩
  have S1 := sl_to s 100 100 rfl (by omega)
  have S2 := sl_from s 100 100 rfl (by omega)
  have S3 := sl_to s 83 83 rfl (by omega)
  have S4 := sl_to s 157 157 rfl (by omega)
  have S5 := sl_to s 157 ((s.length : Int) - 1) (by omega) (by omega)
  have HSL := Kp.mk hsl
  have OKA : Kp (OkRd (RA1 h c) ∧ OkRd (RA2 h c)) := ⟨by
    have e1 : (RA1 h c).all = s.take 100 := by show (streamP dg h [c]).take 100 = _; rw [hs]
    have e2 : (RA2 h c).all = s := hs
    have h2 := r2_len w0.nm w0.dt
    refine ⟨⟨?_, fun _ e => ?_, rfl, ?_, ?_⟩, ⟨?_, fun _ e => ?_, rfl, ?_, ?_⟩⟩
    · rw [e1]; show 83 + ((recB (cmdR 1 c)).take 17).length ≤ _; rw [List.length_take, List.length_take, h2, hsl]; decide
    · rw [e1] at e; have := congrArg List.length e; rw [List.length_take, hsl] at this; simp at this
    · rw [e1]; show 1 ≤ _; rw [List.length_take, hsl]; decide
    · rw [e1, List.length_take, hsl]; decide
    · rw [e2]; show 158 + 0 ≤ _; omega
    · rw [e2] at e; rw [e] at hsl; cases hsl
    · rw [e2]; show 3 ≤ _; omega
    · rw [e2]; omega⟩
  have HH := Kp.mk hh
  have HC := Kp.mk hc
  have NN : Kp (∀ k : Int, (k = 1 ∨ k = 2) → ∀ w, Calls Try.prog 23 #[.int .u8 k] w fun e w' => e = .returned (.string (bs (nmA k))) ∧ Fr No w w') := ⟨fun k hk w => by
    rcases hk with rfl | rfl
    · exact name_1 w
    · exact name_2 w⟩
  have K1 : Kp (nmA 1 = h.parent) := ⟨by rw [hh]; rfl⟩
  have K2 : Kp (nmA 2 = h.child) := ⟨by rw [hh]; rfl⟩
  have HN3 : Kp ([Value.string (bs h.parent), .string (bs h.child), .int .i64 3] = hdL h) := ⟨by rw [hh]; rfl⟩
  have HC3 : Kp ([Value.int .i64 10, .int .i64 2, .int .i64 0, .int .i64 0, .int .i64 0, .int .i64 0, .string ⟨#[]⟩, .string ⟨#[]⟩] = cmL c) := ⟨by rw [hc]; rfl⟩
  clear HEN hok hp1 hp2 w0 hs hsl hh hc
  go_enter Try.func7, Try.ntmps7
  go_wp2_with (first
    | (go_at_call 23; refine (NN.out _ (by decide) _).mono ?_; rintro e wn ⟨rfl, fn⟩; first | (rw [K1.out]; have F := fn) | (rw [K2.out]; have F := F.no fn))
    | ((with_reducible refine gate_dst (N := 1) rfl ?_); go_must (refine ev_alloc rfl 23 rfl _ (hdL zeroH) zeroHead rfl ?_); intro g1 w1 hg1 f1 b1; have hW1 := Nat.le_trans F.size hg1; have F := F.no f1)
    | ((with_reducible refine gate_store (t := 23) (p := 1) rfl ?_); go_must (refine ev_store_row rfl 23 _ _ rfl g1 #[.string (bs h.parent), .string (bs h.child), .int .i64 3] rfl rfl 23 _ b1 sizeHead rfl (hd3_one _ _) ?_); intro w2 f2 b1; go_must (have b1 : Blk w2 g1 23 (hdL h) := HN3.out ▸ b1); have F := F.one f2 (.inr hW1))
    | ((with_reducible refine gate_dst (N := 26) rfl ?_); refine ev_lit rfl 58 [Value.int .i64 10, .int .i64 2, .int .i64 0, .int .i64 0, .int .i64 0, .int .i64 0, .string ⟨#[]⟩, .string ⟨#[]⟩] 1 (by first | (go_simp; done) | (go_simp; rfl)) ?_; intro gl wl hgl fl bl; rw [HC3.out] at bl; have b1 := b1.no fl; have F := F.no fl)
    | ((with_reducible refine gate_dst (N := 28) rfl ?_); go_must (refine ev_load_row rfl 23 _ rfl g1 rfl 23 _ b1 _ Try.underlying23 rfl sizeHead ?_))
    | (go_at_call 9; go_must (refine (CE.out _ gl bl).mono ?_); rintro e we ⟨rfl, fe⟩; have b1 := b1.no fe; have bl := bl.no fe; have F := F.no fe)
    | (go_at_call 12; have hre := HRE.out; refine (CD2.out _).mono ?_; rintro e wd2 ⟨AE, cE, rfl, fd2⟩; have b1 := b1.no fd2; have bl := bl.no fd2; have b5 := b5.no fd2; have rowD := own_no rowD fd2; have rowA := own_no rowA fd2; have rowB := own_no rowB fd2; have F := F.no fd2)
    | (go_at_call 12; refine (CD.out _).mono ?_; rintro e wd ⟨AD, cD, rfl, rowD, fd⟩; have b1 := b1.no fd; have bl := bl.no fd; have F := F.no fd)
    | ((with_reducible refine gate_dst (N := 5) rfl ?_); go_must (refine ev_alloc rfl 23 rfl _ (hdL zeroH) zeroHead rfl ?_); intro g5 w5 hg5 f5 b5; have rowD0 := Kp.mk rowD; have n15 : g1 ≠ g5 := Nat.ne_of_lt (Nat.lt_of_lt_of_le b1.lt hg5); have nl5 : gl ≠ g5 := Nat.ne_of_lt (Nat.lt_of_lt_of_le bl.lt hg5); have b1 := b1.no f5; have bl := bl.no f5; have rowD := own_no rowD f5; have hW5 := Nat.le_trans F.size hg5; have F := F.no f5)
    | ((with_reducible refine gate_store (t := 23) (p := 5) rfl ?_); go_must (refine ev_store_row rfl 23 _ _ rfl g5 (hdL h).toArray rfl rfl 23 _ b5 sizeHead rfl (hdL_one _) ?_); intro w6 f6 b5; have b5 : Blk w6 g5 23 (hdL h) := b5; have b1 := b1.one f6 n15; have bl := bl.one f6 nl5; have rowD := own_new rowD0.out hg5 rowD f6; have F := F.one f6 (.inr hW5))
    | (go_at_call 16; go_must (refine (wnew_any _).mono ?_); rintro e w7 ⟨g, gr, rfl, hg, hgr, hM, f7⟩; have hWg := Nat.le_trans F.size hg; have hWgr := Nat.le_trans F.size hgr; have b1 := b1.no f7; have bl := bl.no f7; have b5 := b5.no f7; have rowD := own_no rowD f7; have F := F.no f7; have F7 := f7)
    | (go_at_call 19; refine (wfeed_any [120] hM2 (fun _ => OKA.out.2) (by decide) F9).mono ?_; rintro e w10 ⟨Ac, cc3, pc, vc, tc, rfl, rowC, hM3, f10, at3⟩; rw [Z3.out]; have b1 := blk_feed hM2 b1 (by decide) (by decide) (by decide) f10; have bl := blk_feed hM2 bl (by decide) (by decide) (by decide) f10; have b5 := blk_feed hM2 b5 (by decide) (by decide) (by decide) f10; have rowD := row_feed hM2 rowD (by decide) (by decide) (by decide) f10; have rowA := row_feed hM2 rowA (by decide) (by decide) (by decide) f10; have rowB := row_feed hM2 rowB (by decide) (by decide) (by decide) f10; have F := F.trans f10 (fun i hi => by rcases hi with rfl | rfl | hi; exact .inr hWg; exact .inr hWgr; exact .inr (HVB _ hi)))
    | (go_at_call 19; refine (wfeed_any (s.drop 100) hM1 (fun _ => OKA.out.1) (by rw [List.length_drop]; omega) F8).mono ?_; rintro e w9 ⟨Ab, cb, pb, vb, tb, rfl, rowB, hM2, f9, at2⟩; rw [Z2.out] at rowB hM2; rw [Z2.out]; have b1 := blk_feed hM1 b1 (by decide) (by decide) (by decide) f9; have bl := blk_feed hM1 bl (by decide) (by decide) (by decide) f9; have b5 := blk_feed hM1 b5 (by decide) (by decide) (by decide) f9; have rowD := row_feed hM1 rowD (by decide) (by decide) (by decide) f9; have rowA := row_feed hM1 rowA (by decide) (by decide) (by decide) f9; have HVB : ∀ k, Own vb k → W.heap.size ≤ k := (fun k hk => by rcases at1_own at2 hk with hq | hq; exact HVA k hq; exact Nat.le_trans F.size hq); have F := F.trans f9 (fun i hi => by rcases hi with rfl | rfl | hi; exact .inr hWg; exact .inr hWgr; exact .inr (HVA _ hi)); have F9 := Nat.le_trans F8 f9.size)
    | (go_at_call 19; refine (wfeed_any (s.take 100) hM (fun _ => okRd0) (by rw [List.length_take]; omega) F7.size).mono ?_; rintro e w8 ⟨Aa, ca, pa, va, ta, rfl, rowA, hM1, f8, at1⟩; rw [Z1.out] at rowA hM1; rw [Z1.out]; have b1 := blk_feed hM b1 (by decide) (by decide) (by decide) f8; have bl := blk_feed hM bl (by decide) (by decide) (by decide) f8; have b5 := blk_feed hM b5 (by decide) (by decide) (by decide) f8; have rowD := row_feed hM rowD (by decide) (by decide) (by decide) f8; have HVA : ∀ k, Own va k → W.heap.size ≤ k := (fun k hk => by rcases at1_own at1 hk with hq | hq; simp [Own, Value.ownBlock] at hq; exact Nat.le_trans F.size hq); have F := F.trans f8 (fun i hi => by rcases hi with rfl | rfl | hi; exact .inr hWg; exact .inr hWgr; simp [Own, Value.ownBlock] at hi); have F8 := Nat.le_trans F7.size f8.size)
    | (go_at_call 21; go_must (refine (taken_any hM2).mono ?_); rintro e wt ⟨rfl, hwt⟩; subst hwt; rw [show ((RA2 h c).d.at_ : Int) = 158 from rfl])
    | (go_at_call 22; go_must (refine (over_any hM2).mono ?_); rintro e wo ⟨rfl, hwo⟩; subst hwo; rw [show ((RA2 h c).d.over && decide ((RA2 h c).err = 0)) = true from rfl])
    | (go_at_call 18; go_must (refine (CR.out _).mono ?_); rintro e wr ⟨gq, rfl, frr⟩; have b1 := b1.no frr; have bl := bl.no frr; have b5 := b5.no frr; have rowD := own_no rowD frr; have rowA := own_no rowA frr; have rowB := own_no rowB frr; have F := F.no frr; have HRE := Kp.mk frr)
    | ((with_reducible refine gate_dst (N := 19) rfl ?_); go_must (refine ev_alloc rfl 23 rfl _ (hdL zeroH) zeroHead rfl ?_); intro g19 w19 hg19 f19 b19; have RR := Kp.mk (And.intro rowD (And.intro rowA rowB)); have m1 : g1 ≠ g19 := Nat.ne_of_lt (Nat.lt_of_lt_of_le b1.lt hg19); have ml : gl ≠ g19 := Nat.ne_of_lt (Nat.lt_of_lt_of_le bl.lt hg19); have m5 : g5 ≠ g19 := Nat.ne_of_lt (Nat.lt_of_lt_of_le b5.lt hg19); have b1 := b1.no f19; have bl := bl.no f19; have b5 := b5.no f19; have rowD := own_no rowD f19; have rowA := own_no rowA f19; have rowB := own_no rowB f19; have hW19 := Nat.le_trans F.size hg19; have F := F.no f19)
    | ((with_reducible refine gate_store (t := 23) (p := 19) rfl ?_); go_must (refine ev_store_row rfl 23 _ _ rfl g19 (hdL zeroH).toArray rfl rfl 23 _ b19 sizeHead rfl (hdL_one _) ?_); intro w20 f20 b20; have b1 := b1.one f20 m1; have bl := bl.one f20 ml; have b5 := b5.one f20 m5; have rowD := own_new RR.out.1 hg19 rowD f20; have rowA := own_new RR.out.2.1 hg19 rowA f20; have rowB := own_new RR.out.2.2 hg19 rowB f20; have F := F.one f20 (.inr hW19)))
  obtain ⟨bD, rfl⟩ : ∃ bD, AD = some ⟨bD, 0, none⟩ := row_some rowD (by decide)
  obtain ⟨bA, rfl⟩ : ∃ bA, Aa = some ⟨bA, 0, none⟩ := row_some rowA (by simp)
  obtain ⟨bB, rfl⟩ : ∃ bB, Ab = some ⟨bB, 0, none⟩ := row_some rowB (by simp)
  refine wp_u (fun u => awake_last u h c b1 b5 bl (row_cell rowD) (row_cell rowA) (row_cell rowB) hz _ ?_) rfl
  intro u n
  simp only [Exit.then]
  refine ‹∀ (a : Act) (w : World), Code.wp Try.prog _ _ a w → _› _ _ ?_
  go_wp2_with fail
  go_ret
  exact ⟨rfl, F.drewN n⟩
end Go.Proofs.Ytioohhekamjljaa.Wk

/- The law's own Few, same, of. Conditions: sizes are bounded, as written out. -/
set_option linter.unusedSimpArgs false
set_option linter.unusedVariables false
namespace Go.Proofs.Ytioohhekamjljaa.Wk
open Go Go.RowKit Go.Proofs.YtioohhekamjljaaW.PrintWords Go.Proofs.YtioohhekamjljaaW.PrintLast Go.Proofs.Ytioohhekamjljaa.Ev Go.Proofs.Ytioohhekamjljaa.Reg Go.Proofs.Ytioohhekamjljaa.Sha Go.Proofs.Ytioohhekamjljaa.Sb Go.Proofs.Ytioohhekamjljaa.Crc Go.Proofs.Ytioohhekamjljaa.Wi

def toS (c : Cm) : PWireTells.S58 := ⟨c.kind, c.ino, c.src, c.off, c.frm, c.n, bs c.name, bs c.data⟩
theorem c58_of {w : World} {A : Option Addr} {l : List Cm} (h : CmS w A l) (hl : l.length ≤ 9223372036854775807) : Kd.C PWireTells.k58 w A (l.map toS).length (l.map toS) := by
  refine ⟨rfl, by rw [List.length_map]; omega, fun h0 => ?_⟩
  rw [List.length_map] at h0
  obtain ⟨b, o, e, _, hc⟩ := h.out h0
  refine ⟨⟨b, o, none⟩, e, fun j p hj => ?_⟩
  rw [List.getElem?_map] at hj
  obtain ⟨c, hcj, rfl⟩ := Option.map_eq_some_iff.1 hj
  refine ⟨cmL c, rfl, PWireTells.k58_mk w (toS c), fun i u hu => ?_⟩
  rw [Addr.add_lit, ← Nat.add_assoc]
  exact hc j c hcj i u hu
theorem few_l0 (l0 : List PWireTells.S58) (hl : l0.length ≤ 9223372036854775807) : ∀ (m : Nat) (k : Nat) (n i : Int), 0 ≤ n → n ≤ 150 → 0 ≤ i → i + m = l0.length → m < k → ∃ z, PWireTells.snapferrylaw13_Few.l0 k l0 n i = some z ∧ (z = true → n + m ≤ 150)
  | 0, k + 1, n, i, h0, h1, h2, h3, h4 => by
    refine ⟨true, ?_, fun _ => by omega⟩
    unfold PWireTells.snapferrylaw13_Few.l0
    rw [if_neg (by omega)]
  | m + 1, k + 1, n, i, h0, h1, h2, h3, h4 => by
    unfold PWireTells.snapferrylaw13_Few.l0
    rw [if_pos (by omega), if_pos h2]
    obtain ⟨a, ha⟩ : ∃ a, mn (((PWireTells.rd_T58 l0 i).f6).size : Int) 10000 = a := ⟨_, rfl⟩
    obtain ⟨b, hb⟩ : ∃ b, mn (((PWireTells.rd_T58 l0 i).f7).size : Int) 10000 = b := ⟨_, rfl⟩
    have ha1 : 0 ≤ a ∧ a ≤ 10000 := by rw [← ha]; unfold mn; split <;> omega
    have hb1 : 0 ≤ b ∧ b ≤ 10000 := by rw [← hb]; unfold mn; split <;> omega
    rw [ha, hb]
    have hw1 : wrap64 (n + 1) = n + 1 := (by unfold wrap64; omega)
    have hw2 : wrap64 (n + 1 + (a + b) / 100) = n + 1 + (a + b) / 100 := (by unfold wrap64; omega)
    have hw3 : wrap64 (i + 1) = i + 1 := (by unfold wrap64; omega)
    rw [hw1, hw2, hw3]
    by_cases h5 : n + 1 + (a + b) / 100 > 150
    · exact ⟨false, by rw [if_pos h5], fun h => by cases h⟩
    · rw [if_neg h5]
      obtain ⟨z, e, hz⟩ := few_l0 l0 hl m k (n + 1 + (a + b) / 100) (i + 1) (by omega) (by omega) (by omega) (by omega) (by omega)
      exact ⟨z, e, fun h => by have := hz h; omega⟩
theorem few_any (l : List Cm) (A : Option Addr) (cap : Nat) (w : World) (h : CmS w A l) (hl : l.length ≤ 9223372036854775807) (hc : l.length ≤ cap) : Calls Try.prog 8 #[.slice A l.length cap] w fun e w' => ∃ z, e = .returned (.bool z) ∧ (z = true → l.length ≤ 150) ∧ Fr No w w' := by
  obtain ⟨z, e, hz⟩ := few_l0 (l.map toS) (by rw [List.length_map]; exact hl) l.length (l.length + 1) 0 0 (by decide) (by decide) (by decide) (by rw [List.length_map]; omega) (by omega)
  have := PWireTells.snapferrylaw13_Few.calls (l.length + 1) A cap (l.map toS) z w (c58_of h hl) (by rw [List.length_map]; exact hc) e
  rw [List.length_map] at this
  exact this.mono fun e' w' ⟨h1, h2⟩ => ⟨z, h1, fun h => by have := hz h; omega, Fr.of_below h2⟩
theorem row_some' {w : World} {base size n cp : Nat} {e : TypeId} {A : Option Addr} {cs : List Value} (h : w.ownsRow base e size (.slice A n cp) n cs) (hn : 0 < n) : ∃ b, A = some ⟨b, 0, none⟩ := by
  rcases h.2 with ⟨_, hz⟩ | ⟨b, _, _, hv, _⟩
  · omega
  · injection hv with hv
    exact ⟨b, hv⟩
theorem cms_at : ∀ (L : List Cm) (i j : Nat) (c : Cm), L[i]? = some c → j < 8 → (cmsL L)[i * 8 + j]? = (cmL c)[j]?
  | [], i, j, c, h, _ => by simp at h
  | x :: L, 0, j, c, h, hj => by
    simp at h
    subst h
    rw [Nat.zero_mul, Nat.zero_add]
    show (cmL x ++ cmsL L)[j]? = _
    rw [List.getElem?_append_left (by simpa using hj)]
  | x :: L, i + 1, j, c, h, hj => by
    have ih := cms_at L i j c (by simpa using h) hj
    show (cmL x ++ cmsL L)[(i + 1) * 8 + j]? = _
    rw [List.getElem?_append_right (by simp; omega), ← ih]
    congr 1
    simp
    omega
theorem infoRCmd : (Try.prog.info? 61).map (fun i => (i.zero, i.size, i.bytes)) = some (some (.agg (cmL zeroC).toArray), 8, 80) := by kernel_rfl
theorem CmS.cells {w w1 : World} {A : Option Addr} {l : List Cm} {j : Nat} {c : Cm} (h : CmS w A l) (hc : l[j]? = some c) (f : Fr No w w1) : ∃ b o, A = some ⟨b, o, none⟩ ∧ ∀ i u, (cmL c)[i]? = some u → w1.cell? ⟨b, o + j * 8 + i, none⟩ = some u := by
  obtain ⟨b, o, e, _, hcs⟩ := h.out (by have := (List.getElem?_eq_some_iff.1 hc).1; omega)
  exact ⟨b, o, e, fun i u hu => Fr.cell (hcs j c hc i u hu) f (fun hh => hh)⟩
theorem CmS.no {w w1 : World} {A : Option Addr} {l : List Cm} (h : CmS w A l) (f : Fr No w w1) : CmS w1 A l := ⟨fun h0 => by
  obtain ⟨b, o, e, hb, hcs⟩ := h.out h0
  exact ⟨b, o, e, Nat.lt_of_lt_of_le hb f.size, fun j c hc i u hu => Fr.cell (hcs j c hc i u hu) f (fun hh => hh)⟩⟩
theorem cms_own {w : World} {base cp n : Nat} {e : TypeId} {A : Option Addr} {l : List Cm} (h : w.ownsRow base e 8 (.slice A n cp) n (cmsL l)) (hn : n = l.length) : CmS w A l := ⟨fun h0 => by
  obtain ⟨b, rfl⟩ := row_some' h (by omega)
  refine ⟨b, 0, rfl, ?_, fun j c hc i u hu => ?_⟩
  · obtain ⟨cells, hcb⟩ := own_typed h b rfl
    exact (Array.getElem?_eq_some_iff.1 hcb).1
  · have := h.cells (g := b) rfl (j * 8 + i) u (by rw [cms_at l j i c hc (List.getElem?_eq_some_iff.1 hu).1]; exact hu)
    rw [Addr.add_lit] at this
    rw [Nat.add_assoc]
    exact this⟩
set_option maxHeartbeats 4000000 in
set_option maxRecDepth 100000 in
theorem of_any (l : List Cm) (A : Option Addr) (cap : Nat) (W : World) (h : CmS W A l) (hl : l.length ≤ 1000000) :
    Calls Try.prog 11 #[.slice A l.length cap] W fun e w' => ∃ B c, e = .returned (.slice B l.length c) ∧ w'.ownsRow W.heap.size 61 8 (.slice B l.length c) l.length (cmsL l) ∧ Fr No W w' := by
  have HL := Kp.mk h
  clear h
  go_enter Try.func11, Try.ntmps11
  go_wp2_with fail
  go_loopg [3, 4] l.length (fun gg v3 v4 wr => ∃ (i : Nat) (B : Option Addr) (c : Nat), i + gg = l.length ∧ v3 = .slice B i c ∧ v4 = .int .i64 (i : Int) ∧ wr.ownsRow W.heap.size 61 8 (.slice B i c) i (cmsL (l.take i)) ∧ Fr No W wr)
  case atStart => exact ⟨0, none, 0, by omega, rfl, rfl, ⟨rfl, .inl ⟨rfl, rfl⟩⟩, Fr.refl _ _⟩
  case round =>
    obtain ⟨i, B, c0, hi, rfl, rfl, OW, F⟩ := hrel
    by_cases hlt : i < l.length
    · have hltz : (i : Int) < (l.length : Int) := by omega
      obtain ⟨c, hc⟩ : ∃ c, l[i]? = some c := ⟨_, List.getElem?_eq_getElem hlt⟩
      obtain ⟨b, o, rfl, hcell⟩ := HL.out.cells hc F
      have q0 := hcell 0 _ rfl
      have q1 := hcell 1 _ rfl
      have q2 := hcell 2 _ rfl
      have q3 := hcell 3 _ rfl
      have q4 := hcell 4 _ rfl
      have q5 := hcell 5 _ rfl
      have q6 := hcell 6 _ rfl
      have q7 := hcell 7 _ rfl
      rw [Nat.add_zero] at q0
      have htk : cmsL (l.take (i + 1)) = cmsL (l.take i) ++ cmL c := by rw [List.take_add_one, hc]; exact cmsL_snoc _ _
      have HTK := Kp.mk htk
      have HI := Kp.mk (And.intro hlt hi)
      have hib : i + 1 ≤ 1099511627776 := by omega
      clear hcell htk hc hi
      go_wp2_with (first
        | ((with_reducible refine gate_dst (N := 16) rfl ?_); refine ev_lit rfl 61 (cmL c) 1 (by first | (go_simp; done) | (go_simp; rfl)) ?_; intro g9 w9 hg9 f9 b9; have OW := own_no OW f9; have F := F.no f9)
        | ((with_reducible refine gate_dst (N := 17) rfl ?_); go_must (refine ev_append rfl _ _ 33 61 _ 8 80 rfl Try.underlying33 infoRCmd rfl (by omega) (by omega) W.heap.size _ i (cmsL (l.take i)) rfl OW F.size ⟨g9, 0, none⟩ 1 1 (cmL c) rfl rfl (news_blk b9) (cmL_all _) (by omega) ?_); intro A1 c1 wA OW1 fA hat; have F := F.trans fA (fun i hi => .inr (own_base OW i hi))))
      rw [← HTK.out] at OW1
      go_roundg (l.length - (i + 1))
      case measure => have := HI.out; omega
      case rel => exact ⟨i + 1, A1, c1, by have := HI.out; omega, rfl, by go_num, OW1, F⟩
    · obtain rfl : i = l.length := by omega
      rw [List.take_length] at OW
      have hltz : ¬ (l.length : Int) < (l.length : Int) := by omega
      go_wp2_with fail
      go_ret
      exact ⟨B, c0, rfl, OW, F⟩
end Go.Proofs.Ytioohhekamjljaa.Wk

/- The law's own same. Conditions: sizes are bounded, as written out. -/
set_option linter.unusedSimpArgs false
set_option linter.unusedVariables false
namespace Go.Proofs.Ytioohhekamjljaa.Wk
open Go Go.RowKit Go.Proofs.YtioohhekamjljaaW.PrintWords Go.Proofs.YtioohhekamjljaaW.PrintLast Go.Proofs.Ytioohhekamjljaa.Ev Go.Proofs.Ytioohhekamjljaa.Reg Go.Proofs.Ytioohhekamjljaa.Sha Go.Proofs.Ytioohhekamjljaa.Sb Go.Proofs.Ytioohhekamjljaa.Crc Go.Proofs.Ytioohhekamjljaa.Wi
def toR (c : Cm) : PWireTells.S61 := ⟨c.kind, c.ino, c.src, c.off, c.frm, c.n, bs c.name, bs c.data⟩
theorem c61_of {w : World} {A : Option Addr} {l : List Cm} (h : CmS w A l) (hl : l.length ≤ 1099511627776) : Kd.C PWireTells.k61 w A (l.map toR).length (l.map toR) := by
  refine ⟨rfl, by rw [List.length_map]; omega, fun h0 => ?_⟩
  rw [List.length_map] at h0
  obtain ⟨b, o, e, _, hc⟩ := h.out h0
  refine ⟨⟨b, o, none⟩, e, fun j p hj => ?_⟩
  rw [List.getElem?_map] at hj
  obtain ⟨c, hcj, rfl⟩ := Option.map_eq_some_iff.1 hj
  refine ⟨cmL c, rfl, PWireTells.k61_mk w (toR c), fun i u hu => ?_⟩
  rw [Addr.add_lit, ← Nat.add_assoc]
  exact hc j c hcj i u hu
theorem rd61 (l : List Cm) (i : Nat) (c : Cm) (h : l[i]? = some c) : PWireTells.rd_T61 (l.map toR) (i : Int) = toR c := by
  unfold PWireTells.rd_T61
  rw [Int.toNat_natCast, List.getD_eq_getElem?_getD, List.getElem?_map, h]
  rfl
theorem unlike (a b : Cm) : (!((toR a).f0 == (toR b).f0) || (!((toR a).f1 == (toR b).f1) || (!((toR a).f2 == (toR b).f2) || (!((toR a).f3 == (toR b).f3) || (!((toR a).f4 == (toR b).f4) || (!((toR a).f5 == (toR b).f5) || (!((toR a).f6.toList == (toR b).f6.toList) || (!((toR a).f7.toList == (toR b).f7.toList))))))))) = decide (a ≠ b) := by
  have e : ∀ z : List UInt8, (bs z).toList = z := fun z => by simp [bs, ByteArray.toList_eq]
  by_cases h : a = b
  · subst h; simp
  · simp only [toR, e, decide_eq_true h]
    cases hh : (!(a.kind == b.kind) || (!(a.ino == b.ino) || (!(a.src == b.src) || (!(a.off == b.off) || (!(a.frm == b.frm) || (!(a.n == b.n) || (!(a.name == b.name) || (!(a.data == b.data)))))))))
    · exfalso
      simp only [Bool.or_eq_false_iff, Bool.not_eq_false', beq_iff_eq] at hh
      obtain ⟨h1, h2, h3, h4, h5, h6, h7, h8⟩ := hh
      exact h (cm_ext h1 h2 h3 h4 h5 h6 h7 h8)
    · rfl
theorem same_l0 (a b : List Cm) (hl : a.length = b.length) (ha : a.length ≤ 1099511627776) : ∀ (m i k : Nat), i + m = a.length → m < k → PWireTells.snapferrylaw15_same.l0 k (a.map toR) (b.map toR) (i : Int) = some (decide (a.drop i = b.drop i))
  | 0, i, k + 1, h3, h4 => by
    unfold PWireTells.snapferrylaw15_same.l0
    rw [if_neg (by rw [List.length_map]; omega), List.drop_of_length_le (by omega), List.drop_of_length_le (by omega)]
    simp
  | m + 1, i, k + 1, h3, h4 => by
    obtain ⟨x, hx⟩ : ∃ x, a[i]? = some x := ⟨_, List.getElem?_eq_getElem (by omega)⟩
    obtain ⟨y, hy⟩ : ∃ y, b[i]? = some y := ⟨_, List.getElem?_eq_getElem (by omega)⟩
    obtain ⟨hx1, hx2⟩ := List.getElem?_eq_some_iff.1 hx
    obtain ⟨hy1, hy2⟩ := List.getElem?_eq_some_iff.1 hy
    have hw : wrap64 ((i : Int) + 1) = ((i + 1 : Nat) : Int) := (by unfold wrap64; omega)
    unfold PWireTells.snapferrylaw15_same.l0
    rw [if_pos (by rw [List.length_map]; omega), if_pos (by omega), if_pos (by rw [List.length_map]; omega), rd61 a i x hx, rd61 b i y hy, unlike, hw, List.drop_eq_getElem_cons hx1, List.drop_eq_getElem_cons hy1, hx2, hy2]
    by_cases h : x = y
    · subst h
      rw [if_neg (by simp), same_l0 a b hl ha m (i + 1) k (by omega) (by omega)]
      simp
    · rw [if_pos (by simpa using h)]
      simp [h]
theorem same_any (a b : List Cm) (A B : Option Addr) (ca cb : Nat) (w : World) (hA : CmS w A a) (hB : CmS w B b) (ha : a.length ≤ 1099511627776) (hb : b.length ≤ 1099511627776) (hca : a.length ≤ ca) (hcb : b.length ≤ cb) :
    Calls Try.prog 14 #[.slice A a.length ca, .slice B b.length cb] w fun e w' => e = .returned (.bool (decide (a = b))) ∧ Fr No w w' := by
  have := PWireTells.snapferrylaw15_same.calls (a.length + 1) A ca (a.map toR) B cb (b.map toR) (decide (a = b)) w (c61_of hA ha) (by rw [List.length_map]; exact hca) (c61_of hB hb) (by rw [List.length_map]; exact hcb) (by
    unfold PWireTells.snapferrylaw15_same.f
    rw [List.length_map, List.length_map]
    by_cases h : a.length = b.length
    · rw [if_pos (by omega)]
      exact same_l0 a b h ha a.length 0 (a.length + 1) (by omega) (by omega)
    · rw [if_neg (by omega), decide_eq_false (fun e => h (congrArg List.length e))])
  rw [List.length_map, List.length_map] at this
  exact this.mono fun e' w' h => ⟨h.1, by obtain ⟨n, rfl⟩ := h.2; exact (Fr.refl _ _).drewN n⟩
end Go.Proofs.Ytioohhekamjljaa.Wk

/- A stream fed in two pieces, and begun anew behind whole records; no program in sight. No conditions beside those written out. -/
set_option linter.unusedSimpArgs false
set_option linter.unusedVariables false
namespace Go.Proofs.Ytioohhekamjljaa.Wk
open Go.Proofs.Ytioohhekamjljaa.Crc Go.Proofs.Ytioohhekamjljaa.Wi
/-- All that a stream tells. -/
def allS (h : Hd) (l : List Cm) : List St := .head h :: (l.map St.cmd ++ [.fin])
theorem fed_half {a : B} {out : List St} {d : Sd} (hl : a.length ≤ 65536) (h1 : stepsT dg a = (out, d, 0)) : ∃ R, feedP dg Rd0 a = (R, out, 0) ∧ FedR dg R ∧ R.all = a ∧ R.d = d ∧ R.err = 0 := by
  obtain ⟨g1, g2, g3, g4, g5⟩ := feed_fed (fed_new dg) a (by show 0 + _ ≤ _; omega)
  have ha : Rd0.all ++ a = a := rfl
  rw [ha, h1] at g2 g3
  have g2' : (feedP dg Rd0 a).2.2 = 0 := g2
  have F := g5 g2'
  have gall : (feedP dg Rd0 a).1.all = a := by
    rw [g1, if_neg (by rintro ⟨h, _⟩; cases h)]
    rfl
  have e0 : (stepsT dg Rd0.all).1 = [] := by
    show (stepsP dg [] Sd0 (recs 0 []).1).1 = []
    rw [recs_nil]
    rfl
  rw [e0, List.nil_append] at g3
  refine ⟨(feedP dg Rd0 a).1, Prod.ext rfl (Prod.ext g3.symm g2'), F, gall, ?_, F.none⟩
  rw [F.d, gall]
  exact congrArg (fun z => z.2.1) h1
theorem fed_rest {h : Hd} {l : List Cm} (K : OkS dg h l) (hl : (streamP dg h l).length ≤ 65536) {a b : B} (e : a ++ b = streamP dg h l) {R : Rd} (F : FedR dg R) (hR : R.all = a) (ho : R.d.over = false) {out : List St} {d : Sd} (h1 : stepsT dg a = (out, d, 0)) :
    ∃ R' L, feedP dg R b = (R', L, 0) ∧ R'.all = streamP dg h l ∧ R'.d = ⟨(streamP dg h l).length, true, true, 0⟩ ∧ R'.err = 0 ∧ OkRd R' ∧ out ++ L = allS h l := by
  have hle : R.all.length + b.length ≤ 65536 := by
    have := congrArg List.length e
    rw [List.length_append] at this
    rw [hR]
    omega
  obtain ⟨g1, g2, g3, g4, g5⟩ := feed_fed F b hle
  have hs : R.all ++ b = streamP dg h l := by rw [hR, e]
  rw [hs, tells_stream K] at g2 g3
  have g2' : (feedP dg R b).2.2 = 0 := g2
  have F' := g5 g2'
  have gall : (feedP dg R b).1.all = streamP dg h l := by
    rw [g1, if_neg (by rintro ⟨h, _⟩; rw [ho] at h; cases h), hs]
  rw [hR, h1] at g3
  refine ⟨(feedP dg R b).1, (feedP dg R b).2.1, Prod.ext rfl (Prod.ext rfl g2'), gall, ?_, F'.none, okRd_fed F' (by rw [gall]; exact hl), g3.symm⟩
  rw [F'.d, gall]
  exact congrArg (fun z => z.2.1) (tells_stream K)
structure Two (h : Hd) (l : List Cm) (s : B) (k n : Nat) (Ra Rb Rn Rq : Rd) (La Lb : List St) : Prop where
  fa : feedP dg Rd0 (s.take k) = (Ra, La, 0)
  oka : OkRd Ra
  era : Ra.err = 0
  at_ : Ra.d.at_ = n
  le : n ≤ k
  ova : Ra.d.over = false
  fb : feedP dg Ra (s.drop k) = (Rb, Lb, 0)
  erb : Rb.err = 0
  okb : OkRd Rb
  db : Rb.d = ⟨s.length, true, true, 0⟩
  fn : feedP dg Rd0 (s.take n) = (Rn, La, 0)
  okn : OkRd Rn
  res : resOk (s.take n)
  fq : feedP dg Rn (s.drop n) = (Rq, Lb, 0)
  erq : Rq.err = 0
  okq : OkRd Rq
  dq : Rq.d = ⟨s.length, true, true, 0⟩
  all : La ++ Lb = allS h l
theorem two_pieces {h : Hd} {l : List Cm} (K : OkS dg h l) (hl : (streamP dg h l).length ≤ 65536) {k : Nat} (hk : k < (streamP dg h l).length) :
    ∃ n Ra Rb Rn Rq La Lb, Two h l (streamP dg h l) k n Ra Rb Rn Rq La Lb := by
  have e := List.take_append_drop k (streamP dg h l)
  have hlk : ((streamP dg h l).take k).length = k := by rw [List.length_take]; omega
  obtain ⟨out, d, h1, h2, h3, h4, h5, _⟩ := tells_cut K e (by
    intro hh
    have := congrArg List.length hh
    rw [List.length_drop] at this
    simp at this
    omega)
  rw [List.take_take, Nat.min_eq_left (by omega)] at h5
  obtain ⟨Ra, a1, a2, a3, a4, a5⟩ := fed_half (by omega) h1
  obtain ⟨Rb, Lb, b1, b2, b3, b4, b5, b6⟩ := fed_rest K hl e a2 a3 (by rw [a4]; exact h3) h1
  have e' := List.take_append_drop d.at_ (streamP dg h l)
  have hln : ((streamP dg h l).take d.at_).length = d.at_ := by rw [List.length_take]; omega
  obtain ⟨Rn, n1, n2, n3, n4, n5⟩ := fed_half (by omega) h5
  obtain ⟨Rq, Lq, q1, q2, q3, q4, q5, q6⟩ := fed_rest K hl e' n2 n3 (by rw [n4]; exact h3) h5
  obtain rfl : Lq = Lb := List.append_cancel_left (q6.trans b6.symm)
  exact ⟨d.at_, Ra, Rb, Rn, Rq, out, Lq, a1, okRd_fed a2 (by rw [a3]; omega), a5, by rw [a4], by omega, by rw [a4]; exact h3, b1, b4, b5, b3, n1, okRd_fed n2 (by rw [n3]; omega), ⟨by rw [n1], by rw [n1, hln]; show Rn.d.at_ = _; rw [n4]⟩, q1, q4, q5, q3, b6⟩
theorem Two.okA {h : Hd} {l : List Cm} {s : B} {k n : Nat} {Ra Rb Rn Rq : Rd} {La Lb : List St} (T : Two h l s k n Ra Rb Rn Rq La Lb) : La.length + Lb.length = l.length + 2 := by
  have := congrArg List.length T.all
  rw [List.length_append] at this
  rw [this, allS]
  simp
theorem allS_0 (h : Hd) (l : List Cm) : (allS h l)[0]? = some (.head h) := rfl
theorem allS_last (h : Hd) (l : List Cm) : (allS h l)[l.length + 1]? = some .fin := by
  unfold allS
  rw [List.getElem?_cons_succ, List.getElem?_append_right (by simp)]
  simp
theorem allS_cmd (h : Hd) (l : List Cm) (m : Nat) (c : Cm) (hc : l[m]? = some c) : (allS h l)[m + 1]? = some (.cmd c) := by
  unfold allS
  rw [List.getElem?_cons_succ, List.getElem?_append_left (by rw [List.length_map]; exact (List.getElem?_eq_some_iff.1 hc).1), List.getElem?_map, hc]
  rfl
theorem Two.rest {h : Hd} {l : List Cm} {s : B} {k n : Nat} {Ra Rb Rn Rq : Rd} {La Lb : List St} (T : Two h l s k n Ra Rb Rn Rq La Lb) (m : Nat) : (allS h l)[La.length + m]? = Lb[m]? := by
  rw [← T.all, List.getElem?_append_right (by omega)]
  congr 1
  omega
end Go.Proofs.Ytioohhekamjljaa.Wk
