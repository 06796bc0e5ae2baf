/- Texts joined by merge.py: WireHead, WireStep, WireFeed, WireNew, WireDec. -/
import Derived.Test.YtioohhekamjljaaWxC
import Derived.Test.YtioohhekamjljaaWxA
import Derived.Test.YtioohhekamjljaaWxB
/- wire.head. Conditions: sizes are bounded, as written out. -/
set_option linter.unusedSimpArgs false
set_option linter.unusedVariables false
namespace Go.Proofs.Ytioohhekamjljaa.Wk
open Go Go.RowKit Go.Proofs.YtioohhekamjljaaW.PrintWords Go.Proofs.YtioohhekamjljaaW.PrintLast Go.Proofs.Ytioohhekamjljaa.Ev Go.Proofs.Ytioohhekamjljaa.Reg Go.Proofs.Ytioohhekamjljaa.Sha Go.Proofs.Ytioohhekamjljaa.Sb Go.Proofs.Ytioohhekamjljaa.Crc Go.Proofs.Ytioohhekamjljaa.Wi

theorem zeroHead : (Try.prog.info? 23).bind (·.zero) = some (.agg (hdL ⟨[], [], 0⟩).toArray) := by kernel_rfl
theorem hdL_one (h : Hd) : (hdL h).toArray.all (·.oneCell') = true := by
  show (hdL h).toArray.all (fun x => x.oneCell') = true
  simp only [List.all_toArray, List.all_cons, List.all_nil]
  rfl
theorem hasPrefix_iff (s : B) : Lib.hasPrefix s magic = decide (s.take 4 = magic) := by
  rw [Bool.eq_iff_iff, decide_eq_true_eq]
  match s with
  | [] => simp [Lib.hasPrefix, magic]
  | [a] => simp [Lib.hasPrefix, magic]
  | [a, b] => simp [Lib.hasPrefix, magic]
  | [a, b, c] => simp [Lib.hasPrefix, magic]
  | a :: b :: c :: d :: t =>
    simp [Lib.hasPrefix, magic]
    constructor
    · rintro ⟨rfl, rfl, rfl, rfl⟩; exact ⟨rfl, rfl, rfl, rfl⟩
    · rintro ⟨rfl, rfl, rfl, rfl⟩; exact ⟨rfl, rfl, rfl, rfl⟩
theorem beN_take_next {q : B} {i : Nat} {b : UInt8} (h : q[i]? = some b) : beN (q.take (i + 1)) = beN (q.take i) * 256 + b.toNat := by
  rw [List.take_add_one, h]
  exact beN_snoc _ _
set_option maxHeartbeats 8000000 in
set_option maxRecDepth 100000 in
theorem head_any (s : B) (hl : s.length ≤ 1073741824) (W : World) : Calls Try.prog 60 #[.string (bs s)] W fun e w' => ∃ H : Hd, e = .returned (.tuple #[hdV H, .bool (parseH s).isSome]) ∧ (∀ h, parseH s = some h → H = h) ∧ Fr No W w' := by
  obtain ⟨R, hR⟩ : ∃ R, parseH s = R := ⟨_, rfl⟩
  rw [hR]
  unfold parseH at hR
  by_cases h4 : s.take 4 = magic
  · have htrim : Lib.trimPrefix s magic = s.drop 4 := by
      unfold Lib.trimPrefix
      rw [hasPrefix_iff, decide_eq_true h4]
      rfl
    have CC : Kp (∀ w, Calls Try.prog 72 #[.string (bs s), .string ⟨#[83, 78, 80, 49]⟩] w fun e w' => e = .returned (.tuple #[.string (bs (s.drop 4)), .bool true]) ∧ w' = w) := ⟨fun w => by
      have := Try.strings_CutPrefix (bs s) ⟨#[83, 78, 80, 49]⟩ w
      rw [show (bs s).data.toList = s from by simp [bs], show (⟨#[83, 78, 80, 49]⟩ : ByteArray).data.toList = magic from rfl, htrim, hasPrefix_iff, decide_eq_true h4] at this
      exact this⟩
    by_cases h72 : s.length = 72
    · rw [if_pos ⟨h4, h72⟩] at hR
      obtain ⟨r, hr⟩ : ∃ r, s.drop 4 = r := ⟨_, rfl⟩
      have hrl : r.length = 68 := by rw [← hr, List.length_drop]; omega
      have hrz : (r.length : Int) = 68 := by omega
      rw [hr] at CC
      obtain ⟨p, hp⟩ : ∃ p, r.take 32 = p := ⟨_, rfl⟩
      obtain ⟨c, hc⟩ : ∃ c, (r.drop 32).take 32 = c := ⟨_, rfl⟩
      obtain ⟨q, hq⟩ : ∃ q, r.drop 64 = q := ⟨_, rfl⟩
      have S1 := sl_to r 32 32 rfl (by omega)
      have S2 := sl_mid r 32 64 32 64 rfl rfl (by omega) (by omega)
      have S3 := sl_from r 64 64 rfl (by omega)
      rw [show 64 - 32 = 32 from rfl] at S2
      have hpl : p.length = 32 := by rw [← hp, List.length_take]; omega
      have hcl : c.length = 32 := by rw [← hc, List.length_take, List.length_drop]; omega
      have hql : q.length = 4 := by rw [← hq, List.length_drop]; omega
      rw [hp] at S1
      rw [hc] at S2
      rw [hq] at S3
      have hsp : (⟨(s.drop 4).take 32, (s.drop 36).take 32, ((beN (s.drop 68) : Nat) : Int)⟩ : Hd) = ⟨p, c, ((beN q : Nat) : Int)⟩ := by
        rw [show s.drop 36 = (s.drop 4).drop 32 by rw [List.drop_drop], show s.drop 68 = (s.drop 4).drop 64 by rw [List.drop_drop], hr, hp, hc, hq]
      rw [hsp] at hR
      have HQZ : Kp ((bs q).size = 4) := ⟨by rw [bs_size, hql]⟩
      have HQL := Kp.mk hql
      have HR := Kp.mk hR
      have CT := Kp.mk (fun w => told_any ⟨p, c, ((beN q : Nat) : Int)⟩ (show p.length ≤ 1073741824 by omega) (show c.length ≤ 1073741824 by omega) w)
      have hrz2 : decide ((r.length : Int) = 68) = true := decide_eq_true hrz
      have hsr : (bs r).size = 68 := by rw [bs_size, hrl]
      clear hr hp hc hq hsp hR htrim hpl hcl hql
      go_enter Try.func60, Try.ntmps60
      go_wp2_with (first
        | ((with_reducible refine gate_dst (N := 2) rfl ?_); go_must (refine ev_alloc rfl 23 rfl _ (hdL ⟨[], [], 0⟩) zeroHead rfl ?_); intro g2 w2 hg2 f2 b2; have F := f2)
        | (go_at_call 72; go_must (refine (CC.out _).mono ?_); rintro e w3 ⟨rfl, hw3⟩; subst hw3))
      refine start_ (n := 7) (S := (fun _ : World => True)) (ds := [6]) #[false, false, false, false, false, false, false] (by kernel_rfl) rfl rfl trivial (fun hHeld => ?_)
      refine pure_ (i := 0) (N := some 22) (v := ?_) (a' := ?_) #[true, false, false, false, false, false, false] rfl rfl (by kernel_rfl) (fun _ _ _ h => h) (Or.inl ⟨by rfl, ?_⟩) ?_ ?_
      rotate_left
      · intro w'; go_simp; with_reducible rfl
      rotate_left
      · simp only [Act.put, List.setIfInBounds_toArray, List.set_cons_zero, List.set_cons_succ]; rfl
      refine pure_ (i := 1) (N := some 23) (v := ?_) (a' := ?_) #[true, true, false, false, false, false, false] rfl rfl (by kernel_rfl) (fun _ _ _ h => h) (Or.inl ⟨by rfl, ?_⟩) ?_ ?_
      rotate_left
      · intro w'; go_simp; with_reducible rfl
      rotate_left
      · simp only [Act.put, List.setIfInBounds_toArray, List.set_cons_zero, List.set_cons_succ]; rfl
      refine pure_ (i := 2) (N := some 24) (v := ?_) (a' := ?_) #[true, true, true, false, false, false, false] rfl rfl (by kernel_rfl) (fun _ _ _ h => h) (Or.inl ⟨by rfl, ?_⟩) ?_ ?_
      rotate_left
      · intro w'; go_simp; with_reducible rfl
      rotate_left
      · simp only [Act.put, List.setIfInBounds_toArray, List.set_cons_zero, List.set_cons_succ]; rfl
      refine pure_ (i := 3) (N := some 25) (v := ?_) (a' := ?_) #[true, true, true, true, false, false, false] rfl rfl (by kernel_rfl) (fun _ _ _ h => h) (Or.inl ⟨by rfl, ?_⟩) ?_ ?_
      rotate_left
      · intro w'; go_simp; with_reducible rfl
      rotate_left
      · simp only [Act.put, List.setIfInBounds_toArray, List.set_cons_zero, List.set_cons_succ]; rfl
      refine pure_ (i := 4) (N := some 26) (v := ?_) (a' := ?_) #[true, true, true, true, true, false, false] rfl rfl (by kernel_rfl) (fun _ _ _ h => h) (Or.inl ⟨by rfl, ?_⟩) ?_ ?_
      rotate_left
      · intro w'; go_simp; with_reducible rfl
      rotate_left
      · simp only [Act.put, List.setIfInBounds_toArray, List.set_cons_zero, List.set_cons_succ]; rfl
      refine one_ (i := 5) (N := some 6) #[true, true, true, true, true, true, false] rfl rfl (by kernel_rfl) (by decide) (fun K hK => ?_)
      refine step_alloc (N := some 6) rfl rfl 23 rfl _ (hdL ⟨[], [], 0⟩) zeroHead rfl ?_; intro g6 w6 hg6 f6 b6; refine hK.out _ _ trivial (fun hHeld => ?_)
      clear hK K
      refine norm_ (a' := ?_) ?_ ?_
      rotate_left
      · simp only [Act.put, List.setIfInBounds_toArray, List.set_cons_zero, List.set_cons_succ]; rfl
      refine last_ (i := 6) (N := none) #[true, true, true, true, true, true, true] rfl rfl (by kernel_rfl) (by decide) (fun K hK => ?_)
      refine step_store_row rfl rfl 23 _ _ rfl g6 (hdL ⟨p, c, 0⟩).toArray rfl rfl 23 (hdL ⟨[], [], 0⟩) b6 sizeHead rfl (hdL_one _) ?_; intro w7 f7 b7; refine hK.out _ _ ?_
      clear hK K
      refine norm_ (a' := ?_) ?_ ?_
      rotate_left
      · simp only [Act.put, List.setIfInBounds_toArray, List.set_cons_zero, List.set_cons_succ]; rfl
      refine done_ (by kernel_rfl) ?_
      skip
      have h26 : g2 < g6 := Nat.lt_of_lt_of_le (blk_drew b2).lt hg6
      have hW6 : W.heap.size ≤ g6 := Nat.le_trans hg2 (Nat.le_of_lt h26)
      have b2 : Blk w7 g2 23 (hdL ⟨[], [], 0⟩) := ((blk_drew b2).no f6).one f7 (Nat.ne_of_lt h26)
      have F : Fr No W w7 := (F.drew.no f6).one f7 (.inr hW6)
      have b6 : Blk w7 g6 23 (hdL ⟨p, c, 0⟩) := b7
      simp only [Exit.then]
      refine ‹∀ (a : Act) (w : World), Code.wp Try.prog _ _ a w → _› _ _ ?_
      go_wp2_with (first
        | ((with_reducible refine gate_dst (N := 29) rfl ?_); go_must (refine ev_bytes rfl 9 67 (.tmp 28) rfl (bs q) rfl 5 Try.underlying9 Try.underlying67 Try.underlying5 ?_); rw [HQZ.out]; intro gq cq wq hgq hgq2 hcq fq cbs))
      have b2 := b2.no fq
      have b6 := b6.no fq
      have F := F.no fq
      have hne : gq ≠ g6 := fun e => by have := (b7.lt); omega
      have HCB : Kp (∀ j b, q[j]? = some b → wq.cell? ⟨gq, j, none⟩ = some (.int .u8 (b.toNat : Int))) := ⟨fun j b hj => by
        have hlt := (List.getElem?_eq_some_iff.1 hj).1
        rw [cbs j (by rw [← HQL.out]; exact hlt)]
        unfold bAt
        rw [show (bs q).data.toList = q from by simp [bs], List.getD_eq_getElem?_getD, hj]
        rfl⟩
      clear cbs
      go_loopg [31] 4 (fun gg v31 wr => ∃ (i : Nat), i + gg = 4 ∧ v31 = .int .i64 (i : Int) ∧ Blk wr g6 23 (hdL ⟨p, c, ((beN (q.take i) : Nat) : Int)⟩) ∧ Fr (One g6) wq wr)
      case atStart => exact ⟨0, rfl, rfl, b6, Fr.refl _ _⟩
      case round =>
        obtain ⟨i, hi, rfl, b6, FQ⟩ := hrel
        by_cases hlt : i < 4
        · have hltz : (i : Int) < 4 := by omega
          obtain ⟨b, hb⟩ : ∃ b, q[i]? = some b := ⟨_, List.getElem?_eq_getElem (by rw [HQL.out]; exact hlt)⟩
          have l1 := Fr.cell (HCB.out i b hb) FQ (fun hh => hne hh)
          have hx3 : beN (q.take i) < 16777216 := beN_lt3 (by rw [List.length_take]; omega)
          have HX := Kp.mk (beN_take_next hb)
          obtain ⟨x, hx⟩ : ∃ x, beN (q.take i) = x := ⟨_, rfl⟩
          rw [hx] at hx3 b6
          have HXX := Kp.mk hx
          have hbn := b.toNat_lt
          have c1 := b6.at_ 2 rfl
          have hm : IntKind.i64.wrap ((x : Int) * 256) = (x : Int) * 256 := wraps_i64 _ (by omega) (by omega)
          have ho : bits BinOp.or IntKind.i64 ((x : Int) * 256) (b.toNat : Int) = (x : Int) * 256 + (b.toNat : Int) := i64_or8 _ _ (by omega) (by omega) (by omega) (by omega) (by omega)
          have hw : IntKind.i64.wrap (b.toNat : Int) = (b.toNat : Int) := wraps_i64 _ (by omega) (by omega)
          have HI := Kp.mk hi
          clear hx hb hi
          go_wp2_with (first
            | ((with_reducible refine gate_store (t := 3) (p := 41) rfl ?_); go_must (refine ev_store rfl 3 _ _ rfl g6 2 (.int .i64 ((x : Int) * 256 + (b.toNat : Int))) rfl rfl rfl 23 _ b6 (by simp) sizeInt ?_); intro wE fE b6))
          have b6 : Blk wE g6 23 (hdL ⟨p, c, ((beN (q.take (i + 1)) : Nat) : Int)⟩) := by rw [HX.out, HXX.out]; exact b6
          go_roundg (4 - (i + 1))
          case measure => have := HI.out; omega
          case rel => exact ⟨i + 1, by have := HI.out; omega, by go_num, b6, FQ.one fE (.inl rfl)⟩
        · obtain ⟨rfl, rfl⟩ : i = 4 ∧ gk = 0 := by omega
          rw [List.take_of_length_le (by rw [HQL.out]; exact Nat.le_refl _)] at b6
          have b2 := b2.one FQ (Nat.ne_of_lt h26)
          have F := F.one FQ (.inr hW6)
          obtain ⟨H, hH⟩ : ∃ H : Hd, H = ⟨p, c, ((beN q : Nat) : Int)⟩ := ⟨_, rfl⟩
          have hR := HR.out
          rw [← hH] at CT b6 hR
          clear hH
          go_wp2_with (first
            | ((with_reducible refine gate_dst (N := 44) rfl ?_); go_must (refine ev_load_row rfl 23 _ rfl g6 rfl 23 _ b6 _ Try.underlying23 rfl sizeHead ?_))
            | (go_at_call 28; go_must (refine (CT.out _).mono ?_); rintro e w9 ⟨rfl, f9⟩; have F := F.no f9; have b2 := b2.no f9; have b6 := b6.no f9)
            | ((with_reducible refine gate_dst (N := 48) rfl ?_); go_must (refine ev_load_row rfl 23 _ rfl g6 rfl 23 _ b6 _ Try.underlying23 rfl sizeHead ?_))
            | ((with_reducible refine gate_store (t := 23) (p := 2) rfl ?_); go_must (refine ev_store_row rfl 23 _ _ rfl g2 (hdL H).toArray rfl rfl 23 _ b2 sizeHead rfl (hdL_one _) ?_); intro wZ fZ bZ; have F := F.one fZ (.inr hg2)))
          refine bodyPost_ret (results_row_tmp rfl _ _ g2 _ _ _ rfl bZ Try.underlying23 rfl sizeHead) rfl (Exists.intro H ⟨?_, ?_, F⟩)
          · cases hk : okH H with
            | true => rw [hk, if_pos rfl] at hR; subst hR; rfl
            | false => rw [hk, if_neg (by decide)] at hR; subst hR; rfl
          · intro h hh
            rw [hh] at hR
            split at hR
            · injection hR
            · cases hR
    · rw [if_neg (fun h => h72 h.2)] at hR
      have HR := Kp.mk hR
      clear hR
      have hrz : ((s.drop 4).length : Int) ≠ 68 := by
        have := congrArg List.length h4
        rw [List.length_take] at this
        have h5 : min 4 s.length = 4 := this
        rw [List.length_drop]
        omega
      generalize s.drop 4 = r at CC hrz
      have hrz2 : ¬ (r.length : Int) = 68 := hrz
      clear hrz htrim
      go_enter Try.func60, Try.ntmps60
      go_wp2_with (first
        | ((with_reducible refine gate_dst (N := 2) rfl ?_); go_must (refine ev_alloc rfl 23 rfl _ (hdL ⟨[], [], 0⟩) zeroHead rfl ?_); intro g2 w2 hg2 f2 b2; have F := f2)
        | (go_at_call 72; go_must (refine (CC.out _).mono ?_); rintro e w3 ⟨rfl, hw3⟩; subst hw3)
        | ((with_reducible refine gate_store (t := 23) (p := 2) rfl ?_); go_must (refine ev_store_row rfl 23 _ _ rfl g2 (hdL ⟨[], [], 0⟩).toArray rfl rfl 23 _ b2 sizeHead rfl (hdL_one _) ?_); intro wZ fZ bZ; have F := F.one fZ (.inr hg2)))
      (refine bodyPost_ret (results_row_tmp rfl _ _ g2 _ _ _ rfl bZ Try.underlying23 rfl sizeHead) rfl (Exists.intro (⟨[], [], 0⟩ : Hd) ⟨by rw [← HR.out]; rfl, (fun h hh => by rw [← HR.out] at hh; cases hh), F⟩))
  · rw [if_neg (fun h => h4 h.1)] at hR
    have HR := Kp.mk hR
    clear hR
    have CC : Kp (∀ w, Calls Try.prog 72 #[.string (bs s), .string ⟨#[83, 78, 80, 49]⟩] w fun e w' => e = .returned (.tuple #[.string (bs (Lib.trimPrefix s magic)), .bool false]) ∧ w' = w) := ⟨fun w => by
      have := Try.strings_CutPrefix (bs s) ⟨#[83, 78, 80, 49]⟩ w
      rw [show (bs s).data.toList = s from by simp [bs], show (⟨#[83, 78, 80, 49]⟩ : ByteArray).data.toList = magic from rfl, hasPrefix_iff, decide_eq_false h4] at this
      exact this⟩
    go_enter Try.func60, Try.ntmps60
    go_wp2_with (first
      | ((with_reducible refine gate_dst (N := 2) rfl ?_); go_must (refine ev_alloc rfl 23 rfl _ (hdL ⟨[], [], 0⟩) zeroHead rfl ?_); intro g2 w2 hg2 f2 b2; have F := f2)
      | (go_at_call 72; go_must (refine (CC.out _).mono ?_); rintro e w3 ⟨rfl, hw3⟩; subst hw3)
      | ((with_reducible refine gate_store (t := 23) (p := 2) rfl ?_); go_must (refine ev_store_row rfl 23 _ _ rfl g2 (hdL ⟨[], [], 0⟩).toArray rfl rfl 23 _ b2 sizeHead rfl (hdL_one _) ?_); intro wZ fZ bZ; have F := F.one fZ (.inr hg2)))
    (refine bodyPost_ret (results_row_tmp rfl _ _ g2 _ _ _ rfl bZ Try.underlying23 rfl sizeHead) rfl (Exists.intro (⟨[], [], 0⟩ : Hd) ⟨by rw [← HR.out]; rfl, (fun h hh => by rw [← HR.out] at hh; cases hh), F⟩))
end Go.Proofs.Ytioohhekamjljaa.Wk

/- wire's Reader.step. Conditions: sizes are bounded, as written out. -/
set_option linter.unusedSimpArgs false
set_option linter.unusedVariables false
namespace Go.Proofs.Ytioohhekamjljaa.Wk
open Go Go.RowKit Go.Proofs.YtioohhekamjljaaW.PrintWords Go.Proofs.YtioohhekamjljaaW.PrintLast Go.Proofs.Ytioohhekamjljaa.Ev Go.Proofs.Ytioohhekamjljaa.Reg Go.Proofs.Ytioohhekamjljaa.Sha Go.Proofs.Ytioohhekamjljaa.Sb Go.Proofs.Ytioohhekamjljaa.Crc Go.Proofs.Ytioohhekamjljaa.Wi

theorem Bf.put {w w1 : World} {base g i j : Nat} {t : TypeId} {cs : List Value} {v x : Value} {l : B} (h : Bf w base g i t cs v l) (f : Fr (One g) w w1) (b : Blk w1 g t (cs.set j x)) (hj : j ≠ i) (hj1 : j ≠ i + 1) : Bf w1 base g i t (cs.set j x) v l :=
  ⟨b, by rw [List.getElem?_set_ne hj]; exact h.adr, by rw [List.getElem?_set_ne hj1]; exact h.buf, ownF_keep h.own f (fun k hk hh => h.ne (hk.trans (congrArg some hh))), by rw [List.length_set]; exact h.lies, h.typ⟩
abbrev zeroH : Hd := ⟨[], [], 0⟩
abbrev zeroC : Cm := ⟨0, 0, 0, 0, 0, 0, [], []⟩
abbrev stL (k : Int) (h : Hd) (c : Cm) : List Value := .int .i64 k :: (hdL h ++ cmL c)
theorem zeroStep : (Try.prog.info? 60).bind (·.zero) = some (.agg (stL 0 zeroH zeroC).toArray) := by kernel_rfl
theorem sizeStep : (Try.prog.info? 60).map (·.size) = some 12 := by kernel_rfl
section
variable {P : Program} {ops : Array Oper} {o : Oper} {a : Act} {Q : Exit → Act → World → Prop} {W : World} {K : Act → World → Prop} {E : Prop}
theorem step_lit {N : Option Tmp} (hgd : o.guard = none) (hd : o.dst = N) (e : TypeId) (cs : List Value) (n : Nat)
    (hrun : (execOp a.eval o).run P W = .ok (.value (.slice (some ⟨W.heap.size, 0, none⟩) n n)) (W.alloc (.cells cs.toArray e)))
    (h : ∀ g w1, W.heap.size ≤ g → Fr No W w1 → Blk w1 g e cs → K (a.put N (.slice (some ⟨g, 0, none⟩) n n)) w1) : if Region.wanted o (yielded ops a.tmps) = true then Oper.wp P o a W K Q else E := by
  have hw : Region.wanted o (yielded ops a.tmps) = true := by simp [Region.wanted, hgd]
  rw [if_pos hw]
  unfold Oper.wp
  rw [hrun]
  subst hd
  exact h _ _ (Nat.le_refl _) (Fr.alloc _ _) (Blk.new W e cs)
end
theorem sizeBool : (Try.prog.info? 4).map (·.size) = some 1 := by kernel_rfl
theorem stL_one (k : Int) (h : Hd) (c : Cm) : (stL k h c).toArray.all (·.oneCell') = true := by
  show (stL k h c).toArray.all (fun x => x.oneCell') = true
  simp only [stL, hdL, cmL, List.cons_append, List.nil_append, List.all_toArray, List.all_cons, List.all_nil]
  rfl
/-- A step's cells. -/
def stepL : St → List Value
  | .head h => stL 1 h zeroC
  | .fin => stL 2 zeroH zeroC
  | .cmd c => stL 3 zeroH c
/-- A reader's cells. -/
abbrev rL (gr : Nat) (p v : Value) (tk : Nat) (bg ov : Bool) (er : Int) : List Value := [.pointer (some ⟨gr, 0, none⟩), p, v, .int .i64 (tk : Int), .bool bg, .bool ov, .int .i64 er]
/-- What step answers: a step's cells, the error, has it begun, is it over. -/
def stepV (all : B) (tk : Nat) (bg ov : Bool) (x : Rc) : List Value × Int × Bool × Bool :=
  match stepP dg (all.take tk) bg ov x with
  | .error e => (stL 0 zeroH zeroC, (e : Int), bg, ov)
  | .ok y => (stepL y, 0, bg || decide (x.kind = 1), decide (y = .fin))
set_option maxHeartbeats 8000000 in
set_option maxRecDepth 100000 in
theorem wstep_any {W : World} {base g gr : Nat} {p v : Value} {all : B} {tk : Nat} {bg ov : Bool} {er : Int} (x : Rc) (BB : Bf W base g 1 96 (rL gr p v tk bg ov er) v all) (hbg : bg = true → all ≠ []) (htk : tk ≤ all.length) (hal : all.length ≤ 1073741824) (hxp : x.pay.length ≤ 1073741824) (hxk : x.kind ≤ 255) :
    Calls Try.prog 40 #[.pointer (some ⟨g, 0, none⟩), rcV x] W fun e w' => e = .returned (.tuple #[.agg (stepV all tk bg ov x).1.toArray, .int .i64 (stepV all tk bg ov x).2.1])
      ∧ Bf w' base g 1 96 (rL gr p v tk (stepV all tk bg ov x).2.2.1 (stepV all tk bg ov x).2.2.2 er) v all ∧ Fr (fun k => k = g ∨ Own v k) W w' := by
  obtain ⟨R, hR⟩ : ∃ R, stepV all tk bg ov x = R := ⟨_, rfl⟩
  rw [hR]
  unfold stepV stepP at hR
  cases ov with
  | true =>
    rw [if_pos rfl] at hR
    subst hR
    go_enter Try.func40, Try.ntmps40
    go_wp2_with (first
      | ((with_reducible refine gate_dst (N := 3) rfl ?_); go_must (refine ev_box rfl 77 _ rfl _ rfl (rcL x.kind x.seq (bs x.pay)) rfl ?_); intro g3 w3 hg3 f3 b3; have BB := BB.no f3; have F := f3; have d0 := b3.at_ 0 rfl; have d2 := b3.at_ 2 rfl)
      | ((with_reducible refine gate_dst (N := 4) rfl ?_); go_must (refine ev_alloc rfl 60 rfl _ (stL 0 zeroH zeroC) zeroStep rfl ?_); intro g4 w4 hg4 f4 b4; have n34 : g3 ≠ g4 := Nat.ne_of_lt (Nat.lt_of_lt_of_le b3.lt hg4); have b3 := b3.no f4; have ng4 : g ≠ g4 := Nat.ne_of_lt (Nat.lt_of_lt_of_le BB.blk.lt hg4); have nv4 : ∀ k, v.ownBlock = some k → ¬ k = g4 := (fun k hk e => by have := (BB.own.lt k hk).2; have := hg4; omega); have BB := BB.no f4; have hW4 : W.heap.size ≤ g4 := Nat.le_trans F.size hg4; have F := F.no f4; have d0 := b3.at_ 0 rfl; have d2 := b3.at_ 2 rfl; have q3 := BB.blk.at_ 3 rfl; have q4 := BB.blk.at_ 4 rfl; have q5 := BB.blk.at_ 5 rfl)
      | ((with_reducible refine gate_store (t := 60) (p := 4) rfl ?_); go_must (refine ev_store_row rfl 60 _ _ rfl g4 (stL 0 zeroH zeroC).toArray rfl rfl 60 _ b4 sizeStep rfl (stL_one _ _ _) ?_); intro wZ fZ bZ; have BB := BB.keep fZ ng4 nv4; have F := F.one fZ (.inr hW4)))
    (refine bodyPost_ret (results_row_tmp rfl _ _ g4 _ _ _ rfl bZ Try.underlying60 rfl sizeStep) rfl ⟨rfl, BB, F.mono (fun i hi => hi.elim)⟩)
  | false =>
    rw [if_neg (by decide)] at hR
    by_cases hc : (bg = decide (x.kind = 1)) ∨ (x.kind ≠ 1 ∧ x.kind ≠ 2 ∧ x.kind ≤ 10) ∨ 20 < x.kind
    · rw [if_pos hc] at hR
      subst hR
      by_cases hk1 : x.kind = 1
      · have hbt : bg = true := by
          rcases hc with h | h | h
          · rw [h, decide_eq_true hk1]
          · exact absurd hk1 h.1
          · omega
        subst hbt
        obtain ⟨xk, xq, xp⟩ := x
        have hk1 : xk = 1 := hk1
        subst hk1
        clear hc
        go_enter Try.func40, Try.ntmps40
        go_wp2_with (first
          | ((with_reducible refine gate_dst (N := 3) rfl ?_); go_must (refine ev_box rfl 77 _ rfl _ rfl (rcL 1 xq (bs xp)) rfl ?_); intro g3 w3 hg3 f3 b3; have BB := BB.no f3; have F := f3; have d0 := b3.at_ 0 rfl; have d2 := b3.at_ 2 rfl)
          | ((with_reducible refine gate_dst (N := 4) rfl ?_); go_must (refine ev_alloc rfl 60 rfl _ (stL 0 zeroH zeroC) zeroStep rfl ?_); intro g4 w4 hg4 f4 b4; have n34 : g3 ≠ g4 := Nat.ne_of_lt (Nat.lt_of_lt_of_le b3.lt hg4); have b3 := b3.no f4; have ng4 : g ≠ g4 := Nat.ne_of_lt (Nat.lt_of_lt_of_le BB.blk.lt hg4); have nv4 : ∀ k, v.ownBlock = some k → ¬ k = g4 := (fun k hk e => by have := (BB.own.lt k hk).2; have := hg4; omega); have BB := BB.no f4; have hW4 : W.heap.size ≤ g4 := Nat.le_trans F.size hg4; have F := F.no f4; have d0 := b3.at_ 0 rfl; have d2 := b3.at_ 2 rfl; have q3 := BB.blk.at_ 3 rfl; have q4 := BB.blk.at_ 4 rfl; have q5 := BB.blk.at_ 5 rfl)
          | ((with_reducible refine gate_store (t := 60) (p := 4) rfl ?_); go_must (refine ev_store_row rfl 60 _ _ rfl g4 (stL 0 zeroH zeroC).toArray rfl rfl 60 _ b4 sizeStep rfl (stL_one _ _ _) ?_); intro wZ fZ bZ; have BB := BB.keep fZ ng4 nv4; have F := F.one fZ (.inr hW4)))
        go_quiet (fail)
        have BB := BB.no ((Fr.refl No w4).drewN nq)
        have b4 := b4.drewN nq
        have F := F.drewN nq
        go_wp2_with (first
          | ((with_reducible refine gate_store (t := 60) (p := 4) rfl ?_); go_must (refine ev_store_row rfl 60 _ _ rfl g4 (stL 0 zeroH zeroC).toArray rfl rfl 60 _ b4 sizeStep rfl (stL_one _ _ _) ?_); intro wZ fZ bZ; have BB := BB.keep fZ ng4 nv4; have F := F.one fZ (.inr hW4)))
        (refine bodyPost_ret (results_row_tmp rfl _ _ g4 _ _ _ rfl bZ Try.underlying60 rfl sizeStep) rfl ⟨rfl, BB, F.mono (fun i hi => hi.elim)⟩)
      · have hk1z : ¬ (x.kind : Int) = 1 := by omega
        cases bg with
        | false =>
          clear hc
          go_enter Try.func40, Try.ntmps40
          go_wp2_with (first
            | ((with_reducible refine gate_dst (N := 3) rfl ?_); go_must (refine ev_box rfl 77 _ rfl _ rfl (rcL x.kind x.seq (bs x.pay)) rfl ?_); intro g3 w3 hg3 f3 b3; have BB := BB.no f3; have F := f3; have d0 := b3.at_ 0 rfl; have d2 := b3.at_ 2 rfl)
            | ((with_reducible refine gate_dst (N := 4) rfl ?_); go_must (refine ev_alloc rfl 60 rfl _ (stL 0 zeroH zeroC) zeroStep rfl ?_); intro g4 w4 hg4 f4 b4; have n34 : g3 ≠ g4 := Nat.ne_of_lt (Nat.lt_of_lt_of_le b3.lt hg4); have b3 := b3.no f4; have ng4 : g ≠ g4 := Nat.ne_of_lt (Nat.lt_of_lt_of_le BB.blk.lt hg4); have nv4 : ∀ k, v.ownBlock = some k → ¬ k = g4 := (fun k hk e => by have := (BB.own.lt k hk).2; have := hg4; omega); have BB := BB.no f4; have hW4 : W.heap.size ≤ g4 := Nat.le_trans F.size hg4; have F := F.no f4; have d0 := b3.at_ 0 rfl; have d2 := b3.at_ 2 rfl; have q3 := BB.blk.at_ 3 rfl; have q4 := BB.blk.at_ 4 rfl; have q5 := BB.blk.at_ 5 rfl)
            | ((with_reducible refine gate_store (t := 60) (p := 4) rfl ?_); go_must (refine ev_store_row rfl 60 _ _ rfl g4 (stL 0 zeroH zeroC).toArray rfl rfl 60 _ b4 sizeStep rfl (stL_one _ _ _) ?_); intro wZ fZ bZ; have BB := BB.keep fZ ng4 nv4; have F := F.one fZ (.inr hW4)))
          go_quiet (fail)
          have BB := BB.no ((Fr.refl No w4).drewN nq)
          have b4 := b4.drewN nq
          have F := F.drewN nq
          go_wp2_with (first
            | ((with_reducible refine gate_store (t := 60) (p := 4) rfl ?_); go_must (refine ev_store_row rfl 60 _ _ rfl g4 (stL 0 zeroH zeroC).toArray rfl rfl 60 _ b4 sizeStep rfl (stL_one _ _ _) ?_); intro wZ fZ bZ; have BB := BB.keep fZ ng4 nv4; have F := F.one fZ (.inr hW4)))
          (refine bodyPost_ret (results_row_tmp rfl _ _ g4 _ _ _ rfl bZ Try.underlying60 rfl sizeStep) rfl ⟨rfl, BB, F.mono (fun i hi => hi.elim)⟩)
        | true =>
          have hc2 : (x.kind ≠ 2 ∧ x.kind ≤ 10) ∨ 20 < x.kind := by
            rcases hc with h | h | h
            · rw [decide_eq_false hk1] at h; cases h
            · exact .inl h.2
            · exact .inr h
          by_cases h10 : x.kind ≤ 10
          · have h2z : ¬ (x.kind : Int) = 2 := by omega
            have h10z : (x.kind : Int) ≤ 10 := by omega
            clear hc hc2
            go_enter Try.func40, Try.ntmps40
            go_wp2_with (first
              | ((with_reducible refine gate_dst (N := 3) rfl ?_); go_must (refine ev_box rfl 77 _ rfl _ rfl (rcL x.kind x.seq (bs x.pay)) rfl ?_); intro g3 w3 hg3 f3 b3; have BB := BB.no f3; have F := f3; have d0 := b3.at_ 0 rfl; have d2 := b3.at_ 2 rfl)
              | ((with_reducible refine gate_dst (N := 4) rfl ?_); go_must (refine ev_alloc rfl 60 rfl _ (stL 0 zeroH zeroC) zeroStep rfl ?_); intro g4 w4 hg4 f4 b4; have n34 : g3 ≠ g4 := Nat.ne_of_lt (Nat.lt_of_lt_of_le b3.lt hg4); have b3 := b3.no f4; have ng4 : g ≠ g4 := Nat.ne_of_lt (Nat.lt_of_lt_of_le BB.blk.lt hg4); have nv4 : ∀ k, v.ownBlock = some k → ¬ k = g4 := (fun k hk e => by have := (BB.own.lt k hk).2; have := hg4; omega); have BB := BB.no f4; have hW4 : W.heap.size ≤ g4 := Nat.le_trans F.size hg4; have F := F.no f4; have d0 := b3.at_ 0 rfl; have d2 := b3.at_ 2 rfl; have q3 := BB.blk.at_ 3 rfl; have q4 := BB.blk.at_ 4 rfl; have q5 := BB.blk.at_ 5 rfl)
              | ((with_reducible refine gate_store (t := 60) (p := 4) rfl ?_); go_must (refine ev_store_row rfl 60 _ _ rfl g4 (stL 0 zeroH zeroC).toArray rfl rfl 60 _ b4 sizeStep rfl (stL_one _ _ _) ?_); intro wZ fZ bZ; have BB := BB.keep fZ ng4 nv4; have F := F.one fZ (.inr hW4)))
            go_quiet (fail)
            have BB := BB.no ((Fr.refl No w4).drewN nq)
            have b4 := b4.drewN nq
            have F := F.drewN nq
            go_wp2_with (first
              | ((with_reducible refine gate_store (t := 60) (p := 4) rfl ?_); go_must (refine ev_store_row rfl 60 _ _ rfl g4 (stL 0 zeroH zeroC).toArray rfl rfl 60 _ b4 sizeStep rfl (stL_one _ _ _) ?_); intro wZ fZ bZ; have BB := BB.keep fZ ng4 nv4; have F := F.one fZ (.inr hW4)))
            (refine bodyPost_ret (results_row_tmp rfl _ _ g4 _ _ _ rfl bZ Try.underlying60 rfl sizeStep) rfl ⟨rfl, BB, F.mono (fun i hi => hi.elim)⟩)
          · have h2z : ¬ (x.kind : Int) = 2 := by omega
            have h10z : ¬ (x.kind : Int) ≤ 10 := by omega
            have h20z : (20 : Int) < (x.kind : Int) := by omega
            clear hc hc2
            go_enter Try.func40, Try.ntmps40
            go_wp2_with (first
              | ((with_reducible refine gate_dst (N := 3) rfl ?_); go_must (refine ev_box rfl 77 _ rfl _ rfl (rcL x.kind x.seq (bs x.pay)) rfl ?_); intro g3 w3 hg3 f3 b3; have BB := BB.no f3; have F := f3; have d0 := b3.at_ 0 rfl; have d2 := b3.at_ 2 rfl)
              | ((with_reducible refine gate_dst (N := 4) rfl ?_); go_must (refine ev_alloc rfl 60 rfl _ (stL 0 zeroH zeroC) zeroStep rfl ?_); intro g4 w4 hg4 f4 b4; have n34 : g3 ≠ g4 := Nat.ne_of_lt (Nat.lt_of_lt_of_le b3.lt hg4); have b3 := b3.no f4; have ng4 : g ≠ g4 := Nat.ne_of_lt (Nat.lt_of_lt_of_le BB.blk.lt hg4); have nv4 : ∀ k, v.ownBlock = some k → ¬ k = g4 := (fun k hk e => by have := (BB.own.lt k hk).2; have := hg4; omega); have BB := BB.no f4; have hW4 : W.heap.size ≤ g4 := Nat.le_trans F.size hg4; have F := F.no f4; have d0 := b3.at_ 0 rfl; have d2 := b3.at_ 2 rfl; have q3 := BB.blk.at_ 3 rfl; have q4 := BB.blk.at_ 4 rfl; have q5 := BB.blk.at_ 5 rfl)
              | ((with_reducible refine gate_store (t := 60) (p := 4) rfl ?_); go_must (refine ev_store_row rfl 60 _ _ rfl g4 (stL 0 zeroH zeroC).toArray rfl rfl 60 _ b4 sizeStep rfl (stL_one _ _ _) ?_); intro wZ fZ bZ; have BB := BB.keep fZ ng4 nv4; have F := F.one fZ (.inr hW4)))
            go_quiet (fail)
            have BB := BB.no ((Fr.refl No w4).drewN nq)
            have b4 := b4.drewN nq
            have F := F.drewN nq
            go_wp2_with (first
              | ((with_reducible refine gate_store (t := 60) (p := 4) rfl ?_); go_must (refine ev_store_row rfl 60 _ _ rfl g4 (stL 0 zeroH zeroC).toArray rfl rfl 60 _ b4 sizeStep rfl (stL_one _ _ _) ?_); intro wZ fZ bZ; have BB := BB.keep fZ ng4 nv4; have F := F.one fZ (.inr hW4)))
            (refine bodyPost_ret (results_row_tmp rfl _ _ g4 _ _ _ rfl bZ Try.underlying60 rfl sizeStep) rfl ⟨rfl, BB, F.mono (fun i hi => hi.elim)⟩)
    · rw [if_neg hc] at hR
      by_cases hk1 : x.kind = 1
      · rw [if_pos hk1] at hR
        have hbf : bg = false := by
          cases bg with
          | false => rfl
          | true => exact absurd (.inl (by rw [decide_eq_true hk1])) hc
        subst hbf
        obtain ⟨xk, xq, xp⟩ := x
        have hk1 : xk = 1 := hk1
        subst hk1
        clear hc
        cases hph : parseH xp with
        | none =>
          rw [hph] at hR
          have CH : Kp (∀ w', Calls Try.prog 60 #[.string (bs xp)] w' fun e w'' => ∃ H : Hd, e = .returned (.tuple #[hdV H, .bool false]) ∧ Fr No w' w'') := ⟨fun w' => (head_any xp hxp w').mono (by rintro e w'' ⟨H, h1, _, h3⟩; rw [hph] at h1; exact ⟨H, h1, h3⟩)⟩
          subst hR
          have HPH := Kp.mk hph
          clear hph
          go_enter Try.func40, Try.ntmps40
          go_wp2_with (first
            | ((with_reducible refine gate_dst (N := 3) rfl ?_); go_must (refine ev_box rfl 77 _ rfl _ rfl (rcL 1 xq (bs xp)) rfl ?_); intro g3 w3 hg3 f3 b3; have BB := BB.no f3; have F := f3; have d0 := b3.at_ 0 rfl; have d2 := b3.at_ 2 rfl)
            | ((with_reducible refine gate_dst (N := 4) rfl ?_); go_must (refine ev_alloc rfl 60 rfl _ (stL 0 zeroH zeroC) zeroStep rfl ?_); intro g4 w4 hg4 f4 b4; have n34 : g3 ≠ g4 := Nat.ne_of_lt (Nat.lt_of_lt_of_le b3.lt hg4); have b3 := b3.no f4; have ng4 : g ≠ g4 := Nat.ne_of_lt (Nat.lt_of_lt_of_le BB.blk.lt hg4); have nv4 : ∀ k, v.ownBlock = some k → ¬ k = g4 := (fun k hk e => by have := (BB.own.lt k hk).2; have := hg4; omega); have BB := BB.no f4; have hW4 : W.heap.size ≤ g4 := Nat.le_trans F.size hg4; have F := F.no f4; have d0 := b3.at_ 0 rfl; have d2 := b3.at_ 2 rfl; have q3 := BB.blk.at_ 3 rfl; have q4 := BB.blk.at_ 4 rfl; have q5 := BB.blk.at_ 5 rfl))
          go_quiet (fail)
          have BB := BB.no ((Fr.refl No w4).drewN nq)
          have b4 := b4.drewN nq
          have b3 := b3.drewN nq
          have F := F.drewN nq
          go_wp2_with (first
            | (go_at_call 60; go_must (refine (CH.out _).mono ?_); rintro e w5 ⟨H, rfl, f5⟩; have BB := BB.no f5; have b4 := b4.no f5; have F := F.no f5; have q4 := BB.blk.at_ 4 rfl)
            | ((with_reducible refine gate_dst (N := 6) rfl ?_); go_must (refine ev_alloc rfl 23 rfl _ (hdL ⟨[], [], 0⟩) zeroHead rfl ?_); intro g6 w6 hg6 f6 b6; have n46 : g4 ≠ g6 := Nat.ne_of_lt (Nat.lt_of_lt_of_le b4.lt hg6); have ng6 : g ≠ g6 := Nat.ne_of_lt (Nat.lt_of_lt_of_le BB.blk.lt hg6); have nv6 : ∀ k, v.ownBlock = some k → ¬ k = g6 := (fun k hk e => by have := (BB.own.lt k hk).2; have := hg6; omega); have BB := BB.no f6; have b4 := b4.no f6; have hW6 : W.heap.size ≤ g6 := Nat.le_trans F.size hg6; have F := F.no f6)
            | ((with_reducible refine gate_store (t := 23) (p := 6) rfl ?_); go_must (refine ev_store_row rfl 23 _ _ rfl g6 (hdL H).toArray rfl rfl 23 _ b6 sizeHead rfl (hdL_one _) ?_); intro w7 f7 b7; have b7 : Blk w7 g6 23 (hdL H) := b7; have BB := BB.keep f7 ng6 nv6; have b4 := b4.one f7 n46; have F := F.one f7 (.inr hW6); have q4 := BB.blk.at_ 4 rfl)
            | ((with_reducible refine gate_store (t := 60) (p := 4) rfl ?_); go_must (refine ev_store_row rfl 60 _ _ rfl g4 (stL 0 zeroH zeroC).toArray rfl rfl 60 _ b4 sizeStep rfl (stL_one _ _ _) ?_); intro wZ fZ bZ; have BB := BB.keep fZ ng4 nv4; have F := F.one fZ (.inr hW4)))
          (refine bodyPost_ret (results_row_tmp rfl _ _ g4 _ _ _ rfl bZ Try.underlying60 rfl sizeStep) rfl ⟨rfl, BB, F.mono (fun i hi => hi.elim)⟩)
        | some h =>
          rw [hph] at hR
          have CH : Kp (∀ w', Calls Try.prog 60 #[.string (bs xp)] w' fun e w'' => e = .returned (.tuple #[hdV h, .bool true]) ∧ Fr No w' w'') := ⟨fun w' => (head_any xp hxp w').mono (by rintro e w'' ⟨H, h1, h2, h3⟩; rw [hph] at h1; rw [h2 h hph] at h1; exact ⟨h1, h3⟩)⟩
          subst hR
          have HPH := Kp.mk hph
          clear hph
          go_enter Try.func40, Try.ntmps40
          go_wp2_with (first
            | ((with_reducible refine gate_dst (N := 3) rfl ?_); go_must (refine ev_box rfl 77 _ rfl _ rfl (rcL 1 xq (bs xp)) rfl ?_); intro g3 w3 hg3 f3 b3; have BB := BB.no f3; have F := f3; have d0 := b3.at_ 0 rfl; have d2 := b3.at_ 2 rfl)
            | ((with_reducible refine gate_dst (N := 4) rfl ?_); go_must (refine ev_alloc rfl 60 rfl _ (stL 0 zeroH zeroC) zeroStep rfl ?_); intro g4 w4 hg4 f4 b4; have n34 : g3 ≠ g4 := Nat.ne_of_lt (Nat.lt_of_lt_of_le b3.lt hg4); have b3 := b3.no f4; have ng4 : g ≠ g4 := Nat.ne_of_lt (Nat.lt_of_lt_of_le BB.blk.lt hg4); have nv4 : ∀ k, v.ownBlock = some k → ¬ k = g4 := (fun k hk e => by have := (BB.own.lt k hk).2; have := hg4; omega); have BB := BB.no f4; have hW4 : W.heap.size ≤ g4 := Nat.le_trans F.size hg4; have F := F.no f4; have d0 := b3.at_ 0 rfl; have d2 := b3.at_ 2 rfl; have q3 := BB.blk.at_ 3 rfl; have q4 := BB.blk.at_ 4 rfl; have q5 := BB.blk.at_ 5 rfl))
          go_quiet (fail)
          have BB := BB.no ((Fr.refl No w4).drewN nq)
          have b4 := b4.drewN nq
          have b3 := b3.drewN nq
          have F := F.drewN nq
          go_wp2_with (first
            | (go_at_call 60; go_must (refine (CH.out _).mono ?_); rintro e w5 ⟨rfl, f5⟩; have BB := BB.no f5; have b4 := b4.no f5; have F := F.no f5; have q4 := BB.blk.at_ 4 rfl)
            | ((with_reducible refine gate_dst (N := 6) rfl ?_); go_must (refine ev_alloc rfl 23 rfl _ (hdL ⟨[], [], 0⟩) zeroHead rfl ?_); intro g6 w6 hg6 f6 b6; have n46 : g4 ≠ g6 := Nat.ne_of_lt (Nat.lt_of_lt_of_le b4.lt hg6); have ng6 : g ≠ g6 := Nat.ne_of_lt (Nat.lt_of_lt_of_le BB.blk.lt hg6); have nv6 : ∀ k, v.ownBlock = some k → ¬ k = g6 := (fun k hk e => by have := (BB.own.lt k hk).2; have := hg6; omega); have BB := BB.no f6; have b4 := b4.no f6; have hW6 : W.heap.size ≤ g6 := Nat.le_trans F.size hg6; have F := F.no f6)
            | ((with_reducible refine gate_store (t := 23) (p := 6) rfl ?_); go_must (refine ev_store_row rfl 23 _ _ rfl g6 (hdL h).toArray rfl rfl 23 _ b6 sizeHead rfl (hdL_one _) ?_); intro w7 f7 b7; have b7 : Blk w7 g6 23 (hdL h) := b7; have BB := BB.keep f7 ng6 nv6; have b4 := b4.one f7 n46; have F := F.one f7 (.inr hW6); have q4 := BB.blk.at_ 4 rfl)
            | ((with_reducible refine gate_store (t := 4) (p := 61) rfl ?_); go_must (refine ev_store rfl 4 _ _ rfl g 4 (.bool true) rfl rfl rfl 96 _ BB.blk (by simp) sizeBool ?_); intro w8 f8 b8; have b4 := b4.one f8 (Ne.symm ng4); have b7 := b7.one f8 (Ne.symm ng6); have BB := BB.put f8 b8 (by decide) (by decide); have F : Fr (fun k => k = g ∨ Own v k) W w8 := (F.mono (fun i hi => hi.elim)).trans f8 (fun i hi => .inl (.inl hi)))
            | ((with_reducible refine gate_dst (N := 62) rfl ?_); go_must (refine ev_load_row rfl 23 _ rfl g6 rfl 23 _ b7 _ Try.underlying23 rfl sizeHead ?_))
            | ((with_reducible refine gate_store (t := 60) (p := 4) rfl ?_); go_must (refine ev_store_row rfl 60 _ _ rfl g4 (stL 1 h zeroC).toArray rfl rfl 60 _ b4 sizeStep rfl (stL_one _ _ _) ?_); intro wZ fZ bZ; have BB := BB.keep fZ ng4 nv4; have F := F.one fZ (.inr hW4)))
          (refine bodyPost_ret (results_row_tmp rfl _ _ g4 _ _ _ rfl bZ Try.underlying60 rfl sizeStep) rfl ⟨rfl, BB, F⟩)
      · rw [if_neg hk1] at hR
        have hbt : bg = true := by
          cases bg with
          | true => rfl
          | false => exact absurd (.inl (by rw [decide_eq_false hk1])) hc
        subst hbt
        by_cases hk2 : x.kind = 2
        · rw [if_pos hk2] at hR
          obtain ⟨xk, xq, xp⟩ := x
          have hk2 : xk = 2 := hk2
          subst hk2
          have HNE := Kp.mk (hbg rfl)
          have S1 := sl_to all tk (tk : Int) rfl htk
          obtain ⟨hd, hhd⟩ : ∃ hd, all.take tk = hd := ⟨_, rfl⟩
          have hhl : hd.length ≤ 1099511627776 := by rw [← hhd, List.length_take]; omega
          rw [hhd] at S1 hR
          have HHL := Kp.mk hhl
          have CD : Kp (∀ w g, Blk w g 9 [.string (bs hd)] → Calls Try.prog 30 #[.slice (some ⟨g, 0, none⟩) 1 1] w fun e w' => e = .returned (.string (bs (dg hd))) ∧ Fr No w w') := ⟨fun w g hb => dgOne_any hd hhl w g hb⟩
          clear hc hhd hhl hbg htk
          generalize dg hd = D at hR CD
          by_cases hD : D = xp
          · rw [if_pos hD] at hR
            subst hR
            obtain rfl : xp = D := hD.symm
            go_enter Try.func40, Try.ntmps40
            go_wp2_with (first
              | ((with_reducible refine gate_dst (N := 3) rfl ?_); go_must (refine ev_box rfl 77 _ rfl _ rfl (rcL 2 xq (bs xp)) rfl ?_); intro g3 w3 hg3 f3 b3; have BB := BB.no f3; have F := f3; have d0 := b3.at_ 0 rfl; have d2 := b3.at_ 2 rfl)
              | ((with_reducible refine gate_dst (N := 4) rfl ?_); go_must (refine ev_alloc rfl 60 rfl _ (stL 0 zeroH zeroC) zeroStep rfl ?_); intro g4 w4 hg4 f4 b4; have n34 : g3 ≠ g4 := Nat.ne_of_lt (Nat.lt_of_lt_of_le b3.lt hg4); have b3 := b3.no f4; have ng4 : g ≠ g4 := Nat.ne_of_lt (Nat.lt_of_lt_of_le BB.blk.lt hg4); have nv4 : ∀ k, v.ownBlock = some k → ¬ k = g4 := (fun k hk e => by have := (BB.own.lt k hk).2; have := hg4; omega); have BB := BB.no f4; have hW4 : W.heap.size ≤ g4 := Nat.le_trans F.size hg4; have F := F.no f4; have d0 := b3.at_ 0 rfl; have d2 := b3.at_ 2 rfl; have q3 := BB.blk.at_ 3 rfl; have q4 := BB.blk.at_ 4 rfl; have q5 := BB.blk.at_ 5 rfl))
            go_quiet (fail)
            have BB := BB.no ((Fr.refl No w4).drewN nq)
            have b4 := b4.drewN nq
            have b3 := b3.drewN nq
            have F := F.drewN nq
            go_wp2_with fail
            have fd := (Fr.refl No (w4.drewN nq)).drew
            refine start_ (n := 14) (S := (fun w'' : World => Bf w'' base g 1 96 (rL gr p v tk true false er) v all ∧ Blk w'' g3 77 (rcL 2 xq (bs xp)) ∧ Blk w'' g4 60 (stL 0 zeroH zeroC) ∧ Fr (fun k => k = g ∨ Own v k) W w'')) (ds := []) #[false, false, false, false, false, false, false, false, false, false, false, false, false, false] (by kernel_rfl) rfl rfl ⟨BB.no fd, b3.no fd, b4.no fd, (F.no fd).mono (fun i hi => hi.elim)⟩ (fun hHeld => ?_)
            refine pure_ (i := 0) (N := some 66) (v := ?_) (a' := ?_) #[true, false, false, false, false, false, false, false, false, false, false, false, false, false] rfl rfl (by kernel_rfl) (fun _ _ _ h => h) (Or.inl ⟨by rfl, ?_⟩) ?_ ?_
            rotate_left
            · intro w'; go_simp; with_reducible rfl
            rotate_left
            · simp only [Act.put, List.setIfInBounds_toArray, List.set_cons_zero, List.set_cons_succ]; rfl
            refine pure_ (i := 1) (N := some 67) (v := ?_) (a' := ?_) #[true, true, false, false, false, false, false, false, false, false, false, false, false, false] rfl rfl (by kernel_rfl) (fun _ _ _ h => h) (Or.inl ⟨by rfl, ?_⟩) ?_ ?_
            rotate_left
            · intro w'; go_simp; with_reducible rfl
            rotate_left
            · simp only [Act.put, List.setIfInBounds_toArray, List.set_cons_zero, List.set_cons_succ]; rfl
            refine pure_ (i := 2) (N := some 68) (v := ?_) (a' := ?_) #[true, true, true, false, false, false, false, false, false, false, false, false, false, false] rfl rfl (by kernel_rfl) (fun _ _ _ h => h) (Or.inl ⟨by rfl, ?_⟩) ?_ ?_
            rotate_left
            · intro w'; go_simp; with_reducible rfl
            rotate_left
            · simp only [Act.put, List.setIfInBounds_toArray, List.set_cons_zero, List.set_cons_succ]; rfl
            refine pure_ (i := 4) (N := some 70) (v := ?_) (a' := ?_) #[true, true, true, false, true, false, false, false, false, false, false, false, false, false] rfl rfl (by kernel_rfl) (fun _ _ _ h => h) (Or.inl ⟨by rfl, ?_⟩) ?_ ?_
            rotate_left
            · intro w'; go_simp; with_reducible rfl
            rotate_left
            · simp only [Act.put, List.setIfInBounds_toArray, List.set_cons_zero, List.set_cons_succ]; rfl
            refine pure_ (i := 5) (N := some 71) (v := ?_) (a' := ?_) #[true, true, true, false, true, true, false, false, false, false, false, false, false, false] rfl rfl (by kernel_rfl) (fun _ _ _ h => h) (Or.inl ⟨by rfl, ?_⟩) ?_ ?_
            rotate_left
            · intro w'; go_simp; with_reducible rfl
            rotate_left
            · simp only [Act.put, List.setIfInBounds_toArray, List.set_cons_zero, List.set_cons_succ]; rfl
            refine pure_ (i := 6) (N := some 72) (v := ?_) (a' := ?_) #[true, true, true, false, true, true, true, false, false, false, false, false, false, false] rfl rfl (by kernel_rfl) (fun _ _ _ h => h) (Or.inl ⟨by rfl, ?_⟩) ?_ ?_
            rotate_left
            · intro w'; go_simp; with_reducible rfl
            rotate_left
            · simp only [Act.put, List.setIfInBounds_toArray, List.set_cons_zero, List.set_cons_succ]; rfl
            refine pure_ (i := 11) (N := some 77) (v := ?_) (a' := ?_) #[true, true, true, false, true, true, true, false, false, false, false, true, false, false] rfl rfl (by kernel_rfl) (fun _ _ _ h => h) (Or.inl ⟨by rfl, ?_⟩) ?_ ?_
            rotate_left
            · intro w'; go_simp; with_reducible rfl
            rotate_left
            · simp only [Act.put, List.setIfInBounds_toArray, List.set_cons_zero, List.set_cons_succ]; rfl
            refine take_ (i := 7) (N := some 73) (v := ?_) (a' := ?_) #[true, true, true, false, true, true, true, true, false, false, false, true, false, false] rfl rfl (by kernel_rfl) (fun _ _ _ h => h) (Or.inl ⟨by rfl, ?_⟩) hHeld ?_ ?_
            rotate_left
            · rintro w' ⟨s0, s1, s2, s3⟩; have q3 := s0.blk.at_ 3 rfl; have d2 := s1.at_ 2 rfl; go_simp; with_reducible rfl
            rotate_left
            · simp only [Act.put, List.setIfInBounds_toArray, List.set_cons_zero, List.set_cons_succ]; rfl
            refine take_ (i := 12) (N := some 78) (v := ?_) (a' := ?_) #[true, true, true, false, true, true, true, true, false, false, false, true, true, false] rfl rfl (by kernel_rfl) (fun _ _ _ h => h) (Or.inl ⟨by rfl, ?_⟩) hHeld ?_ ?_
            rotate_left
            · rintro w' ⟨s0, s1, s2, s3⟩; have q3 := s0.blk.at_ 3 rfl; have d2 := s1.at_ 2 rfl; go_simp; with_reducible rfl
            rotate_left
            · simp only [Act.put, List.setIfInBounds_toArray, List.set_cons_zero, List.set_cons_succ]; rfl
            refine one_ (i := 3) (N := some 69) #[true, true, true, true, true, true, true, true, false, false, false, true, true, false] rfl rfl (by kernel_rfl) (by decide) (fun K hK => ?_)
            refine goes_ Try.func31 (by kernel_rfl) rfl #[.pointer (some ⟨g, 1, none⟩)] (by rfl) rfl rfl (by simp only [List.map_toArray, List.map_cons, List.map_nil]; rfl) ?_; have HV3 := ownF_ne hHeld.1.own hHeld.2.1 (by decide); have HV4 := ownF_ne hHeld.1.own hHeld.2.2.1 (by decide); refine (string_in hHeld.1 HNE.out).mono ?_; rintro e wq ⟨rfl, B9, f9⟩; refine ⟨_, rfl, hK.out _ _ ⟨B9, hHeld.2.1.keep f9 (fun hh => HV3 hh), hHeld.2.2.1.keep f9 (fun hh => HV4 hh), hHeld.2.2.2.trans f9 (fun i hi => .inl (.inr hi))⟩ (fun hHeld => ?_)⟩
            clear hK K
            refine norm_ (a' := ?_) ?_ ?_
            rotate_left
            · simp only [Act.put, List.setIfInBounds_toArray, List.set_cons_zero, List.set_cons_succ]; rfl
            refine pure_ (i := 8) (N := some 74) (v := ?_) (a' := ?_) #[true, true, true, true, true, true, true, true, true, false, false, true, true, false] rfl rfl (by kernel_rfl) (fun _ _ _ h => h) (Or.inl ⟨by rfl, ?_⟩) ?_ ?_
            rotate_left
            · intro w'; go_simp; with_reducible rfl
            rotate_left
            · simp only [Act.put, List.setIfInBounds_toArray, List.set_cons_zero, List.set_cons_succ]; rfl
            refine one_ (i := 9) (N := some 75) #[true, true, true, true, true, true, true, true, true, true, false, true, true, false] rfl rfl (by kernel_rfl) (by decide) (fun K hK => ?_)
            refine step_lit (N := some 75) rfl rfl 9 [.string (bs hd)] 1 (by first | (go_simp; done) | (go_simp; rfl)) ?_; intro gl wl hgl fl bl; refine hK.out _ _ ⟨hHeld.1.no fl, hHeld.2.1.no fl, hHeld.2.2.1.no fl, hHeld.2.2.2.no fl⟩ (fun hHeld => ?_)
            clear hK K
            refine norm_ (a' := ?_) ?_ ?_
            rotate_left
            · simp only [Act.put, List.setIfInBounds_toArray, List.set_cons_zero, List.set_cons_succ]; rfl
            refine one_ (i := 10) (N := some 76) #[true, true, true, true, true, true, true, true, true, true, true, true, true, false] rfl rfl (by kernel_rfl) (by decide) (fun K hK => ?_)
            refine goes_ Try.func30 (by kernel_rfl) rfl #[.slice (some ⟨gl, 0, none⟩) 1 1] (by rfl) rfl rfl (by simp only [List.map_toArray, List.map_cons, List.map_nil]; rfl) ?_; refine (CD.out _ gl bl).mono ?_; rintro e wq2 ⟨rfl, f9⟩; refine ⟨_, rfl, hK.out _ _ ⟨hHeld.1.no f9, hHeld.2.1.no f9, hHeld.2.2.1.no f9, hHeld.2.2.2.no f9⟩ (fun hHeld => ?_)⟩
            clear hK K
            refine norm_ (a' := ?_) ?_ ?_
            rotate_left
            · simp only [Act.put, List.setIfInBounds_toArray, List.set_cons_zero, List.set_cons_succ]; rfl
            refine pure_ (i := 13) (N := some 79) (v := ?_) (a' := ?_) #[true, true, true, true, true, true, true, true, true, true, true, true, true, true] rfl rfl (by kernel_rfl) (fun _ _ _ h => h) (Or.inl ⟨by rfl, ?_⟩) ?_ ?_
            rotate_left
            · intro w'; go_simp; with_reducible rfl
            rotate_left
            · simp only [Act.put, List.setIfInBounds_toArray, List.set_cons_zero, List.set_cons_succ]; rfl
            refine done_ (by kernel_rfl) ?_
            skip
            obtain ⟨BB, b3, b4, F⟩ := hHeld
            simp only [Exit.then]
            refine ‹∀ (a : Act) (w : World), Code.wp Try.prog _ _ a w → _› _ _ ?_
            go_wp2_with (first
              | ((with_reducible refine gate_store (t := 4) (p := 83) rfl ?_); go_must (refine ev_store rfl 4 _ _ rfl g 5 (.bool true) rfl rfl rfl 96 _ BB.blk (by simp) sizeBool ?_); intro w8 f8 b8; have b4 := b4.one f8 (Ne.symm ng4); have BB := BB.put f8 b8 (by decide) (by decide); have F := F.trans f8 (fun i hi => .inl (.inl hi)))
              | ((with_reducible refine gate_store (t := 60) (p := 4) rfl ?_); go_must (refine ev_store_row rfl 60 _ _ rfl g4 (stL 2 zeroH zeroC).toArray rfl rfl 60 _ b4 sizeStep rfl (stL_one _ _ _) ?_); intro wZ fZ bZ; have BB := BB.keep fZ ng4 nv4; have F := F.one fZ (.inr hW4)))
            (refine bodyPost_ret (results_row_tmp rfl _ _ g4 _ _ _ rfl bZ Try.underlying60 rfl sizeStep) rfl ⟨rfl, BB, F⟩)
          · rw [if_neg hD] at hR
            subst hR
            have hx1 : (D == xp) = false := by rw [beq_eq_false_iff_ne]; exact hD
            have hx2 : (D != xp) = true := by rw [bne_iff_ne]; exact hD
            have hx3 : decide (D = xp) = false := decide_eq_false hD
            have hx4 : ((bs D).toList == (bs xp).toList) = false := by rw [beq_eq_false_iff_ne]; simpa [bs, ByteArray.toList_eq] using hD
            go_enter Try.func40, Try.ntmps40
            go_wp2_with (first
              | ((with_reducible refine gate_dst (N := 3) rfl ?_); go_must (refine ev_box rfl 77 _ rfl _ rfl (rcL 2 xq (bs xp)) rfl ?_); intro g3 w3 hg3 f3 b3; have BB := BB.no f3; have F := f3; have d0 := b3.at_ 0 rfl; have d2 := b3.at_ 2 rfl)
              | ((with_reducible refine gate_dst (N := 4) rfl ?_); go_must (refine ev_alloc rfl 60 rfl _ (stL 0 zeroH zeroC) zeroStep rfl ?_); intro g4 w4 hg4 f4 b4; have n34 : g3 ≠ g4 := Nat.ne_of_lt (Nat.lt_of_lt_of_le b3.lt hg4); have b3 := b3.no f4; have ng4 : g ≠ g4 := Nat.ne_of_lt (Nat.lt_of_lt_of_le BB.blk.lt hg4); have nv4 : ∀ k, v.ownBlock = some k → ¬ k = g4 := (fun k hk e => by have := (BB.own.lt k hk).2; have := hg4; omega); have BB := BB.no f4; have hW4 : W.heap.size ≤ g4 := Nat.le_trans F.size hg4; have F := F.no f4; have d0 := b3.at_ 0 rfl; have d2 := b3.at_ 2 rfl; have q3 := BB.blk.at_ 3 rfl; have q4 := BB.blk.at_ 4 rfl; have q5 := BB.blk.at_ 5 rfl))
            go_quiet (fail)
            have BB := BB.no ((Fr.refl No w4).drewN nq)
            have b4 := b4.drewN nq
            have b3 := b3.drewN nq
            have F := F.drewN nq
            go_wp2_with fail
            have fd := (Fr.refl No (w4.drewN nq)).drew
            refine start_ (n := 14) (S := (fun w'' : World => Bf w'' base g 1 96 (rL gr p v tk true false er) v all ∧ Blk w'' g3 77 (rcL 2 xq (bs xp)) ∧ Blk w'' g4 60 (stL 0 zeroH zeroC) ∧ Fr (fun k => k = g ∨ Own v k) W w'')) (ds := []) #[false, false, false, false, false, false, false, false, false, false, false, false, false, false] (by kernel_rfl) rfl rfl ⟨BB.no fd, b3.no fd, b4.no fd, (F.no fd).mono (fun i hi => hi.elim)⟩ (fun hHeld => ?_)
            refine pure_ (i := 0) (N := some 66) (v := ?_) (a' := ?_) #[true, false, false, false, false, false, false, false, false, false, false, false, false, false] rfl rfl (by kernel_rfl) (fun _ _ _ h => h) (Or.inl ⟨by rfl, ?_⟩) ?_ ?_
            rotate_left
            · intro w'; go_simp; with_reducible rfl
            rotate_left
            · simp only [Act.put, List.setIfInBounds_toArray, List.set_cons_zero, List.set_cons_succ]; rfl
            refine pure_ (i := 1) (N := some 67) (v := ?_) (a' := ?_) #[true, true, false, false, false, false, false, false, false, false, false, false, false, false] rfl rfl (by kernel_rfl) (fun _ _ _ h => h) (Or.inl ⟨by rfl, ?_⟩) ?_ ?_
            rotate_left
            · intro w'; go_simp; with_reducible rfl
            rotate_left
            · simp only [Act.put, List.setIfInBounds_toArray, List.set_cons_zero, List.set_cons_succ]; rfl
            refine pure_ (i := 2) (N := some 68) (v := ?_) (a' := ?_) #[true, true, true, false, false, false, false, false, false, false, false, false, false, false] rfl rfl (by kernel_rfl) (fun _ _ _ h => h) (Or.inl ⟨by rfl, ?_⟩) ?_ ?_
            rotate_left
            · intro w'; go_simp; with_reducible rfl
            rotate_left
            · simp only [Act.put, List.setIfInBounds_toArray, List.set_cons_zero, List.set_cons_succ]; rfl
            refine pure_ (i := 4) (N := some 70) (v := ?_) (a' := ?_) #[true, true, true, false, true, false, false, false, false, false, false, false, false, false] rfl rfl (by kernel_rfl) (fun _ _ _ h => h) (Or.inl ⟨by rfl, ?_⟩) ?_ ?_
            rotate_left
            · intro w'; go_simp; with_reducible rfl
            rotate_left
            · simp only [Act.put, List.setIfInBounds_toArray, List.set_cons_zero, List.set_cons_succ]; rfl
            refine pure_ (i := 5) (N := some 71) (v := ?_) (a' := ?_) #[true, true, true, false, true, true, false, false, false, false, false, false, false, false] rfl rfl (by kernel_rfl) (fun _ _ _ h => h) (Or.inl ⟨by rfl, ?_⟩) ?_ ?_
            rotate_left
            · intro w'; go_simp; with_reducible rfl
            rotate_left
            · simp only [Act.put, List.setIfInBounds_toArray, List.set_cons_zero, List.set_cons_succ]; rfl
            refine pure_ (i := 6) (N := some 72) (v := ?_) (a' := ?_) #[true, true, true, false, true, true, true, false, false, false, false, false, false, false] rfl rfl (by kernel_rfl) (fun _ _ _ h => h) (Or.inl ⟨by rfl, ?_⟩) ?_ ?_
            rotate_left
            · intro w'; go_simp; with_reducible rfl
            rotate_left
            · simp only [Act.put, List.setIfInBounds_toArray, List.set_cons_zero, List.set_cons_succ]; rfl
            refine pure_ (i := 11) (N := some 77) (v := ?_) (a' := ?_) #[true, true, true, false, true, true, true, false, false, false, false, true, false, false] rfl rfl (by kernel_rfl) (fun _ _ _ h => h) (Or.inl ⟨by rfl, ?_⟩) ?_ ?_
            rotate_left
            · intro w'; go_simp; with_reducible rfl
            rotate_left
            · simp only [Act.put, List.setIfInBounds_toArray, List.set_cons_zero, List.set_cons_succ]; rfl
            refine take_ (i := 7) (N := some 73) (v := ?_) (a' := ?_) #[true, true, true, false, true, true, true, true, false, false, false, true, false, false] rfl rfl (by kernel_rfl) (fun _ _ _ h => h) (Or.inl ⟨by rfl, ?_⟩) hHeld ?_ ?_
            rotate_left
            · rintro w' ⟨s0, s1, s2, s3⟩; have q3 := s0.blk.at_ 3 rfl; have d2 := s1.at_ 2 rfl; go_simp; with_reducible rfl
            rotate_left
            · simp only [Act.put, List.setIfInBounds_toArray, List.set_cons_zero, List.set_cons_succ]; rfl
            refine take_ (i := 12) (N := some 78) (v := ?_) (a' := ?_) #[true, true, true, false, true, true, true, true, false, false, false, true, true, false] rfl rfl (by kernel_rfl) (fun _ _ _ h => h) (Or.inl ⟨by rfl, ?_⟩) hHeld ?_ ?_
            rotate_left
            · rintro w' ⟨s0, s1, s2, s3⟩; have q3 := s0.blk.at_ 3 rfl; have d2 := s1.at_ 2 rfl; go_simp; with_reducible rfl
            rotate_left
            · simp only [Act.put, List.setIfInBounds_toArray, List.set_cons_zero, List.set_cons_succ]; rfl
            refine one_ (i := 3) (N := some 69) #[true, true, true, true, true, true, true, true, false, false, false, true, true, false] rfl rfl (by kernel_rfl) (by decide) (fun K hK => ?_)
            refine goes_ Try.func31 (by kernel_rfl) rfl #[.pointer (some ⟨g, 1, none⟩)] (by rfl) rfl rfl (by simp only [List.map_toArray, List.map_cons, List.map_nil]; rfl) ?_; have HV3 := ownF_ne hHeld.1.own hHeld.2.1 (by decide); have HV4 := ownF_ne hHeld.1.own hHeld.2.2.1 (by decide); refine (string_in hHeld.1 HNE.out).mono ?_; rintro e wq ⟨rfl, B9, f9⟩; refine ⟨_, rfl, hK.out _ _ ⟨B9, hHeld.2.1.keep f9 (fun hh => HV3 hh), hHeld.2.2.1.keep f9 (fun hh => HV4 hh), hHeld.2.2.2.trans f9 (fun i hi => .inl (.inr hi))⟩ (fun hHeld => ?_)⟩
            clear hK K
            refine norm_ (a' := ?_) ?_ ?_
            rotate_left
            · simp only [Act.put, List.setIfInBounds_toArray, List.set_cons_zero, List.set_cons_succ]; rfl
            refine pure_ (i := 8) (N := some 74) (v := ?_) (a' := ?_) #[true, true, true, true, true, true, true, true, true, false, false, true, true, false] rfl rfl (by kernel_rfl) (fun _ _ _ h => h) (Or.inl ⟨by rfl, ?_⟩) ?_ ?_
            rotate_left
            · intro w'; go_simp; with_reducible rfl
            rotate_left
            · simp only [Act.put, List.setIfInBounds_toArray, List.set_cons_zero, List.set_cons_succ]; rfl
            refine one_ (i := 9) (N := some 75) #[true, true, true, true, true, true, true, true, true, true, false, true, true, false] rfl rfl (by kernel_rfl) (by decide) (fun K hK => ?_)
            refine step_lit (N := some 75) rfl rfl 9 [.string (bs hd)] 1 (by first | (go_simp; done) | (go_simp; rfl)) ?_; intro gl wl hgl fl bl; refine hK.out _ _ ⟨hHeld.1.no fl, hHeld.2.1.no fl, hHeld.2.2.1.no fl, hHeld.2.2.2.no fl⟩ (fun hHeld => ?_)
            clear hK K
            refine norm_ (a' := ?_) ?_ ?_
            rotate_left
            · simp only [Act.put, List.setIfInBounds_toArray, List.set_cons_zero, List.set_cons_succ]; rfl
            refine one_ (i := 10) (N := some 76) #[true, true, true, true, true, true, true, true, true, true, true, true, true, false] rfl rfl (by kernel_rfl) (by decide) (fun K hK => ?_)
            refine goes_ Try.func30 (by kernel_rfl) rfl #[.slice (some ⟨gl, 0, none⟩) 1 1] (by rfl) rfl rfl (by simp only [List.map_toArray, List.map_cons, List.map_nil]; rfl) ?_; refine (CD.out _ gl bl).mono ?_; rintro e wq2 ⟨rfl, f9⟩; refine ⟨_, rfl, hK.out _ _ ⟨hHeld.1.no f9, hHeld.2.1.no f9, hHeld.2.2.1.no f9, hHeld.2.2.2.no f9⟩ (fun hHeld => ?_)⟩
            clear hK K
            refine norm_ (a' := ?_) ?_ ?_
            rotate_left
            · simp only [Act.put, List.setIfInBounds_toArray, List.set_cons_zero, List.set_cons_succ]; rfl
            refine pure_ (i := 13) (N := some 79) (v := ?_) (a' := ?_) #[true, true, true, true, true, true, true, true, true, true, true, true, true, true] rfl rfl (by kernel_rfl) (fun _ _ _ h => h) (Or.inl ⟨by rfl, ?_⟩) ?_ ?_
            rotate_left
            · intro w'; go_simp; with_reducible rfl
            rotate_left
            · simp only [Act.put, List.setIfInBounds_toArray, List.set_cons_zero, List.set_cons_succ]; rfl
            refine done_ (by kernel_rfl) ?_
            skip
            obtain ⟨BB, b3, b4, F⟩ := hHeld
            simp only [Exit.then]
            refine ‹∀ (a : Act) (w : World), Code.wp Try.prog _ _ a w → _› _ _ ?_
            go_wp2_with (first
              | ((with_reducible refine gate_store (t := 60) (p := 4) rfl ?_); go_must (refine ev_store_row rfl 60 _ _ rfl g4 (stL 0 zeroH zeroC).toArray rfl rfl 60 _ b4 sizeStep rfl (stL_one _ _ _) ?_); intro wZ fZ bZ; have BB := BB.keep fZ ng4 nv4; have F := F.one fZ (.inr hW4)))
            (refine bodyPost_ret (results_row_tmp rfl _ _ g4 _ _ _ rfl bZ Try.underlying60 rfl sizeStep) rfl ⟨rfl, BB, F⟩)
        · rw [if_neg hk2] at hR
          have hk11 : 11 ≤ x.kind ∧ x.kind ≤ 20 := by omega
          have hb1 : ((x.kind : Int) != 1) = true := by rw [bne_iff_ne]; omega
          have hb2 : ((x.kind : Int) != 2) = true := by rw [bne_iff_ne]; omega
          have hb3 : decide ((x.kind : Int) ≤ 10) = false := decide_eq_false (by omega)
          have hb4 : decide (20 < (x.kind : Int)) = false := decide_eq_false (by omega)
          have hb5 : ((x.kind : Int) == 1) = false := by rw [beq_eq_false_iff_ne]; omega
          have hb6 : ((x.kind : Int) == 2) = false := by rw [beq_eq_false_iff_ne]; omega
          have CQ := Kp.mk (fun w' => cparse_any ((x.kind : Int) - 10) x.pay hxp w')
          obtain ⟨pc, hpc⟩ : ∃ pc, parseC ((x.kind : Int) - 10) x.pay = pc := ⟨_, rfl⟩
          rw [hpc] at CQ hR
          clear hpc hc
          cases pc with
          | none =>
            subst hR
            go_enter Try.func40, Try.ntmps40
            go_wp2_with (first
              | ((with_reducible refine gate_dst (N := 3) rfl ?_); go_must (refine ev_box rfl 77 _ rfl _ rfl (rcL x.kind x.seq (bs x.pay)) rfl ?_); intro g3 w3 hg3 f3 b3; have BB := BB.no f3; have F := f3; have d0 := b3.at_ 0 rfl; have d2 := b3.at_ 2 rfl)
              | ((with_reducible refine gate_dst (N := 4) rfl ?_); go_must (refine ev_alloc rfl 60 rfl _ (stL 0 zeroH zeroC) zeroStep rfl ?_); intro g4 w4 hg4 f4 b4; have n34 : g3 ≠ g4 := Nat.ne_of_lt (Nat.lt_of_lt_of_le b3.lt hg4); have b3 := b3.no f4; have ng4 : g ≠ g4 := Nat.ne_of_lt (Nat.lt_of_lt_of_le BB.blk.lt hg4); have nv4 : ∀ k, v.ownBlock = some k → ¬ k = g4 := (fun k hk e => by have := (BB.own.lt k hk).2; have := hg4; omega); have BB := BB.no f4; have hW4 : W.heap.size ≤ g4 := Nat.le_trans F.size hg4; have F := F.no f4; have d0 := b3.at_ 0 rfl; have d2 := b3.at_ 2 rfl; have q3 := BB.blk.at_ 3 rfl; have q4 := BB.blk.at_ 4 rfl; have q5 := BB.blk.at_ 5 rfl))
            go_quiet (fail)
            have BB := BB.no ((Fr.refl No w4).drewN nq)
            have b4 := b4.drewN nq
            have b3 := b3.drewN nq
            have F := F.drewN nq
            go_wp2_with (first
              | (go_at_call 61; go_must (refine (CQ.out _).mono ?_); rintro e w5 ⟨rfl, f5⟩; have BB := BB.no f5; have b4 := b4.no f5; have F := F.no f5)
              | ((with_reducible refine gate_dst (N := 8) rfl ?_); go_must (refine ev_alloc rfl 58 rfl _ (cmL zeroC) zeroCmd rfl ?_); intro g8 w6 hg8 f6 b8; have n48 : g4 ≠ g8 := Nat.ne_of_lt (Nat.lt_of_lt_of_le b4.lt hg8); have ng8 : g ≠ g8 := Nat.ne_of_lt (Nat.lt_of_lt_of_le BB.blk.lt hg8); have nv8 : ∀ k, v.ownBlock = some k → ¬ k = g8 := (fun k hk e => by have := (BB.own.lt k hk).2; have := hg8; omega); have BB := BB.no f6; have b4 := b4.no f6; have hW8 : W.heap.size ≤ g8 := Nat.le_trans F.size hg8; have F := F.no f6)
              | ((with_reducible refine gate_store (t := 58) (p := 8) rfl ?_); go_must (refine ev_store_row rfl 58 _ _ rfl g8 (cmL zeroC).toArray rfl rfl 58 _ b8 sizeCmd rfl (cmL_one _) ?_); intro w7 f7 b7; have BB := BB.keep f7 ng8 nv8; have b4 := b4.one f7 n48; have F := F.one f7 (.inr hW8))
              | ((with_reducible refine gate_store (t := 60) (p := 4) rfl ?_); go_must (refine ev_store_row rfl 60 _ _ rfl g4 (stL 0 zeroH zeroC).toArray rfl rfl 60 _ b4 sizeStep rfl (stL_one _ _ _) ?_); intro wZ fZ bZ; have BB := BB.keep fZ ng4 nv4; have F := F.one fZ (.inr hW4)))
            (refine bodyPost_ret (results_row_tmp rfl _ _ g4 _ _ _ rfl bZ Try.underlying60 rfl sizeStep) rfl ⟨rfl, BB, F.mono (fun i hi => hi.elim)⟩)
          | some c =>
            subst hR
            go_enter Try.func40, Try.ntmps40
            go_wp2_with (first
              | ((with_reducible refine gate_dst (N := 3) rfl ?_); go_must (refine ev_box rfl 77 _ rfl _ rfl (rcL x.kind x.seq (bs x.pay)) rfl ?_); intro g3 w3 hg3 f3 b3; have BB := BB.no f3; have F := f3; have d0 := b3.at_ 0 rfl; have d2 := b3.at_ 2 rfl)
              | ((with_reducible refine gate_dst (N := 4) rfl ?_); go_must (refine ev_alloc rfl 60 rfl _ (stL 0 zeroH zeroC) zeroStep rfl ?_); intro g4 w4 hg4 f4 b4; have n34 : g3 ≠ g4 := Nat.ne_of_lt (Nat.lt_of_lt_of_le b3.lt hg4); have b3 := b3.no f4; have ng4 : g ≠ g4 := Nat.ne_of_lt (Nat.lt_of_lt_of_le BB.blk.lt hg4); have nv4 : ∀ k, v.ownBlock = some k → ¬ k = g4 := (fun k hk e => by have := (BB.own.lt k hk).2; have := hg4; omega); have BB := BB.no f4; have hW4 : W.heap.size ≤ g4 := Nat.le_trans F.size hg4; have F := F.no f4; have d0 := b3.at_ 0 rfl; have d2 := b3.at_ 2 rfl; have q3 := BB.blk.at_ 3 rfl; have q4 := BB.blk.at_ 4 rfl; have q5 := BB.blk.at_ 5 rfl))
            go_quiet (fail)
            have BB := BB.no ((Fr.refl No w4).drewN nq)
            have b4 := b4.drewN nq
            have b3 := b3.drewN nq
            have F := F.drewN nq
            go_wp2_with (first
              | (go_at_call 61; go_must (refine (CQ.out _).mono ?_); rintro e w5 ⟨rfl, f5⟩; have BB := BB.no f5; have b4 := b4.no f5; have F := F.no f5)
              | ((with_reducible refine gate_dst (N := 8) rfl ?_); go_must (refine ev_alloc rfl 58 rfl _ (cmL zeroC) zeroCmd rfl ?_); intro g8 w6 hg8 f6 b8; have n48 : g4 ≠ g8 := Nat.ne_of_lt (Nat.lt_of_lt_of_le b4.lt hg8); have ng8 : g ≠ g8 := Nat.ne_of_lt (Nat.lt_of_lt_of_le BB.blk.lt hg8); have nv8 : ∀ k, v.ownBlock = some k → ¬ k = g8 := (fun k hk e => by have := (BB.own.lt k hk).2; have := hg8; omega); have BB := BB.no f6; have b4 := b4.no f6; have hW8 : W.heap.size ≤ g8 := Nat.le_trans F.size hg8; have F := F.no f6)
              | ((with_reducible refine gate_store (t := 58) (p := 8) rfl ?_); go_must (refine ev_store_row rfl 58 _ _ rfl g8 (cmL c).toArray rfl rfl 58 _ b8 sizeCmd rfl (cmL_one _) ?_); intro w7 f7 b7; have b7 : Blk w7 g8 58 (cmL c) := b7; have BB := BB.keep f7 ng8 nv8; have b4 := b4.one f7 n48; have F := F.one f7 (.inr hW8))
              | ((with_reducible refine gate_dst (N := 97) rfl ?_); go_must (refine ev_load_row rfl 58 _ rfl g8 rfl 58 _ b7 _ Try.underlying58 rfl sizeCmd ?_))
              | ((with_reducible refine gate_store (t := 60) (p := 4) rfl ?_); go_must (refine ev_store_row rfl 60 _ _ rfl g4 (stL 3 zeroH c).toArray rfl rfl 60 _ b4 sizeStep rfl (stL_one _ _ _) ?_); intro wZ fZ bZ; have BB := BB.keep fZ ng4 nv4; have F := F.one fZ (.inr hW4)))
            (refine bodyPost_ret (results_row_tmp rfl _ _ g4 _ _ _ rfl bZ Try.underlying60 rfl sizeStep) rfl ⟨rfl, BB, F.mono (fun i hi => hi.elim)⟩)
end Go.Proofs.Ytioohhekamjljaa.Wk

/- wire's Reader.Feed. Conditions: sizes are bounded, as written out. -/
set_option linter.unusedSimpArgs false
set_option linter.unusedVariables false
namespace Go.Proofs.Ytioohhekamjljaa.Wk
open Go Go.RowKit Go.Proofs.YtioohhekamjljaaW.PrintWords Go.Proofs.YtioohhekamjljaaW.PrintLast Go.Proofs.Ytioohhekamjljaa.Ev Go.Proofs.Ytioohhekamjljaa.Reg Go.Proofs.Ytioohhekamjljaa.Sha Go.Proofs.Ytioohhekamjljaa.Sb Go.Proofs.Ytioohhekamjljaa.Crc Go.Proofs.Ytioohhekamjljaa.Wi

/-- Steps' cells. -/
def stepsL (l : List St) : List Value := l.flatMap stepL
theorem stepL_len (y : St) : (stepL y).length = 12 := by cases y <;> rfl
theorem stepL_all (y : St) : ∀ u ∈ stepL y, u.oneCell' = true := by
  have h : ∀ k h c, ∀ u ∈ stL k h c, u.oneCell' = true := by
    intro k h c u hu
    simp only [stL, hdL, cmL, List.cons_append, List.nil_append, List.mem_cons, List.not_mem_nil, or_false] at hu
    rcases hu with rfl | rfl | rfl | rfl | rfl | rfl | rfl | rfl | rfl | rfl | rfl | rfl <;> rfl
  cases y
  · exact h _ _ _
  · exact h _ _ _
  · exact h _ _ _
theorem stepL_one (y : St) : (stepL y).toArray.all (·.oneCell') = true := by
  cases y
  · exact stL_one _ _ _
  · exact stL_one _ _ _
  · exact stL_one _ _ _
theorem stepsL_snoc (l : List St) (y : St) : stepsL (l ++ [y]) = stepsL l ++ stepL y := by simp [stepsL]
theorem stepsL_len (l : List St) : (stepsL l).length = l.length * 12 := by
  induction l with
  | nil => rfl
  | cons x l ih =>
    have : stepsL (x :: l) = stepL x ++ stepsL l := rfl
    rw [this, List.length_append, ih, stepL_len]
    simp
    omega
theorem infoStep : (Try.prog.info? 60).map (fun i => (i.zero, i.size, i.bytes)) = some (some (.agg (stL 0 zeroH zeroC).toArray), 12, 128) := by kernel_rfl
theorem rcs_at : ∀ (L : List Rc) (i j : Nat) (x : Rc), L[i]? = some x → j < 3 → (rcsL L)[i * 3 + j]? = (rcL x.kind x.seq (bs x.pay))[j]?
  | [], i, j, x, h, _ => by simp at h
  | y :: L, 0, j, x, h, hj => by
    simp at h
    subst h
    rw [Nat.zero_mul, Nat.zero_add]
    show (rcL y.kind y.seq (bs y.pay) ++ rcsL L)[j]? = _
    rw [List.getElem?_append_left (by simpa using hj)]
  | y :: L, i + 1, j, x, h, hj => by
    have ih := rcs_at L i j x (by simpa using h) hj
    show (rcL y.kind y.seq (bs y.pay) ++ rcsL L)[(i + 1) * 3 + j]? = _
    rw [List.getElem?_append_right (by simp; omega)]
    rw [← ih]
    congr 1
    simp
    omega
theorem own_apart {w : World} {base base' size n m : Nat} {e : TypeId} {v v1 : Value} {cs xs : List Value} (h : w.ownsRow base e size v n cs) (h' : w.ownsRowF base' 5 1 v1 m xs) (he : e ≠ 5) : ∀ k, v.ownBlock = some k → ¬ Own v1 k := by
  intro k hk hh
  obtain ⟨cells, hc⟩ := own_typed h k hk
  rcases h'.2 with ⟨rfl, _⟩ | ⟨g', cap, cur, fz, rfl, _, hg, _⟩
  · simp [Own, Value.ownBlock] at hh
  · simp [Own, Value.ownBlock] at hh
    subst hh
    rw [hc] at hg
    injection hg with hg
    injection hg with _ h2 _
    exact he h2
theorem recs_le : ∀ (k n : Nat) (s : B), s.length ≤ k → (flatR (recs n s).1).length ≤ s.length
  | k, n, s, hk => by
    cases hp : parseT s with
    | none => rw [recs_none hp]; exact Nat.zero_le _
    | err e => rw [recs_err hp]; exact Nat.zero_le _
    | got x t =>
      by_cases hn : x.seq = n
      · have hs := got_shorter hp
        rw [recs_got hp hn]
        match k, hk with
        | 0, hk => exact absurd hk (by omega)
        | k + 1, hk =>
          have ih := recs_le k (n + 1) t (by omega)
          have e := (rec_parse hp).2
          show (recB x ++ flatR (recs (n + 1) t).1).length ≤ _
          rw [List.length_append, e, List.length_append]
          omega
      · rw [recs_other hp hn]; exact Nat.zero_le _
/-- A reader in memory: where it lies, what it holds. -/
structure RdM (w : World) (base g gr : Nat) (R : Rd) (p v : Value) (te : Int) : Prop where
  bf : Bf w base g 1 96 (rL gr p v R.d.at_ R.d.begun R.d.over (R.err : Int)) v R.all
  rd : Blk w gr 124 (rdL R.wait (R.next : Int) te)
  te : R.err = 0 → te = 0
/-- What is so of each reader that has no error. -/
structure OkRd (R : Rd) : Prop where
  at_ : R.d.at_ + R.wait.length ≤ R.all.length
  bg : R.d.begun = true → R.all ≠ []
  wr : R.d.wrong = 0
  nx : R.next ≤ R.all.length
  al : R.all.length ≤ 65536
theorem rise_ok : ∀ {n : Nat} {l : List Rc}, Rise n l → ∀ x ∈ l, OkR x
  | _, _, .nil _, x, h => by simp at h
  | _, _, .cons h1 _ h3, x, h => by
    rcases List.mem_cons.1 h with rfl | h
    · exact h1
    · exact rise_ok h3 x h
theorem flat_ge : ∀ l : List Rc, l.length ≤ (flatR l).length
  | [] => Nat.le_refl _
  | x :: l => by
    have := flat_ge l
    rw [show flatR (x :: l) = recB x ++ flatR l from rfl, List.length_append, rec_len, List.length_cons]
    omega
/-- What is so where the loop over the records stands. -/
structure InvF (W w : World) (base g gr : Nat) (R : Rd) (all wt : B) (e0 : Nat) (v : Value) (L : List Rc) (i : Nat) (out : List St) (d : Sd) (Ao Al : Option Addr) (co cl : Nat) (p1 v1 : Value) : Prop where
  len : out.length = i
  eq : stepsP dg all R.d L = (out ++ (stepsP dg all d (L.drop i)).1, (stepsP dg all d (L.drop i)).2)
  wr : d.wrong = 0
  at_ : d.at_ + (flatR (L.drop i)).length ≤ all.length
  bg : d.begun = true → all ≠ []
  bf : Bf w base g 1 96 (rL gr p1 v1 d.at_ d.begun d.over 0) v1 all
  rd : Blk w gr 124 (rdL wt ((R.next + L.length : Nat) : Int) (e0 : Int))
  rowL : w.ownsRow W.heap.size 77 3 (.slice Al L.length cl) L.length (rcsL L)
  rowO : w.ownsRow W.heap.size 60 12 (.slice Ao i co) i (stepsL out)
  fr : Fr (fun k => k = g ∨ k = gr ∨ Own v k) W w
  at1 : v1.ownBlock = v.ownBlock ∨ ∃ k, v1.ownBlock = some k ∧ W.heap.size ≤ k
theorem at1_own {W : World} {v v1 : Value} (h : v1.ownBlock = v.ownBlock ∨ ∃ k, v1.ownBlock = some k ∧ W.heap.size ≤ k) {k : Nat} (hk : Own v1 k) : Own v k ∨ W.heap.size ≤ k := by
  rcases h with h | ⟨q, h, hq⟩
  · exact .inl (h.symm.trans hk)
  · have : some q = some k := h.symm.trans hk
    injection this with this
    exact .inr (this ▸ hq)
/-- The loop's facts behind a step, the reader's own cells let open. -/
structure InvG (W w : World) (base g gr : Nat) (R : Rd) (all wt : B) (e0 : Nat) (v : Value) (L : List Rc) (i : Nat) (out : List St) (tk : Nat) (bg ov : Bool) (er : Int) (Ao Al : Option Addr) (co cl : Nat) (p1 v1 : Value) : Prop where
  bf : Bf w base g 1 96 (rL gr p1 v1 tk bg ov er) v1 all
  rd : Blk w gr 124 (rdL wt ((R.next + L.length : Nat) : Int) (e0 : Int))
  rowL : w.ownsRow W.heap.size 77 3 (.slice Al L.length cl) L.length (rcsL L)
  rowO : w.ownsRow W.heap.size 60 12 (.slice Ao i co) i (stepsL out)
  fr : Fr (fun k => k = g ∨ k = gr ∨ Own v k) W w
  at1 : v1.ownBlock = v.ownBlock ∨ ∃ k, v1.ownBlock = some k ∧ W.heap.size ≤ k
  gW : g < W.heap.size
theorem InvF.g {W w : World} {base g gr : Nat} {R : Rd} {all wt : B} {e0 : Nat} {v : Value} {L : List Rc} {i : Nat} {out : List St} {d : Sd} {Ao Al : Option Addr} {co cl : Nat} {p1 v1 : Value} (h : InvF W w base g gr R all wt e0 v L i out d Ao Al co cl p1 v1) (hg : g < W.heap.size) :
    InvG W w base g gr R all wt e0 v L i out d.at_ d.begun d.over 0 Ao Al co cl p1 v1 := ⟨h.bf, h.rd, h.rowL, h.rowO, h.fr, h.at1, hg⟩
section
variable {W w w' : World} {base g gr : Nat} {R : Rd} {all wt : B} {e0 : Nat} {v : Value} {L : List Rc} {i : Nat} {out : List St} {tk : Nat} {bg ov : Bool} {er : Int} {Ao Al : Option Addr} {co cl : Nat} {p1 v1 : Value}
/-- A step: the reader's block and its bytes' row alone. -/
theorem InvG.step {bg' ov' : Bool} (h : InvG W w base g gr R all wt e0 v L i out tk bg ov er Ao Al co cl p1 v1) (b : Bf w' base g 1 96 (rL gr p1 v1 tk bg' ov' er) v1 all) (f : Fr (fun k => k = g ∨ Own v1 k) w w') : InvG W w' base g gr R all wt e0 v L i out tk bg' ov' er Ao Al co cl p1 v1 :=
  ⟨b, h.rd.keep f (fun hh => by
      rcases hh with hh | hh
      · exact h.bf.blk.ne h.rd (by decide) hh.symm
      · exact ownF_ne h.bf.own h.rd (by decide) hh),
    own_keep h.rowL f (fun k hk hh => by
      rcases hh with hh | hh
      · have := own_base h.rowL k hk
        have := h.gW
        omega
      · exact own_apart h.rowL h.bf.own (by decide) k hk hh),
    own_keep h.rowO f (fun k hk hh => by
      rcases hh with hh | hh
      · have := own_base h.rowO k hk
        have := h.gW
        omega
      · exact own_apart h.rowO h.bf.own (by decide) k hk hh),
    h.fr.trans f (fun k hk => by
      rcases hk with hk | hk
      · exact .inl (.inl hk)
      · rcases at1_own h.at1 hk with hq | hq
        · exact .inl (.inr (.inr hq))
        · exact .inr hq), h.at1, h.gW⟩
theorem InvG.no (h : InvG W w base g gr R all wt e0 v L i out tk bg ov er Ao Al co cl p1 v1) (f : Fr No w w') : InvG W w' base g gr R all wt e0 v L i out tk bg ov er Ao Al co cl p1 v1 :=
  ⟨h.bf.no f, h.rd.no f, own_no h.rowL f, own_no h.rowO f, h.fr.no f, h.at1, h.gW⟩
/-- A block that was made behind these facts is written. -/
theorem InvG.new {q : Nat} {w0 : World} (h0 : InvG W w0 base g gr R all wt e0 v L i out tk bg ov er Ao Al co cl p1 v1) (hq : w0.heap.size ≤ q) (h : InvG W w base g gr R all wt e0 v L i out tk bg ov er Ao Al co cl p1 v1) (f : Fr (One q) w w') : InvG W w' base g gr R all wt e0 v L i out tk bg ov er Ao Al co cl p1 v1 :=
  ⟨h.bf.keep f (fun hh => by have := h0.bf.blk.lt; have : g = q := hh; omega) (fun k hk hh => by have := (h0.bf.own.lt k hk).2; have : k = q := hh; omega),
    h.rd.keep f (fun hh => by have := h0.rd.lt; have : gr = q := hh; omega), own_new h0.rowL hq h.rowL f, own_new h0.rowO hq h.rowO f,
    h.fr.trans f (fun k hk => by have : k = q := hk; have := h0.fr.size; exact .inr (by omega)), h.at1, h.gW⟩
/-- A cell of the reader's own is written. -/
theorem InvG.cell {tk' : Nat} {bg' ov' : Bool} {er' : Int} {j : Nat} {x : Value} (h : InvG W w base g gr R all wt e0 v L i out tk bg ov er Ao Al co cl p1 v1) (f : Fr (One g) w w') (b : Blk w' g 96 ((rL gr p1 v1 tk bg ov er).set j x)) (hj : j ≠ 1) (hj1 : j ≠ 2) (he : (rL gr p1 v1 tk bg ov er).set j x = rL gr p1 v1 tk' bg' ov' er') :
    InvG W w' base g gr R all wt e0 v L i out tk' bg' ov' er' Ao Al co cl p1 v1 :=
  ⟨by have := h.bf.put f b hj hj1; rw [he] at this; exact this, h.rd.keep f (fun hh => h.bf.blk.ne h.rd (by decide) (Eq.symm hh)),
    own_keep h.rowL f (fun k hk hh => by have := own_base h.rowL k hk; have := h.gW; have : k = g := hh; omega),
    own_keep h.rowO f (fun k hk hh => by have := own_base h.rowO k hk; have := h.gW; have : k = g := hh; omega),
    h.fr.trans f (fun k hk => .inl (.inl hk)), h.at1, h.gW⟩
end
theorem stepL_is (y : St) : ∃ K H C, stepL y = stL K H C := by
  cases y
  · exact ⟨_, _, _, rfl⟩
  · exact ⟨_, _, _, rfl⟩
  · exact ⟨_, _, _, rfl⟩
theorem stL_all (K : Int) (H : Hd) (C : Cm) : ∀ u ∈ stL K H C, u.oneCell' = true := by
  intro u hu
  simp only [stL, hdL, cmL, List.cons_append, List.nil_append, List.mem_cons, List.not_mem_nil, or_false] at hu
  rcases hu with rfl | rfl | rfl | rfl | rfl | rfl | rfl | rfl | rfl | rfl | rfl | rfl <;> rfl
theorem InvG.more {W w w' : World} {base g gr : Nat} {R : Rd} {all wt : B} {e0 : Nat} {v : Value} {L : List Rc} {i : Nat} {out : List St} {tk : Nat} {bg ov : Bool} {er : Int} {Ao Al : Option Addr} {co cl : Nat} {p1 v1 : Value} {y : St} {A1 : Option Addr} {c1 : Nat}
    (h : InvG W w base g gr R all wt e0 v L i out tk bg ov er Ao Al co cl p1 v1) (f : Fr (Own (.slice Ao i co)) w w') (o : w'.ownsRow W.heap.size 60 12 (.slice A1 (i + 1) c1) (i + 1) (stepsL (out ++ [y]))) :
    InvG W w' base g gr R all wt e0 v L (i + 1) (out ++ [y]) tk bg ov er A1 Al c1 cl p1 v1 :=
  ⟨h.bf.keep f (fun hh => by have := own_base h.rowO g hh; have := h.gW; omega) (fun k hk hh => own_apart h.rowO h.bf.own (by decide) k hh hk),
    h.rd.keep f (fun hh => by
      obtain ⟨cells, hc⟩ := own_typed h.rowO gr hh
      have := h.rd.out
      rw [hc] at this
      injection this with this
      injection this with _ h2 _
      exact absurd h2 (by decide)),
    own_keep h.rowL f (fun k hk hh => by
      obtain ⟨cells, hc⟩ := own_typed h.rowO k hh
      obtain ⟨cells', hc'⟩ := own_typed h.rowL k hk
      rw [hc] at hc'
      injection hc' with this
      injection this with _ h2 _
      exact absurd h2 (by decide)),
    o, h.fr.trans f (fun k hk => .inr (own_base h.rowO k hk)), h.at1, h.gW⟩
theorem RdM.no {w w1 : World} {base g gr : Nat} {R : Rd} {p v : Value} {te : Int} (h : RdM w base g gr R p v te) (f : Fr No w w1) : RdM w1 base g gr R p v te := ⟨h.bf.no f, h.rd.no f, h.te⟩
set_option maxHeartbeats 8000000 in
set_option maxRecDepth 100000 in
theorem wfeed_any {W : World} {base g gr : Nat} {R : Rd} {p v : Value} {te : Int} (s : B) (hM : RdM W base g gr R p v te) (hO : R.err = 0 → OkRd R) (hs : s.length ≤ 1073741824) (hb : base ≤ W.heap.size) :
    Calls Try.prog 19 #[.pointer (some ⟨g, 0, none⟩), .string (bs s)] W fun e w' => ∃ A c p' v' te', e = .returned (.tuple #[.slice A (feedP dg R s).2.1.length c, .int .i64 ((feedP dg R s).2.2 : Int)])
      ∧ w'.ownsRow W.heap.size 60 12 (.slice A (feedP dg R s).2.1.length c) (feedP dg R s).2.1.length (stepsL (feedP dg R s).2.1) ∧ RdM w' base g gr (feedP dg R s).1 p' v' te'
      ∧ Fr (fun k => k = g ∨ k = gr ∨ Own v k) W w' ∧ (v'.ownBlock = v.ownBlock ∨ ∃ k, v'.ownBlock = some k ∧ W.heap.size ≤ k) := by
  obtain ⟨Z, hZ⟩ : ∃ Z, feedP dg R s = Z := ⟨_, rfl⟩
  rw [hZ]
  unfold feedP at hZ
  have BB := hM.bf
  have q5 := BB.blk.at_ 5 rfl
  have q6 := BB.blk.at_ 6 rfl
  by_cases he : R.err ≠ 0
  · rw [if_pos he] at hZ
    subst hZ
    have hez : ¬ (R.err : Int) = 0 := by omega
    have HM := Kp.mk hM
    clear hM hO
    go_enter Try.func19, Try.ntmps19
    go_wp2_with fail
    refine wp_scope_straight ?_
    go_wp2_with fail
    go_quiet (fail)
    have f := ((Fr.refl No W).drewN nq)
    go_wp2_with fail
    simp only [Exit.noGoto, Exit.inBlock, Exit.then]
    go_ret2
    exact ⟨none, 0, p, v, te, rfl, ⟨rfl, .inl ⟨rfl, rfl⟩⟩, HM.out.no f, f.mono (fun i hi => hi.elim), .inl rfl⟩
  rw [if_neg he] at hZ
  have he : R.err = 0 := Classical.not_not.1 he
  have O := hO he
  have hgr : g ≠ gr := BB.blk.ne hM.rd (by decide)
  have hvr : v.ownBlock ≠ some gr := ownF_ne BB.own hM.rd (by decide)
  have hal := O.al
  have HGR := Kp.mk hgr
  have HVR := Kp.mk hvr
  have HRD := Kp.mk hM.rd
  have hte := hM.te he
  rw [he] at BB
  rw [he] at q6
  have HB := Kp.mk hb
  clear hM hb hgr hvr
  by_cases hlen : 65536 < R.all.length + s.length
  · rw [if_pos hlen] at hZ
    subst hZ
    have hlz : (65536 : Int) - (R.all.length : Int) < (s.length : Int) := by omega
    clear hlen
    go_enter Try.func19, Try.ntmps19
    go_wp2_with fail
    refine wp_scope_straight ?_
    go_wp2_with (first
      | (go_at_call 26; go_must (refine (len_in BB).mono ?_); rintro e w3 ⟨rfl, hw3⟩; subst hw3)
      | ((with_reducible refine gate_store (t := 27) (p := 33) rfl ?_); go_must (refine ev_store rfl 27 _ _ rfl g 6 (.int .i64 3) rfl rfl rfl 96 _ BB.blk (by simp) sizeErr ?_); intro wE fE bE; have BB := BB.put fE bE (by decide) (by decide); have q6 := BB.blk.at_ 6 rfl))
    go_quiet (fail)
    have f : Fr No wE (wE.drewN nq) := ((Fr.refl No wE).drewN nq)
    have BB := BB.no f
    have rd := (HRD.out.keep fE (fun hh => HGR.out hh.symm)).no f
    go_wp2_with fail
    simp only [Exit.noGoto, Exit.inBlock, Exit.then]
    go_ret2
    exact ⟨none, 0, p, v, te, rfl, ⟨rfl, .inl ⟨rfl, rfl⟩⟩, ⟨BB, rd, fun h => by cases h⟩, (fE.no f).mono (fun i hi => .inl (.inl hi)), .inl rfl⟩
  rw [if_neg hlen] at hZ
  have hlz : ¬ (65536 : Int) - (R.all.length : Int) < (s.length : Int) := by omega
  by_cases hov : R.d.over = true ∧ s ≠ []
  · rw [if_pos hov] at hZ
    subst hZ
    obtain ⟨a, s', rfl⟩ : ∃ a s', s = a :: s' := List.exists_cons_of_ne_nil hov.2
    have hot := hov.1
    rw [hot] at q5
    have hlz2 : ¬ (65536 : Int) - (R.all.length : Int) < (s'.length : Int) + 1 := by have := hlz; rw [List.length_cons] at this; omega
    have HLZ := Kp.mk hlz
    clear hov hlz
    go_enter Try.func19, Try.ntmps19
    go_wp2_with fail
    refine wp_scope_straight ?_
    go_wp2_with (first
      | (go_at_call 26; go_must (refine (len_in BB).mono ?_); rintro e w3 ⟨rfl, hw3⟩; subst hw3)
      | ((with_reducible refine gate_store (t := 27) (p := 49) rfl ?_); go_must (refine ev_store rfl 27 _ _ rfl g 6 (.int .i64 17) rfl rfl rfl 96 _ BB.blk (by simp) sizeErr ?_); intro wE fE bE; have BB := BB.put fE bE (by decide) (by decide); have q6 := BB.blk.at_ 6 rfl))
    go_quiet (fail)
    have f : Fr No wE (wE.drewN nq) := ((Fr.refl No wE).drewN nq)
    have BB := BB.no f
    have rd := (HRD.out.keep fE (fun hh => HGR.out hh.symm)).no f
    go_wp2_with fail
    simp only [Exit.noGoto, Exit.inBlock, Exit.then]
    go_ret2
    exact ⟨none, 0, p, v, te, rfl, ⟨rfl, .inl ⟨rfl, rfl⟩⟩, ⟨BB, rd, fun h => by cases h⟩, (fE.no f).mono (fun i hi => .inl (.inl hi)), .inl rfl⟩
  rw [if_neg hov] at hZ
  have hov2 : R.d.over = false ∨ (R.d.over = true ∧ s = []) := by
    cases ho : R.d.over with
    | false => exact .inl rfl
    | true => exact .inr ⟨rfl, Classical.byContradiction fun h => hov ⟨ho, h⟩⟩
  have hlen2 : R.all.length + s.length ≤ 65536 := by omega
  obtain ⟨L, hL⟩ : ∃ L, (recs R.next (R.wait ++ s)).1 = L := ⟨_, rfl⟩
  obtain ⟨wt, hwt⟩ : ∃ wt, (recs R.next (R.wait ++ s)).2.1 = wt := ⟨_, rfl⟩
  obtain ⟨e0, he0⟩ : ∃ e0, (recs R.next (R.wait ++ s)).2.2 = e0 := ⟨_, rfl⟩
  obtain ⟨all, hall⟩ : ∃ all, R.all ++ s = all := ⟨_, rfl⟩
  have hallen : all.length = R.all.length + s.length := by rw [← hall, List.length_append]
  have hflat : (flatR L).length ≤ (R.wait ++ s).length := by rw [← hL]; exact recs_le _ _ _ (Nat.le_refl _)
  have hOK : Kp (∀ x ∈ L, OkR x) := ⟨by
    have := recs_rise _ R.next (R.wait ++ s) (Nat.le_refl _)
    rw [hL] at this
    exact rise_ok this⟩
  have hLL : L.length ≤ 65536 + 65536 := by
    have h1 := flat_ge L
    rw [List.length_append] at hflat
    have := O.at_
    omega
  have HRW : Kp ((R.wait ++ s).length ≤ 1073741824) := ⟨by rw [List.length_append]; have := O.at_; omega⟩
  have HNX : Kp (R.next ≤ 1073741824) := ⟨by have := O.nx; omega⟩
  have CT : Kp (∀ w', Blk w' gr 124 (rdL R.wait (R.next : Int) 0) → Calls Try.prog 39 #[.pointer (some ⟨gr, 0, none⟩), .string (bs s)] w' fun e w'' => ∃ A c, e = .returned (.tuple #[.slice A L.length c, .int .i64 (e0 : Int)])
      ∧ w''.ownsRow w'.heap.size 77 3 (.slice A L.length c) L.length (rcsL L) ∧ Blk w'' gr 124 (rdL wt ((R.next + L.length : Nat) : Int) (e0 : Int)) ∧ Fr (One gr) w' w'') := ⟨fun w' hb => by
    have := tfeed_any R.wait s R.next w' gr hb HRW.out HNX.out
    rw [hL, hwt, he0] at this
    exact this⟩
  have hZ' : Z = (⟨all, wt, R.next + L.length, (stepsP dg all R.d L).2, if (stepsP dg all R.d L).2.wrong ≠ 0 then (stepsP dg all R.d L).2.wrong else if (stepsP dg all R.d L).2.over = true ∧ (stepsP dg all R.d L).2.at_ < all.length then 17 else e0⟩, (stepsP dg all R.d L).1, if (stepsP dg all R.d L).2.wrong ≠ 0 then (stepsP dg all R.d L).2.wrong else if (stepsP dg all R.d L).2.over = true ∧ (stepsP dg all R.d L).2.at_ < all.length then 17 else e0) := by
    rw [← hZ]
    dsimp only
    rw [hall, hL, hwt, he0]
  have HZ := Kp.mk hZ'
  have HALL := Kp.mk hall
  have H0 : Kp (R.d.wrong = 0 ∧ R.d.at_ + (flatR L).length ≤ all.length ∧ (R.d.begun = true → all ≠ [])) := ⟨O.wr, by rw [List.length_append] at hflat; have := O.at_; omega, fun h e => by
    rw [← hall] at e
    exact O.bg h (List.append_eq_nil_iff.1 e).1⟩
  have hal5 : all.length ≤ 65536 := by omega
  have HWG := Kp.mk BB.blk.lt
  clear hZ hZ' hov hlen hL hwt he0 hall hflat hO
  subst hte
  go_enter Try.func19, Try.ntmps19
  go_wp2_with fail
  refine wp_scope_ghost 0 (fun m a' w' => ∃ (i : Nat) (out : List St) (d : Sd) (Ao Al : Option Addr) (co cl : Nat) (p1 v1 : Value) (u : Nat → Value), (m + i = L.length ∧ InvF W w' base g gr R all wt e0 v L i out d Ao Al co cl p1 v1) ∧ a' = { tmps := List.toArray (.pointer (some ⟨g, 0, none⟩) :: .string (bs s) :: u 2 :: u 3 :: u 4 :: u 5 :: .slice Ao i co :: .slice Al L.length cl :: .int .i64 (e0 : Int) :: .int .i64 (i : Int) :: u 10 :: u 11 :: u 12 :: u 13 :: u 14 :: u 15 :: u 16 :: u 17 :: u 18 :: u 19 :: u 20 :: u 21 :: u 22 :: u 23 :: u 24 :: u 25 :: u 26 :: u 27 :: u 28 :: u 29 :: u 30 :: u 31 :: u 32 :: u 33 :: u 34 :: u 35 :: u 36 :: u 37 :: u 38 :: u 39 :: u 40 :: u 41 :: u 42 :: u 43 :: u 44 :: u 45 :: u 46 :: u 47 :: u 48 :: u 49 :: u 50 :: u 51 :: u 52 :: u 53 :: u 54 :: u 55 :: u 56 :: u 57 :: u 58 :: u 59 :: u 60 :: u 61 :: u 62 :: u 63 :: u 64 :: u 65 :: u 66 :: u 67 :: u 68 :: u 69 :: u 70 :: u 71 :: u 72 :: u 73 :: u 74 :: u 75 :: u 76 :: u 77 :: u 78 :: u 79 :: u 80 :: u 81 :: u 82 :: u 83 :: u 84 :: u 85 :: u 86 :: u 87 :: u 88 :: u 89 :: u 90 :: u 91 :: u 92 :: u 93 :: u 94 :: u 95 :: u 96 :: u 97 :: u 98 :: u 99 :: u 100 :: u 101 :: u 102 :: u 103 :: u 104 :: u 105 :: u 106 :: u 107 :: u 108 :: u 109 :: u 110 :: u 111 :: u 112 :: u 113 :: u 114 :: u 115 :: u 116 :: u 117 :: u 118 :: u 119 :: u 120 :: u 121 :: u 122 :: u 123 :: u 124 :: u 125 :: u 126 :: u 127 :: u 128 :: u 129 :: []), defers := [] }) rfl ?_ ?_
  · intro Q' hQ
    have HQ := Kp.mk hQ
    clear hQ
    rcases hov2 with hof | ⟨hot, hsn⟩
    · rw [hof] at q5
      go_wp2_with (first
        | (go_at_call 26; go_must (refine (len_in BB).mono ?_); rintro e w3 ⟨rfl, hw3⟩; subst hw3)
        | (go_at_call 27; go_must (refine (write_in s BB (by omega) HB.out).mono ?_); rintro e w4 ⟨rfl, v1, BB, f4, hat⟩; have rd := HRD.out.keep f4 (fun hh => by rcases hh with hh | hh; exact HGR.out hh.symm; exact HVR.out hh); have q0 := BB.blk.at_ 0 rfl)
        | (go_at_call 39; go_must (refine (CT.out _ rd).mono ?_); rintro e w5 ⟨Al, cl, rfl, rowL, rd5, f5⟩; have hv1 := ownF_ne BB.own rd (by decide); have BB := BB.keep f5 (fun hh => HGR.out hh) (fun k hk hh => hv1 (hk.trans (congrArg some hh)))))
      go_step3
      go_step
      go_step
      rw [HALL.out] at BB
      refine HQ.out L.length _ _ ⟨0, [], R.d, none, Al, 0, cl, .pointer (some ⟨g, 1, none⟩), v1, ?_⟩
      refine ex_u ⟨by omega, ⟨rfl, by simp, H0.out.1, H0.out.2.1, H0.out.2.2, BB, rd5, own_le rowL f4.size, ⟨rfl, .inl ⟨rfl, rfl⟩⟩, (f4.mono (fun i hi => by rcases hi with hi | hi; exact .inl (.inl hi); exact .inl (.inr (.inr hi)))).trans f5 (fun i hi => .inl (.inr (.inl hi))), hat⟩⟩ rfl
    · subst hsn
      rw [hot] at q5
      go_wp2_with (first
        | (go_at_call 26; go_must (refine (len_in BB).mono ?_); rintro e w3 ⟨rfl, hw3⟩; subst hw3)
        | (go_at_call 27; go_must (refine (write_in [] BB (by omega) HB.out).mono ?_); rintro e w4 ⟨rfl, v1, BB, f4, hat⟩; have rd := HRD.out.keep f4 (fun hh => by rcases hh with hh | hh; exact HGR.out hh.symm; exact HVR.out hh); have q0 := BB.blk.at_ 0 rfl)
        | (go_at_call 39; go_must (refine (CT.out _ rd).mono ?_); rintro e w5 ⟨Al, cl, rfl, rowL, rd5, f5⟩; have hv1 := ownF_ne BB.own rd (by decide); have BB := BB.keep f5 (fun hh => HGR.out hh) (fun k hk hh => hv1 (hk.trans (congrArg some hh)))))
      go_step3
      go_step
      go_step
      rw [HALL.out] at BB
      refine HQ.out L.length _ _ ⟨0, [], R.d, none, Al, 0, cl, .pointer (some ⟨g, 1, none⟩), v1, ?_⟩
      refine ex_u ⟨by omega, ⟨rfl, by simp, H0.out.1, H0.out.2.1, H0.out.2.2, BB, rd5, own_le rowL f4.size, ⟨rfl, .inl ⟨rfl, rfl⟩⟩, (f4.mono (fun i hi => by rcases hi with hi | hi; exact .inl (.inl hi); exact .inl (.inr (.inr hi)))).trans f5 (fun i hi => .inl (.inr (.inl hi))), hat⟩⟩ rfl
  · rintro m a' w ⟨i, out, d, Ao, Al, co, cl, p1, v1, u, ⟨hm, I⟩, rfl⟩ J hJ
    have II := Kp.mk I
    have HM := Kp.mk hm
    have BB := I.bf
    have hWg := HWG.out
    by_cases hlt : i < L.length
    · have hltz : (i : Int) < (L.length : Int) := by omega
      obtain ⟨x, hx⟩ : ∃ x, L[i]? = some x := ⟨_, List.getElem?_eq_getElem hlt⟩
      have hdr : L.drop i = x :: L.drop (i + 1) := by
        obtain ⟨h1, h2⟩ := List.getElem?_eq_some_iff.1 hx
        rw [List.drop_eq_getElem_cons h1, h2]
      obtain ⟨bL, rfl⟩ : ∃ bL, Al = some ⟨bL, 0, none⟩ := by
        rcases I.rowL.2 with ⟨_, hz⟩ | ⟨b, _, _, hv, _⟩
        · omega
        · injection hv with hv
          exact ⟨b, hv⟩
      have hcell : ∀ j u, j < 3 → (rcL x.kind x.seq (bs x.pay))[j]? = some u → w.cell? ⟨bL, i * 3 + j, none⟩ = some u := fun j u hj hu => by
        have := I.rowL.cells (g := bL) rfl (i * 3 + j) u (by rw [rcs_at L i j x hx hj]; exact hu)
        rw [Addr.add_lit, Nat.zero_add] at this
        exact this
      have l0 := hcell 0 _ (by omega) rfl
      have l1 := hcell 1 _ (by omega) rfl
      have l2 := hcell 2 _ (by omega) rfl
      rw [Nat.add_zero] at l0
      have hxo := hOK.out x (List.mem_of_getElem? hx)
      have hat2 := I.at_
      rw [hdr, show flatR (x :: L.drop (i + 1)) = recB x ++ flatR (L.drop (i + 1)) from rfl, List.length_append, rec_len] at hat2
      have CS := Kp.mk (fun w' (B' : Bf w' base g 1 96 (rL gr p1 v1 d.at_ d.begun d.over 0) v1 all) => wstep_any x B' I.bg (by omega) (by omega) (by have := hxo.p1; omega) hxo.k1)
      cases hst : stepP dg (all.take d.at_) d.begun d.over x with
      | error e =>
        have hv : stepV all d.at_ d.begun d.over x = (stL 0 zeroH zeroC, (e : Int), d.begun, d.over) := by unfold stepV; rw [hst]
        rw [hv] at CS
        have hez : ¬ (e : Int) = 0 := by have := stepP_err hst; omega
        have HE : Kp (e ≠ 0) := ⟨stepP_err hst⟩
        have HS : Kp (stepsP dg all R.d L = (out, { d with wrong := e })) := ⟨by rw [I.eq, hdr, steps_err hst, List.append_nil]⟩
        have GG := I.g hWg
        clear hst hv hdr hcell hat2 I hm
        go_wp2_with (first
          | (go_at_call 40; go_must (refine (CS.out _ GG.bf).mono ?_); rintro e' w6 ⟨rfl, B6, f6⟩; have GG := GG.step B6 f6)
          | ((with_reducible refine gate_dst (N := 10) rfl ?_); go_must (refine ev_alloc rfl 60 rfl _ (stL 0 zeroH zeroC) zeroStep rfl ?_); intro g10 w7 hg10 f7 b10; have G0 := Kp.mk GG; have GG := GG.no f7)
          | ((with_reducible refine gate_store (t := 60) (p := 10) rfl ?_); go_must (refine ev_store_row rfl 60 _ _ rfl g10 (stL 0 zeroH zeroC).toArray rfl rfl 60 _ b10 sizeStep rfl (stL_one _ _ _) ?_); intro w8 f8 b10; have GG := G0.out.new hg10 GG f8)
          | ((with_reducible refine gate_store (t := 27) (p := 86) rfl ?_); go_must (refine ev_store rfl 27 _ _ rfl g 6 (.int .i64 (e : Int)) rfl rfl rfl 96 _ GG.bf.blk (by simp) sizeErr ?_); intro wE fE bE; have GG := GG.cell (tk' := d.at_) (bg' := d.begun) (ov' := d.over) (er' := (e : Int)) fE bE (by decide) (by decide) rfl))
        simp only [Exit.jump]
        go_ret2
        have hzz := HZ.out
        rw [HS.out] at hzz
        dsimp only at hzz
        rw [if_pos HE.out] at hzz
        rw [hzz]
        have hol := II.out.len
        subst hol
        exact ⟨Ao, co, p1, v1, (e0 : Int), rfl, GG.rowO, ⟨GG.bf, GG.rd, fun h => absurd h HE.out⟩, GG.fr, GG.at1⟩
      | ok y =>
        have hv : stepV all d.at_ d.begun d.over x = (stepL y, 0, d.begun || decide (x.kind = 1), decide (y = .fin)) := by unfold stepV; rw [hst]
        obtain ⟨K, H, C, hy⟩ := stepL_is y
        rw [hv] at CS
        dsimp only at CS
        rw [hy] at CS
        have HY := Kp.mk hy
        have HS : Kp (stepsP dg all R.d L = ((out ++ [y]) ++ (stepsP dg all (d.go x y) (L.drop (i + 1))).1, (stepsP dg all (d.go x y) (L.drop (i + 1))).2)) := ⟨by rw [I.eq, hdr, steps_ok hst, List.append_assoc]; rfl⟩
        have HAT : Kp (d.at_ + (11 + x.pay.length + (flatR (L.drop (i + 1))).length) ≤ all.length) := ⟨hat2⟩
        have hpl := hxo.p1
        have hsm : (d.at_ : Int) + (11 + (x.pay.length : Int)) ≤ 1099511627776 := by omega
        have hi1 : i + 1 ≤ 1099511627776 := by omega
        have HX := Kp.mk hx
        have HLT := Kp.mk hlt
        have GG := I.g hWg
        clear hst hv hdr hcell hat2 I hm hx hy
        go_wp2_with (first
          | (go_at_call 40; go_must (refine (CS.out _ GG.bf).mono ?_); rintro e' w6 ⟨rfl, B6, f6⟩; have GG := GG.step B6 f6)
          | ((with_reducible refine gate_dst (N := 10) rfl ?_); go_must (refine ev_alloc rfl 60 rfl _ (stL 0 zeroH zeroC) zeroStep rfl ?_); intro g10 w7 hg10 f7 b10; have G0 := Kp.mk GG; have GG := GG.no f7)
          | ((with_reducible refine gate_store (t := 60) (p := 10) rfl ?_); go_must (refine ev_store_row rfl 60 _ _ rfl g10 (stL K H C).toArray rfl rfl 60 _ b10 sizeStep rfl (stL_one _ _ _) ?_); intro w8 f8 b10; have b10 : Blk w8 g10 60 (stL K H C) := b10; have GG := G0.out.new hg10 GG f8)
          | ((with_reducible refine gate_dst (N := 90) rfl ?_); go_must (refine ev_load_row rfl 60 _ rfl g10 rfl 60 _ b10 _ Try.underlying60 rfl sizeStep ?_))
          | ((with_reducible refine gate_dst (N := 91) rfl ?_); refine ev_lit rfl 60 (stL K H C) 1 (by first | (go_simp; done) | (go_simp; rfl)) ?_; intro g9 w9 hg9 f9 b9; have GG := GG.no f9)
          | ((with_reducible refine gate_dst (N := 92) rfl ?_); go_must (refine ev_append rfl _ _ 52 60 _ 12 128 rfl Try.underlying52 infoStep rfl (by omega) (by omega) W.heap.size _ i (stepsL out) rfl GG.rowO GG.fr.size ⟨g9, 0, none⟩ 1 1 (stL K H C) rfl rfl (news_blk b9) (stL_all _ _ _) (by omega) ?_); intro A1 c1 wA OW1 fA hat; have GA := Kp.mk GG; have GG : InvG W wA base g gr R all wt e0 v L (i + 1) (out ++ [y]) d.at_ (d.begun || decide (x.kind = 1)) (decide (y = .fin)) 0 A1 (some ⟨bL, 0, none⟩) c1 cl p1 v1 := GG.more fA (by rw [stepsL_snoc, HY.out]; exact OW1)))
        have q3 := GG.bf.blk.at_ 3 rfl
        have l2 : wA.cell? ⟨bL, i * 3 + 2, none⟩ = some (.string (bs x.pay)) := by
          have := GG.rowL.cells (g := bL) rfl (i * 3 + 2) (.string (bs x.pay)) (by rw [rcs_at L i 2 x HX.out (by decide)]; rfl)
          rw [Addr.add_lit, Nat.zero_add] at this
          exact this
        refine wp_region_drawn_tail 14 (by kernel_rfl) (by kernel_rfl) ?_
        simp only [List.take_succ_cons, List.take_zero, List.drop_succ_cons, List.drop_zero]
        repeat (first | go_big_quiet_step (fail) | quiet_step (fail))
        refine wpQuiet_nil ?_
        rintro _ ⟨mm, rfl⟩
        have GG := GG.no ((Fr.refl No wA).drewN mm)
        go_wp2_with ((with_reducible refine gate_store (t := 3) (p := 106) rfl ?_); go_must (refine ev_store rfl 3 _ _ rfl g 3 (.int .i64 ((d.at_ : Int) + (11 + (x.pay.length : Int)))) rfl rfl rfl 96 _ GG.bf.blk (by simp) sizeInt ?_); intro wE fE bE; have GG := GG.cell (tk' := d.at_ + (11 + x.pay.length)) (bg' := d.begun || decide (x.kind = 1)) (ov' := decide (y = .fin)) (er' := 0) fE bE (by decide) (by decide) rfl)
        go_step3
        simp only [Exit.then, Exit.jump, if_true]
        have hdx : d.go x y = ⟨d.at_ + (11 + x.pay.length), d.begun || decide (x.kind = 1), decide (y = .fin), 0⟩ := rfl
        have hat3 := HAT.out
        refine ⟨trivial, hJ (m - 1) _ _ (by have := HM.out; have := HLT.out; omega) ⟨i + 1, out ++ [y], d.go x y, A1, some ⟨bL, 0, none⟩, c1, cl, p1, v1, ?_⟩⟩
        refine ex_u ⟨by have := HM.out; have := HLT.out; omega, ⟨by rw [List.length_append, II.out.len]; rfl, HS.out, rfl, by rw [hdx]; dsimp only; omega, fun _ e => by rw [e] at hat3; simp at hat3, GG.bf, GG.rd, GG.rowL, GG.rowO, GG.fr, GG.at1⟩⟩ rfl
    · obtain ⟨rfl, rfl⟩ : i = L.length ∧ m = 0 := by omega
      have hltz : ¬ (L.length : Int) < (L.length : Int) := by omega
      have HS : Kp (stepsP dg all R.d L = (out, d)) := ⟨by rw [I.eq, List.drop_of_length_le (Nat.le_refl _)]; show (out ++ [], d) = _; rw [List.append_nil]⟩
      have hzz := HZ.out
      have hwr := I.wr
      rw [HS.out] at hzz
      dsimp only at hzz
      rw [if_neg (by rw [hwr]; exact fun h => h rfl)] at hzz
      have HWR := Kp.mk hwr
      have HZZ := Kp.mk hzz
      have GG := I.g hWg
      have q3 := GG.bf.blk.at_ 3 rfl
      have q5 := GG.bf.blk.at_ 5 rfl
      have CL : Kp (∀ n, Calls Try.prog 26 #[.pointer (some ⟨g, 1, none⟩)] (w.drewN n) fun e w' => e = .returned (.int .i64 (all.length : Int)) ∧ w' = w.drewN n) := ⟨fun n => len_in (GG.bf.no ((Fr.refl No w).drewN n))⟩
      have hol := I.len
      have HOL := Kp.mk hol
      clear hm I hzz hwr hol
      cases hov : d.over with
      | false =>
        rw [hov] at q5
        have HF : Kp (Z = (⟨all, wt, R.next + L.length, d, e0⟩, out, e0)) := ⟨by rw [HZZ.out, hov, if_neg (by simp)]⟩
        go_wp2_with fail
        go_quiet (fail)
        rename_i nq
        have GG := GG.no ((Fr.refl No w).drewN nq)
        go_wp2_with (first
          | ((with_reducible refine gate_store (t := 27) (p := 127) rfl ?_); go_must (refine ev_store rfl 27 _ _ rfl g 6 (.int .i64 (e0 : Int)) rfl rfl rfl 96 _ GG.bf.blk (by simp) sizeErr ?_); intro wE fE bE; have GG := GG.cell (tk' := d.at_) (bg' := d.begun) (ov' := d.over) (er' := (e0 : Int)) fE bE (by decide) (by decide) rfl))
        simp only [Exit.jump]
        go_ret2
        rw [HF.out]
        have hol := HOL.out
        dsimp only
        rw [hol]
        exact ⟨Ao, co, p1, v1, (e0 : Int), rfl, GG.rowO, ⟨GG.bf, GG.rd, fun h => by rw [show (e0 : Nat) = 0 from h]; rfl⟩, GG.fr, GG.at1⟩
      | true =>
        rw [hov] at q5
        by_cases hat4 : d.at_ < all.length
        · have hat4z : (d.at_ : Int) < (all.length : Int) := by omega
          have HF : Kp (Z = (⟨all, wt, R.next + L.length, d, 17⟩, out, 17)) := ⟨by rw [HZZ.out, hov, if_pos ⟨rfl, hat4⟩]⟩
          go_wp2_with fail
          go_quiet ((go_at_call 26; exact Calls.quiet_of_same (CL.out _)))
          rename_i nq
          have GG := GG.no ((Fr.refl No w).drewN nq)
          go_wp2_with (first
            | ((with_reducible refine gate_store (t := 27) (p := 127) rfl ?_); go_must (refine ev_store rfl 27 _ _ rfl g 6 (.int .i64 17) rfl rfl rfl 96 _ GG.bf.blk (by simp) sizeErr ?_); intro wE fE bE; have GG := GG.cell (tk' := d.at_) (bg' := d.begun) (ov' := d.over) (er' := 17) fE bE (by decide) (by decide) rfl))
          simp only [Exit.jump]
          go_ret2
          rw [HF.out]
          have hol := HOL.out
          dsimp only
          rw [hol]
          exact ⟨Ao, co, p1, v1, (e0 : Int), rfl, GG.rowO, ⟨GG.bf, GG.rd, fun h => by cases h⟩, GG.fr, GG.at1⟩
        · have hat4z : ¬ (d.at_ : Int) < (all.length : Int) := by omega
          have HF : Kp (Z = (⟨all, wt, R.next + L.length, d, e0⟩, out, e0)) := ⟨by rw [HZZ.out, hov, if_neg (fun h => hat4 h.2)]⟩
          go_wp2_with fail
          go_quiet ((go_at_call 26; exact Calls.quiet_of_same (CL.out _)))
          rename_i nq
          have GG := GG.no ((Fr.refl No w).drewN nq)
          go_wp2_with (first
            | ((with_reducible refine gate_store (t := 27) (p := 127) rfl ?_); go_must (refine ev_store rfl 27 _ _ rfl g 6 (.int .i64 (e0 : Int)) rfl rfl rfl 96 _ GG.bf.blk (by simp) sizeErr ?_); intro wE fE bE; have GG := GG.cell (tk' := d.at_) (bg' := d.begun) (ov' := d.over) (er' := (e0 : Int)) fE bE (by decide) (by decide) rfl))
          simp only [Exit.jump]
          go_ret2
          rw [HF.out]
          have hol := HOL.out
          dsimp only
          rw [hol]
          exact ⟨Ao, co, p1, v1, (e0 : Int), rfl, GG.rowO, ⟨GG.bf, GG.rd, fun h => by rw [show (e0 : Nat) = 0 from h]; rfl⟩, GG.fr, GG.at1⟩
end Go.Proofs.Ytioohhekamjljaa.Wk

/- wire's New, Taken, Over, Resume. Conditions: sizes are bounded, as written out. -/
set_option linter.unusedSimpArgs false
set_option linter.unusedVariables false
namespace Go.Proofs.Ytioohhekamjljaa.Wk
open Go Go.RowKit Go.Proofs.YtioohhekamjljaaW.PrintWords Go.Proofs.YtioohhekamjljaaW.PrintLast Go.Proofs.Ytioohhekamjljaa.Ev Go.Proofs.Ytioohhekamjljaa.Reg Go.Proofs.Ytioohhekamjljaa.Sha Go.Proofs.Ytioohhekamjljaa.Sb Go.Proofs.Ytioohhekamjljaa.Crc Go.Proofs.Ytioohhekamjljaa.Wi

set_option maxHeartbeats 1000000 in
set_option maxRecDepth 100000 in
theorem tnew_any (w : World) : Calls Try.prog 36 #[] w fun e w' => ∃ gr, e = .returned (.pointer (some ⟨gr, 0, none⟩)) ∧ w.heap.size ≤ gr ∧ Blk w' gr 124 (rdL [] 0 0) ∧ Fr No w w' := by
  go_enter Try.func36, Try.ntmps36
  go_wp2_with (first
    | ((with_reducible refine gate_dst (N := 2) rfl ?_); go_must (refine ev_box rfl 124 _ rfl _ rfl (rdL [] 0 0) rfl ?_); intro g w1 hg f1 b1))
  go_ret
  exact ⟨g, rfl, hg, b1, f1⟩
set_option maxHeartbeats 1000000 in
set_option maxRecDepth 100000 in
theorem wnew_any (w : World) : Calls Try.prog 16 #[] w fun e w' => ∃ g gr, e = .returned (.pointer (some ⟨g, 0, none⟩)) ∧ w.heap.size ≤ g ∧ w.heap.size ≤ gr ∧ RdM w' w.heap.size g gr Rd0 (.pointer none) (.slice none 0 0) 0 ∧ Fr No w w' := by
  go_enter Try.func16, Try.ntmps16
  go_wp2_with (first
    | (go_at_call 36; go_must (refine (tnew_any _).mono ?_); rintro e w1 ⟨gr, rfl, hgr, b1, f1⟩)
    | ((with_reducible refine gate_dst (N := 3) rfl ?_); go_must (refine ev_box rfl 96 _ rfl _ rfl (rL gr (.pointer none) (.slice none 0 0) 0 false false 0) rfl ?_); intro g w2 hg f2 b2))
  go_ret
  exact ⟨g, gr, rfl, Nat.le_trans f1.size hg, hgr, ⟨⟨b2, .inl rfl, rfl, World.ownsRowF_nil _ _ _ _, by kernel_rfl, by decide⟩, b1.no f2, fun _ => rfl⟩, f1.no f2⟩
set_option maxHeartbeats 1000000 in
theorem taken_any {w : World} {base g gr : Nat} {R : Rd} {p v : Value} {te : Int} (h : RdM w base g gr R p v te) : Calls Try.prog 21 #[.pointer (some ⟨g, 0, none⟩)] w fun e w' => e = .returned (.int .i64 (R.d.at_ : Int)) ∧ w' = w := by
  have q3 := h.bf.blk.at_ 3 rfl
  clear h
  go_enter Try.func21, Try.ntmps21
  go_wp2_with fail
  go_ret
  exact ⟨rfl, rfl⟩
set_option maxHeartbeats 1000000 in
theorem over_any {w : World} {base g gr : Nat} {R : Rd} {p v : Value} {te : Int} (h : RdM w base g gr R p v te) : Calls Try.prog 22 #[.pointer (some ⟨g, 0, none⟩)] w fun e w' => e = .returned (.bool (R.d.over && decide (R.err = 0))) ∧ w' = w := by
  have q5 := h.bf.blk.at_ 5 rfl
  have q6 := h.bf.blk.at_ 6 rfl
  clear h
  obtain ⟨ov, hov⟩ : ∃ ov, R.d.over = ov := ⟨_, rfl⟩
  rw [hov] at q5 ⊢
  cases ov with
  | false =>
    go_enter Try.func22, Try.ntmps22
    go_wp2_with fail
    go_ret
    exact ⟨rfl, rfl⟩
  | true =>
    by_cases he : R.err = 0
    · rw [he] at q6
      rw [decide_eq_true he]
      go_enter Try.func22, Try.ntmps22
      go_wp2_with fail
      go_ret
      exact ⟨rfl, rfl⟩
    · have hez : ¬ (R.err : Int) = 0 := by omega
      rw [decide_eq_false he]
      have hez2 : ((R.err : Int) == 0) = false := by rw [beq_eq_false_iff_ne]; exact hez
      go_enter Try.func22, Try.ntmps22
      go_wp2_with fail
      go_ret
      refine ⟨?_, rfl⟩
      first
        | rfl
        | simp_all
theorem okRd0 : OkRd Rd0 := ⟨Nat.le_refl _, (fun h => by cases h), rfl, Nat.le_refl _, Nat.zero_le _⟩
theorem okRd_fed {R : Rd} (F : FedR dg R) (h : R.all.length ≤ 65536) : OkRd R := by
  have hf := recs_flat _ 0 R.all (Nat.le_refl _) F.recs
  have hl := congrArg List.length hf
  rw [List.length_append, ← F.wait] at hl
  have hw : (stepsP dg R.all Sd0 (recs 0 R.all).1).2.wrong = 0 := by rw [← F.d]; exact F.wrong
  have hat : R.d.at_ = 0 + (flatR (recs 0 R.all).1).length := by rw [F.d]; exact steps_at dg R.all _ Sd0 hw
  have hge := flat_ge (recs 0 R.all).1
  refine ⟨by omega, fun hb e => ?_, F.wrong, by rw [F.next]; omega, h⟩
  have hd := F.d
  rw [e, recs_nil] at hd
  rw [hd] at hb
  cases hb
/-- A reader made new: its blocks lie behind those of W. -/
structure NewR (W w : World) (R : Rd) (g gr : Nat) (p v : Value) (te : Int) : Prop where
  m : RdM w W.heap.size g gr R p v te
  g : W.heap.size ≤ g
  gr : W.heap.size ≤ gr
  v : ∀ k, v.ownBlock = some k → W.heap.size ≤ k
/-- May a reader be begun anew with these bytes? -/
def resOk (s : B) : Prop := (feedP dg Rd0 s).2.2 = 0 ∧ (feedP dg Rd0 s).1.d.at_ = s.length
set_option maxHeartbeats 2000000 in
set_option maxRecDepth 100000 in
theorem resume_ok (s : B) (hs : s.length ≤ 1073741824) (W : World) (hr : resOk s) : Calls Try.prog 18 #[.string (bs s)] W fun e w' => ∃ g gr p v te, e = .returned (.tuple #[.pointer (some ⟨g, 0, none⟩), .int .i64 0]) ∧ NewR W w' (feedP dg Rd0 s).1 g gr p v te ∧ Fr No W w' := by
  obtain ⟨Z, hZ⟩ : ∃ Z, feedP dg Rd0 s = Z := ⟨_, rfl⟩
  unfold resOk at hr
  rw [hZ] at hr ⊢
  obtain ⟨R1, out, er⟩ := Z
  have h1 : er = 0 := hr.1
  subst h1
  have h2z : (R1.d.at_ : Int) = (s.length : Int) := by have := hr.2; dsimp only at this; omega
  have HZ := Kp.mk hZ
  clear hr hZ
  go_enter Try.func18, Try.ntmps18
  go_wp2_with (first
    | (go_at_call 16; go_must (refine (wnew_any _).mono ?_); rintro e w2 ⟨g, gr, rfl, hg, hgr, hM, f2⟩)
    | (go_at_call 19; go_must (refine (wfeed_any s hM (fun _ => okRd0) hs f2.size).mono ?_); rintro e w3 ⟨A, c, p', v', te', rfl, rowO, hM, f3, hat⟩; rw [HZ.out] at rowO hM; rw [HZ.out]; have q3 := hM.bf.blk.at_ 3 rfl))
  go_ret2
  refine ⟨g, gr, p', v', te', rfl, ⟨hM, hg, by assumption, fun k hk => ?_⟩, f2.trans f3 (fun i hi => ?_)⟩
  · rcases hat with h | ⟨q, h, hq⟩
    · rw [h] at hk; simp [Value.ownBlock] at hk
    · rw [h] at hk; injection hk with hk; rw [← hk]; exact Nat.le_trans f2.size hq
  · rcases hi with rfl | rfl | hi
    · exact .inr hg
    · exact .inr (by assumption)
    · simp [Own, Value.ownBlock] at hi
set_option maxHeartbeats 2000000 in
set_option maxRecDepth 100000 in
theorem resume_not (s : B) (hs : s.length ≤ 1073741824) (W : World) (hr : ¬ resOk s) : Calls Try.prog 18 #[.string (bs s)] W fun e w' => e = .returned (.tuple #[.pointer none, .int .i64 2]) ∧ Fr No W w' := by
  obtain ⟨Z, hZ⟩ : ∃ Z, feedP dg Rd0 s = Z := ⟨_, rfl⟩
  unfold resOk at hr
  rw [hZ] at hr
  obtain ⟨R1, out, er⟩ := Z
  have HZ := Kp.mk hZ
  clear hZ
  have FIN : ∀ {w2 w3 : World} {g gr : Nat}, Fr No W w2 → W.heap.size ≤ g → W.heap.size ≤ gr → Fr (fun k => k = g ∨ k = gr ∨ Own (.slice none 0 0) k) w2 w3 → Fr No W w3 := fun f2 hg hgr f3 => f2.trans f3 (fun i hi => by
    rcases hi with rfl | rfl | hi
    · exact .inr hg
    · exact .inr hgr
    · simp [Own, Value.ownBlock] at hi)
  by_cases h1 : er = 0
  · subst h1
    have h2z : ¬ (R1.d.at_ : Int) = (s.length : Int) := fun h => hr ⟨rfl, by dsimp only; omega⟩
    clear hr
    go_enter Try.func18, Try.ntmps18
    go_wp2_with (first
      | (go_at_call 16; go_must (refine (wnew_any _).mono ?_); rintro e w2 ⟨g, gr, rfl, hg, hgr, hM, f2⟩)
      | (go_at_call 19; go_must (refine (wfeed_any s hM (fun _ => okRd0) hs f2.size).mono ?_); rintro e w3 ⟨A, c, p', v', te', rfl, rowO, hM, f3, hat⟩; rw [HZ.out] at rowO hM; rw [HZ.out]; have q3 := hM.bf.blk.at_ 3 rfl))
    go_ret2
    exact ⟨rfl, FIN f2 hg (by assumption) f3⟩
  · have h1z : ¬ (er : Int) = 0 := by omega
    clear hr h1
    go_enter Try.func18, Try.ntmps18
    go_wp2_with (first
      | (go_at_call 16; go_must (refine (wnew_any _).mono ?_); rintro e w2 ⟨g, gr, rfl, hg, hgr, hM, f2⟩)
      | (go_at_call 19; go_must (refine (wfeed_any s hM (fun _ => okRd0) hs f2.size).mono ?_); rintro e w3 ⟨A, c, p', v', te', rfl, rowO, hM, f3, hat⟩; rw [HZ.out] at rowO hM; rw [HZ.out]; have q3 := hM.bf.blk.at_ 3 rfl))
    go_ret2
    exact ⟨rfl, FIN f2 hg (by assumption) f3⟩
end Go.Proofs.Ytioohhekamjljaa.Wk

/- wire.Decode. Conditions: sizes are bounded, as written out. -/
set_option linter.unusedSimpArgs false
set_option linter.unusedVariables false
namespace Go.Proofs.Ytioohhekamjljaa.Wk
open Go Go.RowKit Go.Proofs.YtioohhekamjljaaW.PrintWords Go.Proofs.YtioohhekamjljaaW.PrintLast Go.Proofs.Ytioohhekamjljaa.Ev Go.Proofs.Ytioohhekamjljaa.Reg Go.Proofs.Ytioohhekamjljaa.Sha Go.Proofs.Ytioohhekamjljaa.Sb Go.Proofs.Ytioohhekamjljaa.Crc Go.Proofs.Ytioohhekamjljaa.Wi

def headSt : St → Hd
  | .head h => h
  | _ => zeroH
def cmdSt : St → Option Cm
  | .cmd c => some c
  | _ => none
/-- What Decode answers. -/
def decV (s : B) : Hd × List Cm × Int :=
  if (feedP dg Rd0 s).2.2 ≠ 0 then (zeroH, [], ((feedP dg Rd0 s).2.2 : Int))
  else if (feedP dg Rd0 s).1.d.over = true then (((feedP dg Rd0 s).2.1.head?.map headSt).getD zeroH, (feedP dg Rd0 s).2.1.filterMap cmdSt, 0)
  else (zeroH, [], 2)
def cmsL (l : List Cm) : List Value := l.flatMap cmL
theorem cmsL_snoc (l : List Cm) (c : Cm) : cmsL (l ++ [c]) = cmsL l ++ cmL c := by simp [cmsL]
theorem infoCmd : (Try.prog.info? 58).map (fun i => (i.zero, i.size, i.bytes)) = some (some (.agg (cmL zeroC).toArray), 8, 80) := by kernel_rfl
theorem cmL_all (c : Cm) : ∀ u ∈ cmL c, u.oneCell' = true := by
  intro u hu
  simp only [cmL, List.mem_cons, List.not_mem_nil, or_false] at hu
  rcases hu with rfl | rfl | rfl | rfl | rfl | rfl | rfl | rfl <;> rfl
theorem steps_at_cell : ∀ (L : List St) (i j : Nat) (y : St), L[i]? = some y → j < 12 → (stepsL L)[i * 12 + j]? = (stepL y)[j]?
  | [], i, j, y, h, _ => by simp at h
  | x :: L, 0, j, y, h, hj => by
    simp at h
    subst h
    rw [Nat.zero_mul, Nat.zero_add]
    show (stepL x ++ stepsL L)[j]? = _
    rw [List.getElem?_append_left (by rw [stepL_len]; exact hj)]
  | x :: L, i + 1, j, y, h, hj => by
    have ih := steps_at_cell L i j y (by simpa using h) hj
    show (stepL x ++ stepsL L)[(i + 1) * 12 + j]? = _
    rw [List.getElem?_append_right (by rw [stepL_len]; omega), ← ih, stepL_len]
    congr 1
    omega
theorem over_some (all : B) : ∀ (l : List Rc) (d : Sd), (stepsP dg all d l).2.over = true → d.over = true ∨ (stepsP dg all d l).1 ≠ []
  | [], d, h => .inl h
  | x :: l, d, h => by
    cases hs : stepP dg (all.take d.at_) d.begun d.over x with
    | error e =>
      rw [steps_err hs] at h
      exact .inl h
    | ok y =>
      rw [steps_ok hs]
      exact .inr (List.cons_ne_nil _ _)
theorem feed_some {s : B} (h0 : (feedP dg Rd0 s).2.2 = 0) (h : (feedP dg Rd0 s).1.d.over = true) : (feedP dg Rd0 s).2.1 ≠ [] := by
  unfold feedP at h0 h ⊢
  rw [if_neg (by decide)] at h0 h ⊢
  by_cases h1 : 65536 < Rd0.all.length + s.length
  · rw [if_pos h1] at h0; cases h0
  rw [if_neg h1] at h ⊢
  rw [if_neg (by rintro ⟨hh, _⟩; cases hh)] at h ⊢
  rcases over_some (Rd0.all ++ s) _ Rd0.d h with hh | hh
  · cases hh
  · exact hh
theorem types_apart {w : World} {base base' size size' n m : Nat} {e e' : TypeId} {v v' : Value} {cs cs' : List Value} (h : w.ownsRow base e size v n cs) (h' : w.ownsRow base' e' size' v' m cs') (he : e ≠ e') : ∀ k, v.ownBlock = some k → v'.ownBlock = some k → False := by
  intro k hk hk'
  obtain ⟨cells, hc⟩ := own_typed h k hk
  obtain ⟨cells', hc'⟩ := own_typed h' k hk'
  rw [hc] at hc'
  injection hc' with this
  injection this with _ h2 _
  exact he h2
theorem own_not {w : World} {base size n g : Nat} {e t : TypeId} {v : Value} {cs ds : List Value} (h : w.ownsRow base e size v n cs) (b : Blk w g t ds) (he : e ≠ t) : ¬ v.ownBlock = some g := by
  intro hk
  obtain ⟨cells, hc⟩ := own_typed h g hk
  have := b.out
  rw [hc] at this
  injection this with this
  injection this with _ h2 _
  exact he h2
theorem stepL_head (y : St) : ∃ K C, stepL y = stL K (headSt y) C := by
  cases y
  · exact ⟨_, _, rfl⟩
  · exact ⟨_, _, rfl⟩
  · exact ⟨_, _, rfl⟩
theorem steps_few (all : B) : ∀ (l : List Rc) (d : Sd), (stepsP dg all d l).1.length ≤ l.length
  | [], d => Nat.le_refl _
  | x :: l, d => by
    cases hs : stepP dg (all.take d.at_) d.begun d.over x with
    | error e => rw [steps_err hs]; exact Nat.zero_le _
    | ok y =>
      rw [steps_ok hs]
      have := steps_few all l (d.go x y)
      simp only [List.length_cons]
      omega
theorem out_few (s : B) (hs : s.length ≤ 1073741824) : (feedP dg Rd0 s).2.1.length ≤ 1099511627776 := by
  unfold feedP
  rw [if_neg (by decide)]
  by_cases h1 : 65536 < Rd0.all.length + s.length
  · rw [if_pos h1]; exact Nat.zero_le _
  rw [if_neg h1]
  rw [if_neg (by rintro ⟨hh, _⟩; cases hh)]
  dsimp only
  have h2 := steps_few (Rd0.all ++ s) (recs Rd0.next (Rd0.wait ++ s)).1 Rd0.d
  have h3 := flat_ge (recs Rd0.next (Rd0.wait ++ s)).1
  have h4 := recs_le _ Rd0.next (Rd0.wait ++ s) (Nat.le_refl _)
  have h5 : (Rd0.wait ++ s).length = s.length := by simp [Rd0]
  omega
set_option maxHeartbeats 8000000 in
set_option maxRecDepth 100000 in
theorem decode_any (s : B) (hs : s.length ≤ 1073741824) (W : World) : Calls Try.prog 12 #[.string (bs s)] W fun e w' => ∃ A c, e = .returned (.tuple #[hdV (decV s).1, .slice A (decV s).2.1.length c, .int .i64 (decV s).2.2])
    ∧ w'.ownsRow W.heap.size 58 8 (.slice A (decV s).2.1.length c) (decV s).2.1.length (cmsL (decV s).2.1) ∧ Fr No W w' := by
  obtain ⟨V, hV⟩ : ∃ V, decV s = V := ⟨_, rfl⟩
  rw [hV]
  unfold decV at hV
  obtain ⟨Z, hZ⟩ : ∃ Z, feedP dg Rd0 s = Z := ⟨_, rfl⟩
  have hsm := feed_some (s := s)
  rw [hZ] at hV hsm
  obtain ⟨R1, out, er⟩ := Z
  have HZ := Kp.mk hZ
  clear hZ
  dsimp only at hV hsm
  by_cases h1 : er ≠ 0
  · rw [if_pos h1] at hV
    subst hV
    have h1z : ¬ (er : Int) = 0 := by omega
    clear h1 hsm
    go_enter Try.func12, Try.ntmps12
    go_wp2_with (first
      | ((with_reducible refine gate_dst (N := 2) rfl ?_); go_must (refine ev_alloc rfl 23 rfl _ (hdL zeroH) zeroHead rfl ?_); intro g2 w2 hg2 f2 b2; have F := f2)
      | (go_at_call 16; go_must (refine (wnew_any _).mono ?_); rintro e w3 ⟨g, gr, rfl, hg, hgr, hM, f3⟩; have hWg := Nat.le_trans F.size hg; have hWgr := Nat.le_trans F.size hgr; have n2g : g2 ≠ g := Nat.ne_of_lt (Nat.lt_of_lt_of_le b2.lt hg); have n2r : g2 ≠ gr := Nat.ne_of_lt (Nat.lt_of_lt_of_le b2.lt hgr); have b2 := b2.no f3; have F := F.no f3)
      | (go_at_call 19; go_must (refine (wfeed_any s hM (fun _ => okRd0) hs f3.size).mono ?_); rintro e w4 ⟨A, c, p', v', te', rfl, rowO, hM, f4, hat⟩; rw [HZ.out] at rowO hM; rw [HZ.out]; have b2 := b2.keep f4 (fun hh => by rcases hh with hh | hh | hh; exact n2g hh; exact n2r hh; simp [Own, Value.ownBlock] at hh); have F := F.trans f4 (fun i hi => by rcases hi with rfl | rfl | hi; exact .inr hWg; exact .inr hWgr; simp [Own, Value.ownBlock] at hi))
      | ((with_reducible refine gate_store (t := 23) (p := 2) rfl ?_); go_must (refine ev_store_row rfl 23 _ _ rfl g2 (hdL zeroH).toArray rfl rfl 23 _ b2 sizeHead rfl (hdL_one _) ?_); intro wZ fZ bZ; have F := F.one fZ (.inr hg2)))
    (refine bodyPost_ret (results_row_tmp2 rfl _ _ g2 _ _ _ rfl bZ Try.underlying23 rfl sizeHead) rfl ⟨none, 0, rfl, ⟨rfl, .inl ⟨rfl, rfl⟩⟩, F⟩)
  rw [if_neg h1] at hV
  obtain rfl : er = 0 := Classical.not_not.1 h1
  have herr : R1.err = 0 := by
    have h := congrArg (fun z => z.1.err) HZ.out
    have h2 := congrArg (fun z => z.2.2) HZ.out
    dsimp only at h h2
    rw [← h]
    unfold feedP at h2 ⊢
    rw [if_neg (by decide)] at h2 ⊢
    by_cases h1 : 65536 < Rd0.all.length + s.length
    · rw [if_pos h1] at h2; cases h2
    rw [if_neg h1] at h2 ⊢
    rw [if_neg (by rintro ⟨hh, _⟩; cases hh)] at h2 ⊢
    exact h2
  by_cases hov : R1.d.over = true
  · rw [if_pos hov] at hV
    have hot : (R1.d.over && decide (R1.err = 0)) = true := by rw [hov, decide_eq_true herr]; rfl
    have HOF := Kp.mk hot
    have hne : out ≠ [] := hsm rfl hov
    have hn0 : 0 < out.length := List.length_pos_iff.2 hne
    have hn0z : (0 : Int) < (out.length : Int) := by omega
    have HV := Kp.mk hV
    have hob : out.length ≤ 1099511627776 := by
      have := out_few s hs
      rw [HZ.out] at this
      exact this
    clear hot hov h1 herr hsm hV hne
    go_enter Try.func12, Try.ntmps12
    go_wp2_with (first
      | ((with_reducible refine gate_dst (N := 2) rfl ?_); go_must (refine ev_alloc rfl 23 rfl _ (hdL zeroH) zeroHead rfl ?_); intro g2 w2 hg2 f2 b2; have F := f2)
      | (go_at_call 16; go_must (refine (wnew_any _).mono ?_); rintro e w3 ⟨g, gr, rfl, hg, hgr, hM, f3⟩; have hWg := Nat.le_trans F.size hg; have hWgr := Nat.le_trans F.size hgr; have n2g : g2 ≠ g := Nat.ne_of_lt (Nat.lt_of_lt_of_le b2.lt hg); have n2r : g2 ≠ gr := Nat.ne_of_lt (Nat.lt_of_lt_of_le b2.lt hgr); have b2 := b2.no f3; have F := F.no f3)
      | (go_at_call 19; go_must (refine (wfeed_any s hM (fun _ => okRd0) hs f3.size).mono ?_); rintro e w4 ⟨A, c, p', v', te', rfl, rowO, hM, f4, hat⟩; rw [HZ.out] at rowO hM; rw [HZ.out]; have b2 := b2.keep f4 (fun hh => by rcases hh with hh | hh | hh; exact n2g hh; exact n2r hh; simp [Own, Value.ownBlock] at hh); have F := F.trans f4 (fun i hi => by rcases hi with rfl | rfl | hi; exact .inr hWg; exact .inr hWgr; simp [Own, Value.ownBlock] at hi))
      | ((go_at_call 22; go_must (refine (over_any hM).mono ?_); rintro e w5 ⟨rfl, hw5⟩; subst hw5); rw [HOF.out]))
    obtain ⟨bO, rfl⟩ : ∃ bO, A = some ⟨bO, 0, none⟩ := by
      rcases rowO.2 with ⟨_, hz⟩ | ⟨b, _, _, hv, _⟩
      · omega
      · injection hv with hv
        exact ⟨b, hv⟩
    go_loopg [8, 30] out.length (fun gg v8 v30 wr => ∃ (i m : Nat) (A8 : Option Addr) (c8 : Nat), i + gg = out.length ∧ m = ((out.take i).filterMap cmdSt).length ∧ v8 = .slice A8 m c8 ∧ v30 = .int .i64 (i : Int) ∧ wr.ownsRow W.heap.size 58 8 (.slice A8 m c8) m (cmsL ((out.take i).filterMap cmdSt)) ∧ wr.ownsRow w3.heap.size 60 12 (.slice (some ⟨bO, 0, none⟩) out.length c) out.length (stepsL out) ∧ Blk wr g2 23 (hdL zeroH) ∧ Fr No W wr)
    case atStart => exact ⟨0, 0, none, 0, by omega, rfl, rfl, rfl, ⟨rfl, .inl ⟨rfl, rfl⟩⟩, rowO, b2, F⟩
    case round =>
      obtain ⟨i, m, A8, c8, hi, hm8, rfl, rfl, rowC, rowO, b2, F⟩ := hrel
      have HM8 := Kp.mk hm8
      by_cases hlt : i < out.length
      · have hltz : (i : Int) < (out.length : Int) := by omega
        obtain ⟨y, hy⟩ : ∃ y, out[i]? = some y := ⟨_, List.getElem?_eq_getElem hlt⟩
        have HLT : Kp (i < out.length ∧ i + gk = out.length) := ⟨⟨hlt, hi⟩⟩
        have hmi : m ≤ out.length := by
          rw [hm8]
          exact Nat.le_trans (List.length_filterMap_le _ _) (by rw [List.length_take]; omega)
        have hmb : m + 1 ≤ 1099511627777 := by omega
        clear hm8 hi
        cases y with
        | head h =>
          have hfm : (out.take (i + 1)).filterMap cmdSt = (out.take i).filterMap cmdSt := by rw [List.take_add_one, hy, List.filterMap_append]; exact List.append_nil _
          have hcell : ∀ j u, j < 12 → (stL 1 h zeroC)[j]? = some u → wr.cell? ⟨bO, i * 12 + j, none⟩ = some u := fun j u hj hu => by
            have := rowO.cells (g := bO) rfl (i * 12 + j) u (by rw [steps_at_cell out i j _ hy hj]; exact hu)
            rw [Addr.add_lit, Nat.zero_add] at this
            exact this
          have l0 := hcell 0 _ (by decide) rfl
          have l1 := hcell 1 _ (by decide) rfl
          have l2 := hcell 2 _ (by decide) rfl
          have l3 := hcell 3 _ (by decide) rfl
          have l4 := hcell 4 _ (by decide) rfl
          have l5 := hcell 5 _ (by decide) rfl
          have l6 := hcell 6 _ (by decide) rfl
          have l7 := hcell 7 _ (by decide) rfl
          have l8 := hcell 8 _ (by decide) rfl
          have l9 := hcell 9 _ (by decide) rfl
          have l10 := hcell 10 _ (by decide) rfl
          have l11 := hcell 11 _ (by decide) rfl
          rw [Nat.add_zero] at l0
          have HFM := Kp.mk hfm
          clear hcell hfm hy
          go_wp2_with (first
            | ((with_reducible refine gate_dst (N := 10) rfl ?_); go_must (refine ev_alloc rfl 60 rfl _ (stL 0 zeroH zeroC) zeroStep rfl ?_); intro g10 w7 hg10 f7 b10; have rowC0 := Kp.mk rowC; have rowO0 := Kp.mk rowO; have rowC := own_no rowC f7; have rowO := own_no rowO f7; have n210 : g2 ≠ g10 := Nat.ne_of_lt (Nat.lt_of_lt_of_le b2.lt hg10); have b2 := b2.no f7; have hW10 := Nat.le_trans F.size hg10; have F := F.no f7)
            | ((with_reducible refine gate_store (t := 60) (p := 10) rfl ?_); go_must (refine ev_store_row rfl 60 _ _ rfl g10 (stL 1 h zeroC).toArray rfl rfl 60 _ b10 sizeStep rfl (stL_one _ _ _) ?_); intro w8 f8 b10; have rowC := own_new rowC0.out hg10 rowC f8; have rowO := own_new rowO0.out hg10 rowO f8; have b2 := b2.one f8 n210; have F := F.one f8 (.inr hW10); have b10 : Blk w8 g10 60 (stL 1 h zeroC) := b10; have d0 := b10.at_ 0 rfl))
          rw [← HFM.out] at rowC
          go_roundg (out.length - (i + 1))
          case measure => have := HLT.out; omega
          case rel => exact ⟨i + 1, m, A8, c8, by have := HLT.out; omega, by rw [HFM.out]; exact HM8.out, rfl, by go_num, rowC, rowO, b2, F⟩
        | fin =>
          have hfm : (out.take (i + 1)).filterMap cmdSt = (out.take i).filterMap cmdSt := by rw [List.take_add_one, hy, List.filterMap_append]; exact List.append_nil _
          have hcell : ∀ j u, j < 12 → (stL 2 zeroH zeroC)[j]? = some u → wr.cell? ⟨bO, i * 12 + j, none⟩ = some u := fun j u hj hu => by
            have := rowO.cells (g := bO) rfl (i * 12 + j) u (by rw [steps_at_cell out i j _ hy hj]; exact hu)
            rw [Addr.add_lit, Nat.zero_add] at this
            exact this
          have l0 := hcell 0 _ (by decide) rfl
          have l1 := hcell 1 _ (by decide) rfl
          have l2 := hcell 2 _ (by decide) rfl
          have l3 := hcell 3 _ (by decide) rfl
          have l4 := hcell 4 _ (by decide) rfl
          have l5 := hcell 5 _ (by decide) rfl
          have l6 := hcell 6 _ (by decide) rfl
          have l7 := hcell 7 _ (by decide) rfl
          have l8 := hcell 8 _ (by decide) rfl
          have l9 := hcell 9 _ (by decide) rfl
          have l10 := hcell 10 _ (by decide) rfl
          have l11 := hcell 11 _ (by decide) rfl
          rw [Nat.add_zero] at l0
          have HFM := Kp.mk hfm
          clear hcell hfm hy
          go_wp2_with (first
            | ((with_reducible refine gate_dst (N := 10) rfl ?_); go_must (refine ev_alloc rfl 60 rfl _ (stL 0 zeroH zeroC) zeroStep rfl ?_); intro g10 w7 hg10 f7 b10; have rowC0 := Kp.mk rowC; have rowO0 := Kp.mk rowO; have rowC := own_no rowC f7; have rowO := own_no rowO f7; have n210 : g2 ≠ g10 := Nat.ne_of_lt (Nat.lt_of_lt_of_le b2.lt hg10); have b2 := b2.no f7; have hW10 := Nat.le_trans F.size hg10; have F := F.no f7)
            | ((with_reducible refine gate_store (t := 60) (p := 10) rfl ?_); go_must (refine ev_store_row rfl 60 _ _ rfl g10 (stL 2 zeroH zeroC).toArray rfl rfl 60 _ b10 sizeStep rfl (stL_one _ _ _) ?_); intro w8 f8 b10; have rowC := own_new rowC0.out hg10 rowC f8; have rowO := own_new rowO0.out hg10 rowO f8; have b2 := b2.one f8 n210; have F := F.one f8 (.inr hW10); have b10 : Blk w8 g10 60 (stL 2 zeroH zeroC) := b10; have d0 := b10.at_ 0 rfl))
          rw [← HFM.out] at rowC
          go_roundg (out.length - (i + 1))
          case measure => have := HLT.out; omega
          case rel => exact ⟨i + 1, m, A8, c8, by have := HLT.out; omega, by rw [HFM.out]; exact HM8.out, rfl, by go_num, rowC, rowO, b2, F⟩
        | cmd cc =>
          have hfm : (out.take (i + 1)).filterMap cmdSt = (out.take i).filterMap cmdSt ++ [cc] := by rw [List.take_add_one, hy, List.filterMap_append]; rfl
          have hcell : ∀ j u, j < 12 → (stL 3 zeroH cc)[j]? = some u → wr.cell? ⟨bO, i * 12 + j, none⟩ = some u := fun j u hj hu => by
            have := rowO.cells (g := bO) rfl (i * 12 + j) u (by rw [steps_at_cell out i j _ hy hj]; exact hu)
            rw [Addr.add_lit, Nat.zero_add] at this
            exact this
          have l0 := hcell 0 _ (by decide) rfl
          have l1 := hcell 1 _ (by decide) rfl
          have l2 := hcell 2 _ (by decide) rfl
          have l3 := hcell 3 _ (by decide) rfl
          have l4 := hcell 4 _ (by decide) rfl
          have l5 := hcell 5 _ (by decide) rfl
          have l6 := hcell 6 _ (by decide) rfl
          have l7 := hcell 7 _ (by decide) rfl
          have l8 := hcell 8 _ (by decide) rfl
          have l9 := hcell 9 _ (by decide) rfl
          have l10 := hcell 10 _ (by decide) rfl
          have l11 := hcell 11 _ (by decide) rfl
          rw [Nat.add_zero] at l0
          have HFM := Kp.mk hfm
          clear hcell hfm hy
          go_wp2_with (first
            | ((with_reducible refine gate_dst (N := 10) rfl ?_); go_must (refine ev_alloc rfl 60 rfl _ (stL 0 zeroH zeroC) zeroStep rfl ?_); intro g10 w7 hg10 f7 b10; have rowC0 := Kp.mk rowC; have rowO0 := Kp.mk rowO; have rowC := own_no rowC f7; have rowO := own_no rowO f7; have n210 : g2 ≠ g10 := Nat.ne_of_lt (Nat.lt_of_lt_of_le b2.lt hg10); have b2 := b2.no f7; have hW10 := Nat.le_trans F.size hg10; have F := F.no f7)
            | ((with_reducible refine gate_store (t := 60) (p := 10) rfl ?_); go_must (refine ev_store_row rfl 60 _ _ rfl g10 (stL 3 zeroH cc).toArray rfl rfl 60 _ b10 sizeStep rfl (stL_one _ _ _) ?_); intro w8 f8 b10; have rowC := own_new rowC0.out hg10 rowC f8; have rowO := own_new rowO0.out hg10 rowO f8; have b2 := b2.one f8 n210; have F := F.one f8 (.inr hW10); have b10 : Blk w8 g10 60 (stL 3 zeroH cc) := b10; have d0 := b10.at_ 0 rfl; have d4 := b10.at_ 4 rfl; have d5 := b10.at_ 5 rfl; have d6 := b10.at_ 6 rfl; have d7 := b10.at_ 7 rfl; have d8 := b10.at_ 8 rfl; have d9 := b10.at_ 9 rfl; have d10 := b10.at_ 10 rfl; have d11 := b10.at_ 11 rfl)
            | ((with_reducible refine gate_dst (N := 40) rfl ?_); refine ev_lit rfl 58 (cmL cc) 1 (by first | (go_simp; done) | (go_simp; rfl)) ?_; intro g9 w9 hg9 f9 b9; have rowC := own_no rowC f9; have rowO := own_no rowO f9; have b2 := b2.no f9; have F := F.no f9)
            | ((with_reducible refine gate_dst (N := 41) rfl ?_); go_must (refine ev_append rfl _ _ 24 58 _ 8 80 rfl Try.underlying24 infoCmd rfl (by omega) (by omega) W.heap.size _ m (cmsL ((out.take i).filterMap cmdSt)) rfl rowC F.size ⟨g9, 0, none⟩ 1 1 (cmL cc) rfl rfl (news_blk b9) (cmL_all _) (by omega) ?_); intro A1 c1 wA OW1 fA hat; have rowO := own_keep rowO fA (fun k hk hh => types_apart rowC rowO (by decide) k hh hk); have b2 := b2.keep fA (fun hh => own_not rowC b2 (by decide) hh); have F := F.trans fA (fun i hi => .inr (own_base rowC i hi))))
          rw [← cmsL_snoc, ← HFM.out] at OW1
          go_roundg (out.length - (i + 1))
          case measure => have := HLT.out; omega
          case rel => exact ⟨i + 1, m + 1, A1, c1, by have := HLT.out; omega, by rw [HFM.out, List.length_append, ← HM8.out]; rfl, rfl, by go_num, OW1, rowO, b2, F⟩
      · obtain rfl : i = out.length := by omega
        rw [List.take_length] at rowC hm8
        obtain ⟨y, out', rfl⟩ : ∃ y out', out = y :: out' := List.exists_cons_of_length_pos hn0
        obtain ⟨K, C, hyl⟩ := stepL_head y
        have hcell : ∀ j u, j < 12 → (stL K (headSt y) C)[j]? = some u → wr.cell? ⟨bO, j, none⟩ = some u := fun j u hj hu => by
          have h := steps_at_cell (y :: out') 0 j y rfl hj
          rw [Nat.zero_mul, Nat.zero_add] at h
          have := rowO.cells (g := bO) rfl j u (by rw [h, hyl]; exact hu)
          rw [Addr.add_lit, Nat.zero_add] at this
          exact this
        have l1 := hcell 1 _ (by decide) rfl
        have l2 := hcell 2 _ (by decide) rfl
        have l3 := hcell 3 _ (by decide) rfl
        have hV := HV.out
        rw [List.head?_cons, Option.map_some, Option.getD_some] at hV
        generalize headSt y = H at hV l1 l2 l3
        generalize ((y :: out').filterMap cmdSt) = cs at hV rowC hm8
        subst hV
        subst hm8
        clear hcell hyl
        go_wp2_with (first
          | ((with_reducible refine gate_store (t := 23) (p := 2) rfl ?_); go_must (refine ev_store_row rfl 23 _ _ rfl g2 (hdL H).toArray rfl rfl 23 _ b2 sizeHead rfl (hdL_one _) ?_); intro wZ fZ bZ; have rowC := own_keep rowC fZ (fun k hk hh => own_not rowC b2 (by decide) (by have : k = g2 := hh; rw [← this]; exact hk)); have F := F.one fZ (.inr hg2)))
        have hlen8 : W.heap.size ≤ g2 := hg2
        refine bodyPost_ret (results_row_tmp2 rfl _ _ g2 _ _ _ rfl bZ Try.underlying23 rfl sizeHead) rfl ⟨A8, c8, rfl, rowC, F⟩
  · rw [if_neg hov] at hV
    subst hV
    have hof : (R1.d.over && decide (R1.err = 0)) = false := by
      rw [Bool.not_eq_true] at hov
      rw [hov]
      rfl
    have HOF := Kp.mk hof
    clear hof hov h1 herr hsm
    go_enter Try.func12, Try.ntmps12
    go_wp2_with (first
      | ((with_reducible refine gate_dst (N := 2) rfl ?_); go_must (refine ev_alloc rfl 23 rfl _ (hdL zeroH) zeroHead rfl ?_); intro g2 w2 hg2 f2 b2; have F := f2)
      | (go_at_call 16; go_must (refine (wnew_any _).mono ?_); rintro e w3 ⟨g, gr, rfl, hg, hgr, hM, f3⟩; have hWg := Nat.le_trans F.size hg; have hWgr := Nat.le_trans F.size hgr; have n2g : g2 ≠ g := Nat.ne_of_lt (Nat.lt_of_lt_of_le b2.lt hg); have n2r : g2 ≠ gr := Nat.ne_of_lt (Nat.lt_of_lt_of_le b2.lt hgr); have b2 := b2.no f3; have F := F.no f3)
      | (go_at_call 19; go_must (refine (wfeed_any s hM (fun _ => okRd0) hs f3.size).mono ?_); rintro e w4 ⟨A, c, p', v', te', rfl, rowO, hM, f4, hat⟩; rw [HZ.out] at rowO hM; rw [HZ.out]; have b2 := b2.keep f4 (fun hh => by rcases hh with hh | hh | hh; exact n2g hh; exact n2r hh; simp [Own, Value.ownBlock] at hh); have F := F.trans f4 (fun i hi => by rcases hi with rfl | rfl | hi; exact .inr hWg; exact .inr hWgr; simp [Own, Value.ownBlock] at hi))
      | ((go_at_call 22; go_must (refine (over_any hM).mono ?_); rintro e w5 ⟨rfl, hw5⟩; subst hw5); rw [HOF.out])
      | ((with_reducible refine gate_store (t := 23) (p := 2) rfl ?_); go_must (refine ev_store_row rfl 23 _ _ rfl g2 (hdL zeroH).toArray rfl rfl 23 _ b2 sizeHead rfl (hdL_one _) ?_); intro wZ fZ bZ; have F := F.one fZ (.inr hg2)))
    (refine bodyPost_ret (results_row_tmp2 rfl _ _ g2 _ _ _ rfl bZ Try.underlying23 rfl sizeHead) rfl ⟨none, 0, rfl, ⟨rfl, .inl ⟨rfl, rfl⟩⟩, F⟩)
end Go.Proofs.Ytioohhekamjljaa.Wk
