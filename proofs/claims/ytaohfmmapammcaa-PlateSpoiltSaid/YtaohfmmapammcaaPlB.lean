/- Texts joined by merge.py: PlRw, PlWrite, PlNum, PlRead, PlRead2. -/
import Derived.Test.YtaohfmmapammcaaPlA
import Derived.Deep.AppendLies
import Derived.Lib.BufferWrite
import Derived.Laws.MakeOwn
import Derived.Laws.OwnMore
import Derived.Test.YtaohfmmapammcaaSum
import Derived.Test.YtaohfmmapammcaaEv3
import Derived.Laws.BitsAllLaws
import Derived.Test.YtaohfmmapammcaaSb
/- A disk's Write. Conditions: sizes are bounded, as written out. -/
set_option linter.unusedSimpArgs false
set_option linter.unusedVariables false
namespace Go.Proofs.Ytaohfmmapammcaa.Pl
open Go Go.RowKit Go.Proofs.YtaohfmmapammcaaW.PrintWords Go.Proofs.YtaohfmmapammcaaW.PrintLast Go.Proofs.Ytaohfmmapammcaa.Sha Go.Proofs.Ytaohfmmapammcaa.Dig Go.Proofs.Ytaohfmmapammcaa.Ev Go.Proofs.Ytaohfmmapammcaa.Reg

noncomputable def bodyDW : Code := Try.f20.body.getD .skip
abbrev u8s (l : List UInt8) : List Value := l.map fun b => Value.int .u8 b.toNat
theorem infoWr : (Try.prog.info? 119).map (fun i => (i.zero, i.size, i.bytes)) = some (some (.agg #[.int .i64 0, .string ⟨#[]⟩]), 2, 24) := by kernel_rfl
theorem infoByte : (Try.prog.info? 5).map (fun i => (i.zero, i.size, i.bytes)) = some (some (.int .u8 0), 1, 1) := by kernel_rfl
theorem sizeByte : (Try.prog.info? 5).map (·.size) = some 1 := by kernel_rfl
theorem conv_blk {w : World} {g n : Nat} {l : List UInt8} (h : Blk w g 5 (u8s l)) (hn : l.length = n) : (convert 43 9 (.slice (some ⟨g, 0, none⟩) n n)).run Try.prog w = .ok (.string (bs l)) w := by
  subst hn
  have hr := run_convert_bytes_arg (P := Try.prog) w 43 5 Try.underlying43 Try.underlying5 g 0 l.length l.length (l.map fun b => (b.toNat : Int)) (by simp) (fun i hi => by
    rw [Nat.zero_add, h.at_ i (v := .int .u8 (l[i].toNat : Int)) (by simp [hi])]
    simp [List.getD_eq_getElem?_getD, hi]) 9 Try.underlying9
  rw [strOf_bytes] at hr
  exact hr
section
variable {P : Program} {ops : Array Oper} {rest : List Oper} {o : Oper} {a : Act} {Q : Exit → Act → World → Prop} {W : World} {K : Act → World → Prop} {E : Prop}
/-- A literal as one step of a region that draws. -/
theorem step_lit {N : Option Tmp} (hgd : o.guard = none) (hd : o.dst = N) (e : TypeId) (cs : List Value) (n : Nat)
    (hrun : (execOp a.eval o).run P W = .ok (.value (.slice (some ⟨W.heap.size, 0, none⟩) n n)) (W.alloc (.cells cs.toArray e)))
    (h : ∀ g w1, W.heap.size ≤ g → Fr No W w1 → Blk w1 g e cs → K (a.put N (.slice (some ⟨g, 0, none⟩) n n)) w1) : if Region.wanted o (yielded ops a.tmps) = true then Oper.wp P o a W K Q else E := by
  have hw : Region.wanted o (yielded ops a.tmps) = true := by simp [Region.wanted, hgd]
  rw [if_pos hw]
  unfold Oper.wp
  rw [hrun]
  subst hd
  exact h _ _ (Nat.le_refl _) (Fr.alloc _ _) (Blk.new W e cs)
/-- 'make([]byte, n)'. -/
theorem ev_make (hgd : o.guard = none) (t e : TypeId) (x y : Operand) (ho : o.op = .makeSlice t x y) (n : Nat) (hx : a.eval x = .int .i64 (n : Int)) (hy : a.eval y = .int .i64 (n : Int)) (ht : P.underlying t = some (.slice e))
    (hinfo : (P.info? e).map (fun i => (i.zero, i.size, i.bytes)) = some (some (.int .u8 0), 1, 1)) (hn : n ≤ 1099511627776)
    (h : ∀ g w1, W.heap.size ≤ g → Fr No W w1 → Blk w1 g e (List.replicate n (.int .u8 0)) → wpList P ops Q rest (a.put o.dst (.slice (some ⟨g, 0, none⟩) n n)) w1) : wpList P ops Q (o :: rest) a W := by
  obtain ⟨i0, hi, hzz⟩ := Option.map_eq_some_iff.1 hinfo
  simp only [Prod.mk.injEq] at hzz
  obtain ⟨hz0, hz1, hz2⟩ := hzz
  have hr := run_make (P := P) (w := W) t e i0 (.int .u8 0) ht hi hz0 .i64 .i64 (n : Int) (n : Int) (by omega) (by omega) (by rw [hz2]; omega) (by omega)
  simp only [Int.toNat_natCast, hz1, Nat.mul_one] at hr
  refine run_value hgd (w1 := W.alloc (.cells (madeCells (Value.int .u8 0).cells n) e)) (v := .slice (some ⟨W.heap.size, 0, none⟩) n n) ?_ (h _ _ (Nat.le_refl _) (Fr.alloc _ _) ?_)
  · simp [execOp, ho, hx, hy, hr, Sem.run_bind, Result.andThen]
  · have := Blk.new W e (List.replicate n (Value.int .u8 0))
    have e1 : (List.replicate n (Value.int .u8 0)).toArray = madeCells (Value.int .u8 0).cells n := by
      apply Array.toList_inj.1
      rw [show (Value.int .u8 0).cells = #[Value.int .u8 0] from rfl, toList_madeCells_one]
    rw [e1] at this
    exact this
/-- A store as one step of a region that draws, its place to write its result given. -/
theorem step_storeN {N : Option Tmp} (hgd : o.guard = none) (hd : o.dst = N) (ty : TypeId) (x y : Operand) (ho : o.op = .store ty x y) (g i : Nat) (v : Value) (hx : a.eval x = .pointer (some ⟨g, i, none⟩)) (hy : a.eval y = v) (hv : v.oneCell' = true)
    (t : TypeId) (cs : List Value) (hb : Blk W g t cs) (hil : i < cs.length) (hi : (P.info? ty).map (·.size) = some 1)
    (h : ∀ w1, Fr (One g) W w1 → Blk w1 g t (cs.set i v) → K (a.put N undef) w1) : if Region.wanted o (yielded ops a.tmps) = true then Oper.wp P o a W K Q else E := by
  subst hd
  exact step_store hgd ty x y ho g i v hx hy hv t cs hb hil hi h
/-- 'copy(b, s)', s a text that is no longer than b. -/
theorem ev_copy_str (hgd : o.guard = none) (d s : Operand) (dT sT e : TypeId) (ho : o.op = .call { callee := .builtin .copy, args := #[d, s], argTypes := #[dT, sT] })
    (hu : P.underlying dT = some (.slice e)) (hsz : (P.info? e).map (·.size) = some 1) (g dLen dCap : Nat) (l : List UInt8)
    (hd : a.eval d = .slice (some ⟨g, 0, none⟩) dLen dCap) (hs : a.eval s = .string (bs l)) (t : TypeId) (cur : List Value) (hb : Blk W g t cur) (hle : l.length ≤ dLen) (hfit : l.length ≤ cur.length)
    (h : ∀ w1, Fr (One g) W w1 → Blk w1 g t (u8s l ++ cur.drop l.length) → wpList P ops Q rest (a.put o.dst (.int .i64 (l.length : Int))) w1) : wpList P ops Q (o :: rest) a W := by
  have hz : (bs l).size = l.length := bs_size l
  have hr := fun ty => Lib.run_copy_row_string (P := P) W dT sT ty e g 0 dLen dCap (bs l) cur.toArray t hu hsz hb.out (by rw [hz]; exact hle) (by rw [hz]; simpa using hfit)
  refine run_value hgd (w1 := W.setRow g (cur.take 0 ++ u8s l ++ cur.drop (0 + (bs l).size)).toArray) (v := .int .i64 (l.length : Int)) ?_ (h _ (Fr.setRow _ _ _) (by have := hb.row (cur.take 0 ++ u8s l ++ cur.drop (0 + (bs l).size)); rw [List.take_zero, List.nil_append, Nat.zero_add, hz] at this; rw [List.take_zero, List.nil_append, Nat.zero_add, hz]; exact this))
  simp [execOp, ho, resolve, invoke, builtin, Sem.run_bind, Sem.run_pure, Result.andThen_ok, hd, hs, hr, goInt, hz, Lib.byteCells]
end

/-- A disk of which a narrower footprint is known. -/
theorem Dk.wide {w : World} {S T : Nat → Prop} {b m : Nat} {D : DiskS} (h : Dk w S b m D) (hs : ∀ k, S k → T k) : Dk w T b m D := by
  obtain ⟨v, hv, h1⟩ := h.ex
  exact ⟨⟨v, hv, fun k hk => hs k (h1 k hk)⟩, hs _ h.sb, hs _ h.sm, fun k hk => hs k (h.top k hk)⟩

set_option maxHeartbeats 8000000 in
set_option maxRecDepth 100000 in
theorem write_reg (S : Nat → Prop) (b m gb : Nat) (a : Int) (d : List UInt8) (hd : d.length ≤ 32) (D : DiskS) (W : World) (u : Nat → Value) (h : Dk W S b m D) (hg : Blk W gb 5 (u8s (padL d))) (hn : ¬ S gb) (hl : D.wait.length ≤ 1073741824) (Q : Exit → Act → World → Prop)
    (hQ : ∀ (u : Nat → Value) ws, Dk ws S b m (waitD D a d) → Fr S W ws → Q .normal { tmps := List.toArray (.pointer (some ⟨b, 0, none⟩) :: .int .i64 a :: .string (bs d) :: u 3 :: u 4 :: u 5 :: u 6 :: u 7 :: .slice (some ⟨gb, 0, none⟩) 32 32 :: u 9 :: u 10 :: u 11 :: u 12 :: u 13 :: u 14 :: u 15 :: u 16 :: u 17 :: u 18 :: u 19 :: u 20 :: u 21 :: u 22 :: u 23 :: u 24 :: u 25 :: u 26 :: u 27 :: u 28 :: u 29 :: u 30 :: u 31 :: u 32 :: u 33 :: u 34 :: u 35 :: u 36 :: u 37 :: u 38 :: []), defers := [] } ws) :
    Code.wp Try.prog (sub [1,1,1,1,1,0] bodyDW) Q { tmps := List.toArray (.pointer (some ⟨b, 0, none⟩) :: .int .i64 a :: .string (bs d) :: u 3 :: u 4 :: u 5 :: u 6 :: u 7 :: .slice (some ⟨gb, 0, none⟩) 32 32 :: u 9 :: u 10 :: u 11 :: u 12 :: u 13 :: u 14 :: u 15 :: u 16 :: u 17 :: u 18 :: u 19 :: u 20 :: u 21 :: u 22 :: u 23 :: u 24 :: u 25 :: u 26 :: u 27 :: u 28 :: u 29 :: u 30 :: u 31 :: u 32 :: u 33 :: u 34 :: u 35 :: u 36 :: u 37 :: u 38 :: []), defers := [] } W := by
  conv => arg 2; whnf
  obtain ⟨v, hv, hs⟩ := h.ex
  have HB := Kp.mk hv
  have HS := Kp.mk hs
  have HOFF := Kp.mk hv.off
  have HQ := Kp.mk hQ
  obtain ⟨i0, hi0, hz0, hz1, hz2⟩ := info_parts infoWr
  have fd := (Fr.refl No W).drew
  have FINI : Kp (∀ {w2 ws : World} (g9 c9 : Nat), Fr (Own v) W w2 → w2.ownsRow 0 119 2 (.slice (some ⟨g9, 0, none⟩) (D.wait.length + 1) c9) (D.wait.length + 1) (waitV D.wait ++ [.int .i64 a, .string (bs (padL d))]) → (v.ownBlock = some g9 ∨ W.heap.size ≤ g9) → Fr (One b) w2 ws →
      Blk ws b 116 [.int .i64 (D.size : Int), .map (some m), .slice (some ⟨g9, 0, none⟩) (D.wait.length + 1) c9, .int .i64 D.cutAt, .int .u64 0, .int .i64 D.count, .bool D.down] → Dk ws S b m (waitD D a d) ∧ Fr S W ws) := ⟨fun g9 c9 f2 o9 hat fs bs' => by
    have hsg : S g9 := hat.elim (fun e => hs g9 e) (fun e => h.top g9 e)
    have hbn : g9 ≠ b := hat.elim (fun e => hv.off g9 e) (fun e => by have := hv.blk.lt; omega)
    have hml : m ≠ b := hv.ne
    have hmv : ∀ k, Own v k → k ≠ m := fun k hk => hv.offm k hk
    have f3 : Fr S W _ := (f2.mono (fun i hi => .inl (hs i hi))).one fs (.inl h.sb)
    refine ⟨⟨⟨_, ⟨bs', (hv.lasts.keep f2 (fun e => hmv m e rfl)).keep fs (fun e => hml e), ?_⟩, fun k hk => by
      have : g9 = k := by simpa [Value.ownBlock] using hk
      subst this; exact hsg⟩, h.sb, h.sm, fun k hk => h.top k (Nat.le_trans f3.size hk)⟩, f3⟩
    have := own_keep o9 fs (fun k hk e => by
      have hk' : g9 = k := by simpa [Value.ownBlock] using hk
      subst hk'; exact hbn e)
    simpa [waitD, waitV] using this⟩
  clear h hQ hv hs
  refine region_join (τ := Unit) (fun (u : Nat → Value) t => [(24, u 24), (25, u 25), (26, u 26), (27, u 27), (28, u 28), (29, u 29), (30, u 30), (31, u 31), (32, u 32), (33, u 33), (34, u 34), (35, u 35), (36, u 36)]) (fun _ ws => Dk ws S b m (waitD D a d) ∧ Fr S W ws) ?_ ?_
  rotate_left
  · rintro u' _ ws ⟨q1, q2⟩
    simp only [putAll, Act.put, List.setIfInBounds_toArray, List.set_cons_zero, List.set_cons_succ]
    exact K_u (K := Q .normal) (fun u => HQ.out u ws q1 q2) rfl
  refine start_ (n := 14) (S := (fun w' => Blk w' b 116 [.int .i64 (D.size : Int), .map (some m), v, .int .i64 D.cutAt, .int .u64 0, .int .i64 D.count, .bool D.down] ∧ Blk w' gb 5 (u8s (padL d)) ∧ Fr (Own v) W w')) (ds := [13]) #[false, false, false, false, false, false, false, false, false, false, false, false, false, false] (by kernel_rfl) rfl rfl ⟨HB.out.blk.no fd, hg.no fd, fd.mono (fun i h => h.elim)⟩ (fun hHeld => ?_)
  refine pure_ (i := 0) (N := some 24) (v := ?_) (a' := ?_) #[true, false, false, false, false, false, false, false, false, false, false, false, false, false] rfl rfl (by kernel_rfl) (fun _ _ _ h => h.pan) (Or.inl ⟨by rfl, ?_⟩) ?_ ?_
  rotate_left
  · intro w'; go_simp; with_reducible rfl
  rotate_left
  · simp only [Act.put, List.setIfInBounds_toArray, List.set_cons_zero, List.set_cons_succ]; rfl
  refine pure_ (i := 1) (N := some 25) (v := ?_) (a' := ?_) #[true, true, false, false, false, false, false, false, false, false, false, false, false, false] rfl rfl (by kernel_rfl) (fun _ _ _ h => h.pan) (Or.inl ⟨by rfl, ?_⟩) ?_ ?_
  rotate_left
  · intro w'; go_simp; with_reducible rfl
  rotate_left
  · simp only [Act.put, List.setIfInBounds_toArray, List.set_cons_zero, List.set_cons_succ]; rfl
  refine pure_ (i := 2) (N := some 26) (v := ?_) (a' := ?_) #[true, true, true, false, false, false, false, false, false, false, false, false, false, false] rfl rfl (by kernel_rfl) (fun _ _ _ h => h.pan) (Or.inl ⟨by rfl, ?_⟩) ?_ ?_
  rotate_left
  · intro w'; go_simp; with_reducible rfl
  rotate_left
  · simp only [Act.put, List.setIfInBounds_toArray, List.set_cons_zero, List.set_cons_succ]; rfl
  refine pure_ (i := 3) (N := some 27) (v := ?_) (a' := ?_) #[true, true, true, true, false, false, false, false, false, false, false, false, false, false] rfl rfl (by kernel_rfl) (fun _ _ _ h => h.pan) (Or.inl ⟨by rfl, ?_⟩) ?_ ?_
  rotate_left
  · intro w'; go_simp; with_reducible rfl
  rotate_left
  · simp only [Act.put, List.setIfInBounds_toArray, List.set_cons_zero, List.set_cons_succ]; rfl
  refine pure_ (i := 5) (N := some 29) (v := ?_) (a' := ?_) #[true, true, true, true, false, true, false, false, false, false, false, false, false, false] rfl rfl (by kernel_rfl) (fun _ _ _ h => h.pan) (Or.inl ⟨by rfl, ?_⟩) ?_ ?_
  rotate_left
  · intro w'; go_simp; with_reducible rfl
  rotate_left
  · simp only [Act.put, List.setIfInBounds_toArray, List.set_cons_zero, List.set_cons_succ]; rfl
  refine pure_ (i := 6) (N := some 30) (v := ?_) (a' := ?_) #[true, true, true, true, false, true, true, false, false, false, false, false, false, false] rfl rfl (by kernel_rfl) (fun _ _ _ h => h.pan) (Or.inl ⟨by rfl, ?_⟩) ?_ ?_
  rotate_left
  · intro w'; go_simp; with_reducible rfl
  rotate_left
  · simp only [Act.put, List.setIfInBounds_toArray, List.set_cons_zero, List.set_cons_succ]; rfl
  refine take_ (i := 4) (N := some 28) (v := ?_) (a' := ?_) #[true, true, true, true, true, true, true, false, false, false, false, false, false, false] rfl rfl (by kernel_rfl) (fun _ _ _ h => h.pan) (Or.inl ⟨by rfl, ?_⟩) hHeld ?_ ?_
  rotate_left
  · rintro w' ⟨s0, s1, s2⟩; have c2 := s0.at_ 2 rfl; have hcv := conv_blk s1 (padL_len d hd); go_simp; with_reducible rfl
  rotate_left
  · simp only [Act.put, List.setIfInBounds_toArray, List.set_cons_zero, List.set_cons_succ]; rfl
  refine take_ (i := 7) (N := some 31) (v := ?_) (a' := ?_) #[true, true, true, true, true, true, true, true, false, false, false, false, false, false] rfl rfl (by kernel_rfl) (fun _ _ _ h => h.pan) (Or.inl ⟨by rfl, ?_⟩) hHeld ?_ ?_
  rotate_left
  · rintro w' ⟨s0, s1, s2⟩; have c2 := s0.at_ 2 rfl; have hcv := conv_blk s1 (padL_len d hd); go_simp; with_reducible rfl
  rotate_left
  · simp only [Act.put, List.setIfInBounds_toArray, List.set_cons_zero, List.set_cons_succ]; rfl
  refine pure_ (i := 8) (N := some 32) (v := ?_) (a' := ?_) #[true, true, true, true, true, true, true, true, true, false, false, false, false, false] rfl rfl (by kernel_rfl) (fun _ _ _ h => h.pan) (Or.inl ⟨by rfl, ?_⟩) ?_ ?_
  rotate_left
  · intro w'; go_simp; with_reducible rfl
  rotate_left
  · simp only [Act.put, List.setIfInBounds_toArray, List.set_cons_zero, List.set_cons_succ]; rfl
  refine one_ (i := 9) (N := some 33) #[true, true, true, true, true, true, true, true, true, true, false, false, false, false] rfl rfl (by kernel_rfl) (by decide) (fun K hK => ?_)
  refine step_lit (N := some 33) rfl rfl 119 [.int .i64 a, .string (bs (padL d))] 1 (by first | (go_simp; done) | (go_simp; rfl)) ?_; intro gl w1 hgl f1 bl; refine hK.out _ _ ⟨hHeld.1.no f1, hHeld.2.1.no f1, hHeld.2.2.no f1⟩ (fun hHeld => ?_)
  clear hK K
  refine norm_ (a' := ?_) ?_ ?_
  rotate_left
  · simp only [Act.put, List.setIfInBounds_toArray, List.set_cons_zero, List.set_cons_succ]; rfl
  refine one_ (i := 10) (N := some 34) #[true, true, true, true, true, true, true, true, true, true, true, false, false, false] rfl rfl (by kernel_rfl) (by decide) (fun K hK => ?_)
  refine step_append_lies _ rfl (.tmp 28) (.tmp 33) 114 rfl 0 119 i0 (.agg #[.int .i64 0, .string ⟨#[]⟩]) 2 24 Try.underlying114 hi0 hz0 hz1 hz2 rfl (by decide) v D.wait.length (waitV D.wait) rfl (own_no (own_no HB.out.wait fd) f1) ⟨gl, 0, none⟩ 1 1 [.int .i64 a, .string (bs (padL d))] rfl rfl (news_blk bl) (by simp [Value.oneCell']) (by decide) (by simp only [maxLen]; omega) (by omega) (Nat.zero_le _) _ rfl ?_; intro g9 c9 w2 o9 gr9 hat9 hlt9; have f2 := Fr.of_grown gr9; refine hK.out _ _ ⟨hHeld.1.keep f2 (fun hk => HOFF.out b hk rfl), hHeld.2.1.keep f2 (fun hk => hn (HS.out gb hk)), hHeld.2.2.trans f2 (fun i h => .inl h)⟩ (fun hHeld => ?_)
  clear hK K
  refine norm_ (a' := ?_) ?_ ?_
  rotate_left
  · simp only [Act.put, List.setIfInBounds_toArray, List.set_cons_zero, List.set_cons_succ]; rfl
  refine pure_ (i := 11) (N := some 35) (v := ?_) (a' := ?_) #[true, true, true, true, true, true, true, true, true, true, true, true, false, false] rfl rfl (by kernel_rfl) (fun _ _ _ h => h.pan) (Or.inl ⟨by rfl, ?_⟩) ?_ ?_
  rotate_left
  · intro w'; go_simp; with_reducible rfl
  rotate_left
  · simp only [Act.put, List.setIfInBounds_toArray, List.set_cons_zero, List.set_cons_succ]; rfl
  refine pure_ (i := 12) (N := some 36) (v := ?_) (a' := ?_) #[true, true, true, true, true, true, true, true, true, true, true, true, true, false] rfl rfl (by kernel_rfl) (fun _ _ _ h => h.pan) (Or.inl ⟨by rfl, ?_⟩) ?_ ?_
  rotate_left
  · intro w'; go_simp; with_reducible rfl
  rotate_left
  · simp only [Act.put, List.setIfInBounds_toArray, List.set_cons_zero, List.set_cons_succ]; rfl
  refine last_ (i := 13) (N := none) #[true, true, true, true, true, true, true, true, true, true, true, true, true, true] rfl rfl (by kernel_rfl) (by decide) (fun K hK => ?_)
  refine step_storeN (N := none) rfl rfl 114 (.tmp 36) (.tmp 34) rfl b 2 (.slice (some ⟨g9, 0, none⟩) (D.wait.length + 1) c9) rfl rfl rfl 116 _ hHeld.1 (by show 2 < 7; decide) sizeWrs ?_; intro ws fs bs'; refine hK.out _ _ ?_
  clear hK K
  refine norm_ (a' := ?_) ?_ ?_
  rotate_left
  · simp only [Act.put, List.setIfInBounds_toArray, List.set_cons_zero, List.set_cons_succ]; rfl
  refine done_ (by kernel_rfl) ?_
  refine join_fin () ?_ ?_; exact FINI.out g9 c9 hHeld.2.2 o9 (hat9.elim (fun e => .inl e) (fun e => .inr (by rw [e]; exact Nat.le_trans fd.size f1.size))) fs bs'; (simp only [putAll, Act.put, List.setIfInBounds_toArray, List.set_cons_zero, List.set_cons_succ]; rfl)
end Go.Proofs.Ytaohfmmapammcaa.Pl

/- A disk's Write and Read, whole. Conditions: sizes are bounded, as written out. -/
set_option linter.unusedSimpArgs false
set_option linter.unusedVariables false
namespace Go.Proofs.Ytaohfmmapammcaa.Pl
open Go Go.RowKit Go.Proofs.YtaohfmmapammcaaW.PrintWords Go.Proofs.YtaohfmmapammcaaW.PrintLast Go.Proofs.Ytaohfmmapammcaa.Sha Go.Proofs.Ytaohfmmapammcaa.Dig Go.Proofs.Ytaohfmmapammcaa.Ev Go.Proofs.Ytaohfmmapammcaa.Reg

theorem pad_copy (d : List UInt8) (hd : d.length ≤ 32) : u8s d ++ (List.replicate 32 (Value.int .u8 0)).drop d.length = u8s (padL d) := by
  unfold padL u8s
  rw [List.drop_replicate, List.map_append, List.map_replicate]
  rfl
set_option maxHeartbeats 4000000 in
set_option maxRecDepth 100000 in
theorem write_any {w : World} {S : Nat → Prop} {b m : Nat} {D : DiskS} (h : Dk w S b m D) (a : Int) (d : List UInt8) (h0 : 0 ≤ D.count) (h1 : D.count ≤ 1099511627776) (hl : D.wait.length ≤ 1073741824) (hdl : d.length ≤ 1099511627776) :
    Calls Try.prog 20 #[.pointer (some ⟨b, 0, none⟩), .int .i64 a, .string (bs d)] w fun e w' => e = .returned (.int .i64 (writeD D a d).2) ∧ Dk w' S b m (writeD D a d).1 ∧ Fr S w w' := by
  have H := Kp.mk h
  obtain ⟨v, hv, hs⟩ := h.ex
  have CA := Kp.mk (asked_any hv a)
  have hsz : (bs d).size = d.length := bs_size d
  clear h hs hv
  by_cases ha : askedD D a = 0
  · by_cases hd : d.length ≤ 32
    · have hdz : (d.length : Int) ≤ 32 := by omega
      cases hf : failB D with
      | true =>
        have HD : Kp (writeD D a d = (failD (waitD D a d), 7)) := ⟨by unfold writeD; rw [if_neg (by omega), if_neg (by omega), hf]; rfl⟩
        have HF : Kp (failB (waitD D a d) = true) := ⟨hf⟩
        rw [ha] at CA
        clear ha hf
        go_enter Try.func20, Try.ntmps20
        go_wp2_with (first
          | (go_at_call 69; refine CA.out.mono ?_; rintro e w1 ⟨rfl, hww⟩; subst hww)
          | ((with_reducible refine gate_dst (N := 20) rfl ?_); refine ev_make rfl 43 5 _ _ rfl 32 rfl rfl Try.underlying43 infoByte (by decide) ?_; intro gb w2 hgb f2 b2)
          | ((with_reducible refine gate_dst (N := 23) rfl ?_); refine ev_copy_str rfl (.tmp 21) (.tmp 22) 43 9 5 rfl Try.underlying43 sizeByte gb 32 32 d rfl rfl 5 _ b2 hd (by simpa using hd) ?_; intro w3 f3 b3))
        have hgl : gb < w2.heap.size := b2.lt
        rw [pad_copy d hd] at b3
        refine wp_u (fun u => write_reg (Less S gb) b m gb a d hd D w3 u ((H.out.less_new f2 hgb hgl).one f3 (fun hh => hh.2 rfl)) b3 (fun hh => hh.2 rfl) hl _ ?_) rfl
        intro u ws q1 q2
        have CF := Kp.mk (fails_any q1 h0 h1 (by show (D.wait ++ _).length ≤ _; simp; omega))
        rw [HF.out] at CF
        go_wp2_with (go_at_call 70; refine CF.out.mono ?_; rintro e w5 ⟨rfl, h5, f5⟩)
        go_ret
        exact ⟨by rw [HD.out]; rfl, by rw [HD.out]; exact h5.wide (fun k hk => hk.1), (((f2.mono (fun i e => e.elim)).one f3 (.inr hgb)).trans (Pl.Fr.less q2) (fun i e => .inl e)).trans (Pl.Fr.less f5) (fun i e => .inl e)⟩
      | false =>
        have HD : Kp (writeD D a d = (failD (waitD D a d), 0)) := ⟨by unfold writeD; rw [if_neg (by omega), if_neg (by omega), hf]; rfl⟩
        have HF : Kp (failB (waitD D a d) = false) := ⟨hf⟩
        rw [ha] at CA
        clear ha hf
        go_enter Try.func20, Try.ntmps20
        go_wp2_with (first
          | (go_at_call 69; refine CA.out.mono ?_; rintro e w1 ⟨rfl, hww⟩; subst hww)
          | ((with_reducible refine gate_dst (N := 20) rfl ?_); refine ev_make rfl 43 5 _ _ rfl 32 rfl rfl Try.underlying43 infoByte (by decide) ?_; intro gb w2 hgb f2 b2)
          | ((with_reducible refine gate_dst (N := 23) rfl ?_); refine ev_copy_str rfl (.tmp 21) (.tmp 22) 43 9 5 rfl Try.underlying43 sizeByte gb 32 32 d rfl rfl 5 _ b2 hd (by simpa using hd) ?_; intro w3 f3 b3))
        have hgl : gb < w2.heap.size := b2.lt
        rw [pad_copy d hd] at b3
        refine wp_u (fun u => write_reg (Less S gb) b m gb a d hd D w3 u ((H.out.less_new f2 hgb hgl).one f3 (fun hh => hh.2 rfl)) b3 (fun hh => hh.2 rfl) hl _ ?_) rfl
        intro u ws q1 q2
        have CF := Kp.mk (fails_any q1 h0 h1 (by show (D.wait ++ _).length ≤ _; simp; omega))
        rw [HF.out] at CF
        go_wp2_with (go_at_call 70; refine CF.out.mono ?_; rintro e w5 ⟨rfl, h5, f5⟩)
        go_ret
        exact ⟨by rw [HD.out]; rfl, by rw [HD.out]; exact h5.wide (fun k hk => hk.1), (((f2.mono (fun i e => e.elim)).one f3 (.inr hgb)).trans (Pl.Fr.less q2) (fun i e => .inl e)).trans (Pl.Fr.less f5) (fun i e => .inl e)⟩
    · have hdz : (32 : Int) < (d.length : Int) := by omega
      have HD : Kp (writeD D a d = (D, 3)) := ⟨by unfold writeD; rw [if_neg (by omega), if_pos (by omega)]⟩
      rw [ha] at CA
      clear ha hd
      go_enter Try.func20, Try.ntmps20
      go_wp2_with (go_at_call 69; refine CA.out.mono ?_; rintro e w1 ⟨rfl, hww⟩; subst hww)
      go_ret
      exact ⟨by rw [HD.out]; rfl, by rw [HD.out]; exact H.out, Fr.refl _ _⟩
  · have HD : Kp (writeD D a d = (D, askedD D a)) := ⟨by unfold writeD; rw [if_pos ha]⟩
    have hab : (askedD D a != 0) = true := by simpa using ha
    generalize askedD D a = x at CA HD hab
    clear ha
    go_enter Try.func20, Try.ntmps20
    go_wp2_with (go_at_call 69; refine CA.out.mono ?_; rintro e w1 ⟨rfl, hww⟩; subst hww)
    go_ret
    exact ⟨by rw [HD.out]; rfl, by rw [HD.out]; exact H.out, Fr.refl _ _⟩

/-! Read. -/
theorem found_at {D : DiskS} {a : Int} {i : Nat} {x : Int × B} (hx : D.wait[i]? = some x) (he : x.1 = a) (hn : ∀ (j : Nat) (y : Int × B), i < j → D.wait[j]? = some y → y.1 ≠ a) : foundD D a = x.2 := by
  obtain ⟨hi, hxx⟩ := List.getElem?_eq_some_iff.1 hx
  have : D.wait.reverse.find? (fun x => x.1 == a) = some x := by
    rw [List.find?_eq_some_iff_getElem]
    refine ⟨by simpa using he, D.wait.length - 1 - i, by simp; omega, ?_, fun j hj => ?_⟩
    · rw [List.getElem_reverse]
      rw [← hxx]
      congr 1
      omega
    · rw [List.getElem_reverse]
      have hjl : D.wait.length - 1 - j < D.wait.length := by omega
      have := hn (D.wait.length - 1 - j) _ (by omega) (List.getElem?_eq_getElem hjl)
      simpa using this
  unfold foundD
  rw [this]
theorem found_none {D : DiskS} {a : Int} (hn : ∀ (j : Nat) (y : Int × B), D.wait[j]? = some y → y.1 ≠ a) : foundD D a = secF D.lasts a := by
  have : D.wait.reverse.find? (fun x => x.1 == a) = none := by
    rw [List.find?_eq_none]
    intro x hx
    obtain ⟨j, hj⟩ := List.getElem?_of_mem (List.mem_reverse.1 hx)
    simpa using hn j x hj
  unfold foundD
  rw [this]

set_option maxHeartbeats 4000000 in
set_option maxRecDepth 100000 in
theorem read_any {w : World} {S : Nat → Prop} {b m : Nat} {D : DiskS} (h : Dk w S b m D) (a : Int) (hl : D.wait.length ≤ 1099511627776) :
    Calls Try.prog 25 #[.pointer (some ⟨b, 0, none⟩), .int .i64 a] w fun e w' => e = .returned (.tuple #[.string (bs (readD D a).1), .int .i64 (readD D a).2]) ∧ w' = w := by
  obtain ⟨v, hv, hs⟩ := h.ex
  have CA := Kp.mk (asked_any hv a)
  clear h hs
  by_cases ha : askedD D a = 0
  · have HD : Kp (readD D a = (foundD D a, 0)) := ⟨by unfold readD; rw [if_neg (by omega)]⟩
    obtain ⟨A, c, rfl⟩ := own_slice hv.wait
    have HB := Kp.mk hv
    have c2 := hv.blk.at_ 2 rfl
    have c1 := hv.blk.at_ 1 rfl
    rw [ha] at CA
    obtain ⟨l, hll⟩ : ∃ l, l = D.wait := ⟨_, rfl⟩
    have HL := Kp.mk hll
    have ROW := Kp.mk hv.wait
    rw [← hll] at ROW c2 hl
    clear ha hv hll
    go_enter Try.func25, Try.ntmps25
    go_wp2_with (go_at_call 69; refine CA.out.mono ?_; rintro e w1 ⟨rfl, hww⟩; subst hww)
    go_loopg [7] l.length (fun gg s wr => ∃ i : Nat, i ≤ l.length ∧ i ≤ gg ∧ s = .int .i64 ((i : Int) - 1) ∧ wr = w1 ∧ Kp (∀ (j : Nat) (y : Int × B), i ≤ j → l[j]? = some y → y.1 ≠ a))
    case atStart => exact ⟨l.length, Nat.le_refl _, Nat.le_refl _, rfl, rfl, ⟨fun j y hj hy => by rw [List.getElem?_eq_none hj] at hy; cases hy⟩⟩
    case round =>
      obtain ⟨i, hi, hg, rfl, rfl, N⟩ := hrel
      cases i with
      | succ i =>
        rw [show (((i + 1 : Nat) : Int) - 1) = (i : Int) by omega]
        have hi0 : (0 : Int) ≤ (i : Int) := by omega
        have hlt : i < l.length := by omega
        have hltz : (i : Int) < (l.length : Int) := by omega
        obtain ⟨x, hx⟩ : ∃ x, l[i]? = some x := ⟨_, List.getElem?_eq_getElem hlt⟩
        obtain ⟨g, c', e, hgl, hcc⟩ := row_at ROW.out (by omega)
        injection e with e1 e2 e3
        subst e1 e3
        obtain ⟨l1, l2⟩ := hcc i x hx
        have HX := Kp.mk hx
        clear hcc hx e2
        by_cases he : x.1 = a
        · have HE := Kp.mk he
          have hF : Kp (foundD D a = x.2) := ⟨found_at (by rw [← HL.out]; exact HX.out) he (fun j y hj hy => N.out j y (by omega) (by rw [HL.out]; exact hy))⟩
          have heb : (x.1 == a) = true := by simpa using he
          clear he
          go_wp2_with fail
          go_ret2
          exact ⟨by rw [HD.out, hF.out]; rfl, rfl⟩
        · have heb : (x.1 == a) = false := by simpa using he
          have NX : Kp (∀ (j : Nat) (y : Int × B), i ≤ j → l[j]? = some y → y.1 ≠ a) := ⟨fun j y hj hy => by
            by_cases e : j = i
            · subst e
              rw [HX.out] at hy
              cases hy
              exact he
            · exact N.out j y (by omega) hy⟩
          clear he
          go_wp2_with fail
          go_roundg i
          case measure => omega
          case rel => exact ⟨i, by omega, Nat.le_refl _, rfl, rfl, NX⟩
      | zero =>
        have hF : Kp (foundD D a = secF D.lasts a) := ⟨found_none (fun j y hy => N.out j y (Nat.zero_le _) (by rw [HL.out]; exact hy))⟩
        have M := HB.out.lasts
        clear N
        cases hf : D.lasts a with
        | some s =>
          have hs : Kp (secF D.lasts a = s) := ⟨by unfold secF; rw [hf]; rfl⟩
          have hlf : lastsF D.lasts (.int .i64 a) = some (.string (bs s)) := by simp [lastsF, hf]
          have HLF := Kp.mk hlf
          have MM := Kp.mk M
          clear hf hlf M
          go_wp2_with ((with_reducible refine gate_dst (N := 50) rfl ?_); refine ev_lookup rfl 113 3 9 _ _ _ rfl MM.out rfl Try.underlying113 Try.underlying3 (.string ⟨#[]⟩) zeroStr (.int .i64 a) rfl (by constructor) ?_; rw [HLF.out]; simp only [if_true, Option.getD_some, Option.isSome_some])
          go_ret2
          exact ⟨by rw [HD.out, hF.out, hs.out]; rfl, rfl⟩
        | none =>
          have hs : Kp (secF D.lasts a = zero32) := ⟨by unfold secF; rw [hf]; rfl⟩
          have hlf : lastsF D.lasts (.int .i64 a) = none := by simp [lastsF, hf]
          have HLF := Kp.mk hlf
          have MM := Kp.mk M
          clear hf hlf M
          go_wp2_with ((with_reducible refine gate_dst (N := 50) rfl ?_); refine ev_lookup rfl 113 3 9 _ _ _ rfl MM.out rfl Try.underlying113 Try.underlying3 (.string ⟨#[]⟩) zeroStr (.int .i64 a) rfl (by constructor) ?_; rw [HLF.out]; simp only [if_true, Option.getD_none, Option.isSome_none])
          go_ret2
          exact ⟨by rw [HD.out, hF.out, hs.out]; rfl, rfl⟩
  · have HD : Kp (readD D a = ([], askedD D a)) := ⟨by unfold readD; rw [if_pos ha]⟩
    have hab : (askedD D a != 0) = true := by simpa using ha
    generalize askedD D a = x at CA HD hab
    clear ha hv
    go_enter Try.func25, Try.ntmps25
    go_wp2_with (go_at_call 69; refine CA.out.mono ?_; rintro e w1 ⟨rfl, hww⟩; subst hww)
    go_ret2
    exact ⟨by rw [HD.out]; rfl, rfl⟩
end Go.Proofs.Ytaohfmmapammcaa.Pl

/- plate's num, number, told. Conditions: sizes are bounded, as written out. -/
set_option linter.unusedSimpArgs false
set_option linter.unusedVariables false
namespace Go.Proofs.Ytaohfmmapammcaa.Pl
open Go Go.RowKit Go.Proofs.YtaohfmmapammcaaW.PrintWords Go.Proofs.Ytaohfmmapammcaa.Sha Go.Proofs.Ytaohfmmapammcaa.Dig Go.Proofs.Ytaohfmmapammcaa.Ev

theorem or_byte (y : Int) (c : UInt8) (h0 : 0 ≤ y) (h1 : y < 4294967296) : Go.bits .or .i64 (y * 256) (c.toNat : Int) = y * 256 + c.toNat := by
  obtain ⟨n, rfl⟩ := Int.eq_ofNat_of_zero_le h0
  have hc := c.toNat_lt
  have e : ((n : Int) * 256) = ((n * 256 : Nat) : Int) := by omega
  rw [e]
  show IntKind.i64.wrap ((BitVec.ofInt 64 ((n * 256 : Nat) : Int) ||| BitVec.ofInt 64 (c.toNat : Int)).toNat : Int) = _
  have e1 : ∀ k : Nat, k < 1099511627776 → (BitVec.ofInt 64 (k : Int)).toNat = k := fun k hk => by
    rw [BitVec.ofInt_natCast, BitVec.toNat_ofNat]; exact Nat.mod_eq_of_lt (by omega)
  have e2 : n * 256 ||| c.toNat = n * 256 + c.toNat := by
    have := Nat.shiftLeft_add_eq_or_of_lt (i := 8) (b := c.toNat) (by omega) n
    rw [Nat.shiftLeft_eq] at this
    exact this.symm
  rw [BitVec.toNat_or, e1 _ (by omega), e1 _ (by omega), e2, IntKind.wrap_i64]
  omega

def b4 (n : Int) : List UInt8 := numB 4 n
theorem b4_vals (n : Int) (h0 : 0 ≤ n) (h1 : n < 4294967296) : (numB 4 n).map (fun b => Value.int .u8 (b.toNat : Int)) = [.int .u8 (n / 16777216), .int .u8 (n / 65536 % 256), .int .u8 (n / 256 % 256), .int .u8 (n % 256)] := by
  have e : ∀ x : Int, ((UInt8.ofNat (x % 256).toNat).toNat : Int) = x % 256 := fun x => by
    have : (UInt8.ofNat (x % 256).toNat).toNat = (x % 256).toNat := by
      show (x % 256).toNat % 2 ^ 8 = _
      exact Nat.mod_eq_of_lt (by omega)
    rw [this]; omega
  simp only [numB, numL, List.nil_append, List.cons_append, List.map_cons, List.map_nil, e]
  rw [show n / 256 / 256 = n / 65536 by omega, show n / 65536 / 256 = n / 16777216 by omega, show n / 16777216 % 256 = n / 16777216 by omega]

set_option maxHeartbeats 2000000 in
set_option maxRecDepth 100000 in
theorem num_any (n : Int) (h0 : 0 ≤ n) (h1 : n < 4294967296) (w : World) : Calls Try.prog 107 #[.int .i64 n] w fun e w' => e = .returned (.string (bs (numB 4 n))) ∧ Fr No w w' := by
  have HV := Kp.mk (b4_vals n h0 h1)
  go_enter Try.func107, Try.ntmps107
  go_wp2_with (first
    | ((with_reducible refine gate_dst (N := 14) rfl ?_); refine ev_lit rfl 5 [.int .u8 (n / 16777216), .int .u8 (n / 65536 % 256), .int .u8 (n / 256 % 256), .int .u8 (n % 256)] 4 (by first | (go_simp; done) | (go_simp; rfl)) ?_; intro g w1 hg f1 b1; rw [← HV.out] at b1)
    | ((with_reducible refine gate_dst (N := 15) rfl ?_); refine ev_str rfl 43 9 5 (.tmp 14) rfl Try.underlying43 Try.underlying5 Try.underlying9 0 _ 4 5 (numB 4 n) rfl (Blk.owns b1 (by simp [numB_len]) (by simp [maxLen]) (Nat.zero_le _)) ?_))
  go_ret
  exact ⟨rfl, f1⟩

theorem number_take (l : B) (i : Nat) (hi : i < l.length) : numberL (l.take (i + 1)) = numberL (l.take i) * 256 + (l.getD i 0).toNat := by
  rw [List.take_add_one, List.getElem?_eq_getElem hi, Option.toList_some, number_snoc, List.getD_eq_getElem?_getD, List.getElem?_eq_getElem hi]
  rfl
set_option maxHeartbeats 4000000 in
set_option maxRecDepth 100000 in
theorem number_any (l : B) (hl : l.length ≤ 4) (w : World) : Calls Try.prog 106 #[.string (bs l)] w fun e w' => e = .returned (.int .i64 (numberL l)) ∧ Fr No w w' := by
  have hsz : (bs l).size = l.length := bs_size l
  have hbt : ∀ i, i < l.length → bAt (bs l) i = ((l.getD i 0).toNat : Int) := fun i hi => rfl
  have HS := Kp.mk hsz
  have HBT := Kp.mk hbt
  clear hsz hbt
  go_enter Try.func106, Try.ntmps106
  go_wp2_with ((with_reducible refine gate_dst (N := 7) rfl ?_); refine ev_bytes rfl 9 43 (.tmp 6) rfl (bs l) rfl 5 Try.underlying9 Try.underlying43 Try.underlying5 ?_; rw [HS.out]; intro gb cb w1 hgb hgb2 hcb f1 cbs)
  have CBS := Kp.mk cbs
  clear cbs
  go_loopg [3, 9] l.length (fun gg s3 s9 wr => ∃ i : Nat, i ≤ l.length ∧ l.length - i ≤ gg ∧ s3 = .int .i64 (numberL (l.take i)) ∧ s9 = .int .i64 i ∧ wr = w1)
  case atStart => exact ⟨0, Nat.zero_le _, by omega, rfl, rfl, rfl⟩
  case round =>
    obtain ⟨i, hi, hg, rfl, rfl, rfl⟩ := hrel
    by_cases hlt : i < l.length
    · have hltz : (i : Int) < (l.length : Int) := by omega
      have l1 := CBS.out i hlt
      rw [HBT.out i hlt] at l1
      have hn0 : 0 ≤ numberL (l.take i) := (number_range _).1
      have hn1 : numberL (l.take i) < 4294967296 := number_small _ (by have := List.length_take_le i l; omega)
      have HN := Kp.mk (number_take l i hlt)
      generalize hc : l.getD i 0 = c at l1 HN
      have HO := Kp.mk (or_byte _ c hn0 hn1)
      generalize numberL (l.take i) = y at hn0 hn1 HN HO
      have hcl : c.toNat < 256 := c.toNat_lt
      clear hc
      go_wp2_with fail
      go_roundg (l.length - (i + 1))
      case measure => omega
      case rel => exact ⟨i + 1, by omega, by omega, by rw [HN.out, ← HO.out], by go_num, rfl⟩
    · obtain rfl : i = l.length := by omega
      have hltz : ¬ (l.length : Int) < (l.length : Int) := by omega
      rw [List.take_length]
      go_wp2_with fail
      go_ret
      exact ⟨rfl, f1⟩

theorem one_strs {w : World} {g : Nat} {s : List UInt8} (h : Blk w g 9 [.string (bs s)]) : Strs w (some ⟨g, 0, none⟩) [bs s] := by
  obtain ⟨A, c, hv, _, hC⟩ := own_strs (xs := [bs s]) (h.owns (size := 1) (n := 1) (base := 0) (by simp) (by simp [maxLen]) (Nat.zero_le _)) rfl
  injection hv with h1 h2 h3
  rw [← h1] at hC
  exact hC
theorem sumOne_any (c : List UInt8) (hl : c.length ≤ 1099511627776) (W : World) (g : Nat) (hb : Blk W g 9 [.string (bs c)]) : Calls Try.prog 12 #[.slice (some ⟨g, 0, none⟩) 1 1] W fun e w' => e = .returned (.string (bs (sumL c))) ∧ Fr No W w' := by
  have hcat : cat [bs c] = c := by simp [cat, bs]
  have := sum_any (some ⟨g, 0, none⟩) 1 [bs c] W (one_strs hb) (by simp) (by rw [hcat]; exact hl) (by simp)
  rw [hcat] at this
  exact this.mono fun e w' ⟨h1, h2⟩ => ⟨h1, Fr.of_below h2⟩
set_option maxHeartbeats 4000000 in
set_option maxRecDepth 100000 in
theorem told_any (n : Int) (s : B) (h0 : 0 ≤ n) (h1 : n < 4294967296) (hs : s.length ≤ 1073741824) (w : World) : Calls Try.prog 76 #[.int .i64 n, .string (bs s)] w fun e w' => e = .returned (.string (bs (toldL n s))) ∧ Fr No w w' := by
  have hsz : (bs s).size = s.length := bs_size s
  have CN := Kp.mk (num_any n h0 h1)
  have CL := Kp.mk (num_any (s.length : Int) (by omega) (by omega))
  have e1 : bs (numB 4 n) ++ bs (numB 4 (s.length : Int)) ++ bs s = bs (bodyL n s) := by rw [bs_append, bs_append]; rfl
  have e2 : bs (bodyL n s) ++ bs (sumL (bodyL n s)) = bs (toldL n s) := by rw [bs_append]; rfl
  have E1 := Kp.mk e1
  have E2 := Kp.mk e2
  have hb : (bodyL n s).length ≤ 1099511627776 := by rw [bodyL_len]; omega
  have z1 : (bs (numB 4 n)).size = 4 := by rw [bs_size, numB_len]
  have z2 : (bs (numB 4 (s.length : Int))).size = 4 := by rw [bs_size, numB_len]
  have z4 : (bs (bodyL n s)).size = s.length + 8 := by rw [bs_size, bodyL_len]
  have z5 : (bs (sumL (bodyL n s))).size = 32 := by rw [bs_size, sumL_len]
  have CS := Kp.mk (fun W g hb' => sumOne_any (bodyL n s) hb W g hb')
  clear e1 e2
  generalize numB 4 n = x1 at CN E1 z1
  generalize numB 4 (s.length : Int) = x2 at CL E1 z2
  generalize bodyL n s = bd at E1 E2 CS hb z4 z5
  generalize sumL bd = sm at E2 CS z5
  go_enter Try.func76, Try.ntmps76
  go_wp2_with (first
    | (go_at_call 107; (with_reducible refine (CN.out _).mono ?_); rintro e w1 ⟨rfl, f1⟩)
    | (go_at_call 107; (with_reducible refine (CL.out _).mono ?_); rintro e w2 ⟨rfl, f2⟩)
    | ((with_reducible refine gate_dst (N := 16) rfl ?_); rw [E1.out]; refine ev_lit rfl 9 [.string (bs bd)] 1 (by first | (go_simp; done) | (go_simp; rfl)) ?_; intro g w3 hg f3 b3)
    | (go_at_call 12; refine (CS.out _ _ b3).mono ?_; rintro e w4 ⟨rfl, f4⟩))
  go_ret
  exact ⟨by rw [← E2.out]; rfl, ((f1.no f2).no f3).no f4⟩
end Go.Proofs.Ytaohfmmapammcaa.Pl

/- A plate in memory; read. Conditions: sizes are bounded, as written out. -/
set_option linter.unusedSimpArgs false
set_option linter.unusedVariables false
namespace Go.Proofs.Ytaohfmmapammcaa.Pl
open Go Go.RowKit Go.Proofs.YtaohfmmapammcaaW.PrintWords Go.Proofs.YtaohfmmapammcaaW.PrintLast Go.Proofs.Ytaohfmmapammcaa.Sha Go.Proofs.Ytaohfmmapammcaa.Dig Go.Proofs.Ytaohfmmapammcaa.Ev Go.Proofs.Ytaohfmmapammcaa.Reg

/-- A plate's cells. -/
abbrev plL (b : Nat) (p : PlateS) : List Value := [.pointer (some ⟨b, 0, none⟩), .int .i64 (p.half : Int), .int .i64 (p.side : Int), .int .i64 p.number, .string (bs p.text)]
set_option maxHeartbeats 1000000 in
theorem text_any {w : World} {g b : Nat} {p : PlateS} (h : Blk w g 123 (plL b p)) : Calls Try.prog 24 #[.pointer (some ⟨g, 0, none⟩)] w fun e w' => e = .returned (.string (bs p.text)) ∧ w' = w := by
  have c0 := h.at_ 4 rfl
  clear h
  go_enter Try.func24, Try.ntmps24
  go_wp2_with fail
  go_ret
  exact ⟨rfl, rfl⟩
set_option maxHeartbeats 1000000 in
theorem pnumber_any {w : World} {g b : Nat} {p : PlateS} (h : Blk w g 123 (plL b p)) : Calls Try.prog 23 #[.pointer (some ⟨g, 0, none⟩)] w fun e w' => e = .returned (.int .i64 p.number) ∧ w' = w := by
  have c0 := h.at_ 3 rfl
  clear h
  go_enter Try.func23, Try.ntmps23
  go_wp2_with fail
  go_ret
  exact ⟨rfl, rfl⟩
set_option maxHeartbeats 1000000 in
theorem room_any {w : World} {g b : Nat} {p : PlateS} (h : Blk w g 123 (plL b p)) (hh : p.half ≤ 4096) : Calls Try.prog 28 #[.pointer (some ⟨g, 0, none⟩)] w fun e w' => e = .returned (.int .i64 ((p.half : Int) * 32 - 40)) ∧ w' = w := by
  have c0 := h.at_ 1 rfl
  have h1 : (p.half : Int) ≤ 4096 := by omega
  have h2 : (0 : Int) ≤ (p.half : Int) := by omega
  clear h hh
  go_enter Try.func28, Try.ntmps28
  go_wp2_with fail
  go_ret
  exact ⟨rfl, rfl⟩

theorem ext_bs (l : List UInt8) (a b : Nat) : (bs l).extract a b = bs ((l.drop a).take (b - a)) := by
  apply ByteArray.ext
  apply Array.toList_inj.1
  rw [extract_list]
/-- A half's bytes, as far as they were read. -/
theorem half_snoc (f : Int → Option B) (o i : Nat) : ((List.range (i + 1)).flatMap fun j => secF f ((o + j : Nat) : Int)) = ((List.range i).flatMap fun j => secF f ((o + j : Nat) : Int)) ++ secF f ((o + i : Nat) : Int) := by
  rw [List.range_succ, List.flatMap_append]; simp
theorem half_len {f : Int → Option B} (h : ∀ a s, f a = some s → s.length = 32) (o i : Nat) : ((List.range i).flatMap fun j => secF f ((o + j : Nat) : Int)).length = 32 * i := by
  induction i with
  | zero => rfl
  | succ n ih => rw [half_snoc, List.length_append, ih, secF_len h]; omega

noncomputable def bodyRead : Code := Try.f75.body.getD .skip
set_option maxHeartbeats 8000000 in
set_option maxRecDepth 100000 in
theorem read_loop {W : World} {S : Nat → Prop} {b m gp g6 base : Nat} {D : DiskS} {p : PlateS} (u : Nat → Value) (hD : Dk W S b m D) (hg6 : ¬ S g6) (hok : OkD D) (hP : Blk W gp 123 (plL b p)) (hne : gp ≠ g6) (side : Nat) (hs : side ≤ 1) (hh : p.half ≤ 4096)
    (hsz : D.size = 2 * p.half) (hB : Sb.Bld W base g6 (.slice none 0 0) []) (hbase : base ≤ W.heap.size) (Q : Exit → Act → World → Prop)
    (hQ : ∀ (u : Nat → Value) v6 ws, Fr (One g6) W ws → Sb.Bld ws base g6 v6 (halfL D.lasts p.half side) → Q .normal { tmps := List.toArray (.pointer (some ⟨gp, 0, none⟩) :: .int .i64 (side : Int) :: u 2 :: u 3 :: u 4 :: u 5 :: .pointer (some ⟨g6, 0, none⟩) :: u 7 :: u 8 :: u 9 :: u 10 :: u 11 :: u 12 :: u 13 :: u 14 :: u 15 :: u 16 :: u 17 :: u 18 :: u 19 :: u 20 :: u 21 :: u 22 :: u 23 :: u 24 :: u 25 :: u 26 :: u 27 :: u 28 :: u 29 :: u 30 :: u 31 :: u 32 :: u 33 :: u 34 :: u 35 :: u 36 :: u 37 :: u 38 :: u 39 :: u 40 :: u 41 :: u 42 :: u 43 :: u 44 :: u 45 :: u 46 :: u 47 :: u 48 :: u 49 :: u 50 :: u 51 :: u 52 :: u 53 :: u 54 :: u 55 :: u 56 :: u 57 :: u 58 :: u 59 :: u 60 :: u 61 :: u 62 :: u 63 :: u 64 :: u 65 :: u 66 :: u 67 :: []), defers := [] } ws) :
    Code.wp Try.prog (sub [1,1,0,1] bodyRead) Q { tmps := List.toArray (.pointer (some ⟨gp, 0, none⟩) :: .int .i64 (side : Int) :: u 2 :: u 3 :: u 4 :: u 5 :: .pointer (some ⟨g6, 0, none⟩) :: u 7 :: u 8 :: u 9 :: u 10 :: u 11 :: u 12 :: u 13 :: u 14 :: u 15 :: .int .i64 (p.half : Int) :: .int .i64 0 :: u 18 :: u 19 :: u 20 :: u 21 :: u 22 :: u 23 :: u 24 :: u 25 :: u 26 :: u 27 :: u 28 :: u 29 :: u 30 :: u 31 :: u 32 :: u 33 :: u 34 :: u 35 :: u 36 :: u 37 :: u 38 :: u 39 :: u 40 :: u 41 :: u 42 :: u 43 :: u 44 :: u 45 :: u 46 :: u 47 :: u 48 :: u 49 :: u 50 :: u 51 :: u 52 :: u 53 :: u 54 :: u 55 :: u 56 :: u 57 :: u 58 :: u 59 :: u 60 :: u 61 :: u 62 :: u 63 :: u 64 :: u 65 :: u 66 :: u 67 :: []), defers := [] } W := by
  conv => arg 2; whnf
  have HQ := Kp.mk hQ
  have HD := Kp.mk hD
  have HG := Kp.mk hg6
  have HOK := Kp.mk hok
  have HP := Kp.mk hP
  obtain ⟨N, hN⟩ : ∃ N, N = p.half := ⟨_, rfl⟩
  obtain ⟨q, hq⟩ : ∃ q, q = side * p.half := ⟨_, rfl⟩
  have HNN := Kp.mk hN
  have hqN : q ≤ N := by
    rcases (by omega : side = 0 ∨ side = 1) with e | e
    · rw [hq, e, Nat.zero_mul]; omega
    · rw [hq, e, hN]; omega
  have hq0 : Kp (((side : Int) * (N : Int)) = (q : Int)) := ⟨by rw [hq, hN]; simp⟩
  have HQQ := Kp.mk hq
  have hN1 : N ≤ 4096 := by omega
  have hsz' : D.size = 2 * N := by omega
  have HSZ := Kp.mk hsz'
  rw [← hN]
  clear hQ hD hg6 hok hP hN hq hsz' hsz hh
  refine wp_block ?_
  refine wp_loop_ghost_k (fun n a' w' => ∃ (i : Nat) (v6 : Value) (u : Nat → Value), (n + i = N ∧ Fr (One g6) W w' ∧ Sb.Bld w' base g6 v6 ((List.range i).flatMap fun j => secF D.lasts ((q + j : Nat) : Int)) ∧ (∀ k, v6.ownBlock = some k → W.heap.size ≤ k)) ∧ a' = { tmps := List.toArray (.pointer (some ⟨gp, 0, none⟩) :: .int .i64 (side : Int) :: u 2 :: u 3 :: u 4 :: u 5 :: .pointer (some ⟨g6, 0, none⟩) :: u 7 :: u 8 :: u 9 :: u 10 :: u 11 :: u 12 :: u 13 :: u 14 :: u 15 :: .int .i64 (N : Int) :: .int .i64 (i : Int) :: u 18 :: u 19 :: u 20 :: u 21 :: u 22 :: u 23 :: u 24 :: u 25 :: u 26 :: u 27 :: u 28 :: u 29 :: u 30 :: u 31 :: u 32 :: u 33 :: u 34 :: u 35 :: u 36 :: u 37 :: u 38 :: u 39 :: u 40 :: u 41 :: u 42 :: u 43 :: u 44 :: u 45 :: u 46 :: u 47 :: u 48 :: u 49 :: u 50 :: u 51 :: u 52 :: u 53 :: u 54 :: u 55 :: u 56 :: u 57 :: u 58 :: u 59 :: u 60 :: u 61 :: u 62 :: u 63 :: u 64 :: u 65 :: u 66 :: u 67 :: []), defers := [] }) N
    ⟨0, .slice none 0 0, u, ⟨rfl, Fr.refl _ _, hB, fun k hk => by simp [Value.ownBlock] at hk⟩, rfl⟩ ?_
  clear hB
  rintro n a' w' ⟨i, v6, u, ⟨hn, f, bl, hv⟩, rfl⟩ J K hJ hK
  have HJ := Kp.mk hJ
  have HK := Kp.mk hK
  have F := Kp.mk f
  have HN := Kp.mk hn
  have BL := Kp.mk bl
  have HV := Kp.mk hv
  clear hJ hK f hn bl hv
  by_cases hlt : i < N
  · have hltz : (i : Int) < (N : Int) := by omega
    have DW : Dk w' S b m D := HD.out.one F.out HG.out
    have PW : Blk w' gp 123 (plL b p) := HP.out.one F.out hne
    have ha0 : (0 : Int) ≤ ((q + i : Nat) : Int) := by omega
    have has : askedD D ((q + i : Nat) : Int) = 0 := HOK.out.asked _ ha0 (by have := HSZ.out; omega)
    have hrd : readD D ((q + i : Nat) : Int) = (secF D.lasts ((q + i : Nat) : Int), 0) := by
      unfold readD
      rw [if_neg (by omega), HOK.out.found]
    have CR : Kp (∀ n, Calls Try.prog 25 #[.pointer (some ⟨b, 0, none⟩), .int .i64 ((q + i : Nat) : Int)] (w'.drewN n) fun e w'' => e = .returned (.tuple #[.string (bs (secF D.lasts ((q + i : Nat) : Int))), .int .i64 0]) ∧ w'' = w'.drewN n) := ⟨fun n => by
      have h := read_any (DW.no ((Fr.refl No w').drewN n)) ((q + i : Nat) : Int) (by rw [HOK.out.quiet]; simp)
      rw [hrd] at h
      exact h⟩
    have hl32 : (secF D.lasts ((q + i : Nat) : Int)).length = 32 := secF_len HOK.out.full _
    have hln := half_len HOK.out.full q i
    have HSN := Kp.mk (half_snoc D.lasts q i)
    generalize secF D.lasts ((q + i : Nat) : Int) = sc at CR hl32 HSN
    have CW : Kp (∀ n, Calls Try.prog 66 #[.pointer (some ⟨g6, 0, none⟩), .string (bs sc)] (w'.drewN n) fun e w'' => e = .returned (.tuple #[.int .i64 sc.length, .nilIface]) ∧ Sb.Wrote (w'.drewN n) base g6 v6 (((List.range i).flatMap fun j => secF D.lasts ((q + j : Nat) : Int)) ++ sc) w'') := ⟨fun n =>
      Sb.write_any sc (BL.out.no ((Fr.refl No w').drewN n)) (by omega) (Nat.le_trans hbase F.out.size)⟩
    have k0 := PW.at_ 0 rfl
    have k1 := PW.at_ 1 rfl
    rw [← HNN.out] at k1
    have hw1 : IntKind.i64.wrap ((side : Int) * (N : Int)) = (q : Int) := by rw [hq0.out, IntKind.wrap_i64]; omega
    have hw2 : IntKind.i64.wrap ((q : Int) + (i : Int)) = ((q + i : Nat) : Int) := by rw [IntKind.wrap_i64]; omega
    have hi1 : i + 1 ≤ N := hlt
    have hnx : Kp ((((i + 1 : Nat)) : Int) = (i : Int) + 1) := ⟨by omega⟩
    clear has hrd ha0 DW PW
    go_wp2_with fail
    go_quiet ((go_at_call 25; exact Calls.quiet_of_same (CR.out _)))
    rename_i nq
    clear hw1 hw2
    go_wp2_with (go_at_call 66; refine (CW.out _).mono ?_; rintro e w3 ⟨rfl, v7, b7, f7, h7⟩)
    refine HK.out _ _ (Handed.intro (n - 1) (by have := HN.out; omega) (HJ.out _ _ _ ⟨i + 1, v7, ex_u ⟨by have := HN.out; omega, ?_, ?_, ?_⟩ rfl⟩))
    · refine (F.out.drewN nq).trans f7 (fun k hk => ?_)
      rcases hk with rfl | hk
      · exact .inl rfl
      · exact .inr (HV.out k hk)
    · rw [HSN.out]; exact b7
    · intro k hk
      rcases h7 with h7 | ⟨k', h7, h8⟩
      · rw [h7] at hk; exact HV.out k hk
      · rw [h7] at hk
        injection hk with hk
        subst hk
        exact Nat.le_trans F.out.size h8
  · obtain rfl : i = N := by have := HN.out; omega
    have hltz : ¬ (i : Int) < (i : Int) := by omega
    have HH : Kp (halfL D.lasts p.half side = ((List.range i).flatMap fun j => secF D.lasts ((q + j : Nat) : Int))) := ⟨by unfold halfL; rw [← HNN.out, HQQ.out, ← HNN.out]⟩
    go_wp2_with fail
    exact K_u (fun u => HQ.out u v6 _ F.out (by rw [HH.out]; exact BL.out)) rfl
end Go.Proofs.Ytaohfmmapammcaa.Pl

/- plate's read, whole. Conditions: sizes are bounded, as written out. -/
set_option linter.unusedSimpArgs false
set_option linter.unusedVariables false
namespace Go.Proofs.Ytaohfmmapammcaa.Pl
open Go Go.RowKit Go.Proofs.YtaohfmmapammcaaW.PrintWords Go.Proofs.YtaohfmmapammcaaW.PrintLast Go.Proofs.Ytaohfmmapammcaa.Sha Go.Proofs.Ytaohfmmapammcaa.Dig Go.Proofs.Ytaohfmmapammcaa.Ev Go.Proofs.Ytaohfmmapammcaa.Reg
theorem zeroBldr : (Try.prog.info? 105).bind (·.zero) = some (.agg #[.pointer none, .slice none 0 0]) := by kernel_rfl
set_option maxHeartbeats 8000000 in
set_option maxRecDepth 100000 in
theorem readP_any {w : World} {S : Nat → Prop} {b m gp : Nat} {D : DiskS} {p : PlateS} (hD : Dk w S b m D) (hok : OkD D) (hP : Blk w gp 123 (plL b p)) (side : Nat) (hs : side ≤ 1) (h4 : 4 ≤ p.half) (hh : p.half ≤ 4096) (hsz : D.size = 2 * p.half) :
    Calls Try.prog 75 #[.pointer (some ⟨gp, 0, none⟩), .int .i64 (side : Int)] w fun e w' => e = .returned (.tuple #[.int .i64 (readL (halfL D.lasts p.half side) p.half).1, .string (bs (readL (halfL D.lasts p.half side) p.half).2)]) ∧ Fr No w w' := by
  have HD := Kp.mk hD
  have HOK := Kp.mk hok
  have HP := Kp.mk hP
  have HSZ := Kp.mk hsz
  have hlen := halfL_len hok.full p.half side
  have HL := Kp.mk hlen
  clear hD hok hP hsz hlen
  obtain ⟨h, hh0⟩ : ∃ h, h = halfL D.lasts p.half side := ⟨_, rfl⟩
  obtain ⟨y, hy⟩ : ∃ y, y = bs h := ⟨_, rfl⟩
  have hys : y.size = 32 * p.half := by rw [hy, bs_size, hh0, HL.out]
  rw [← hh0]
  have e1 : y.extract 0 4 = bs (h.take 4) := by rw [hy, ext_bs]; rfl
  have e2 : y.extract 4 8 = bs ((h.drop 4).take 4) := by rw [hy, ext_bs]
  have CN1 : Kp (∀ w', Calls Try.prog 106 #[.string (y.extract 0 4)] w' fun e w'' => e = .returned (.int .i64 (numberL (h.take 4))) ∧ Fr No w' w'') := ⟨fun w' => by
    rw [e1]; exact number_any _ (List.length_take_le _ _) w'⟩
  have CN2 : Kp (∀ w', Calls Try.prog 106 #[.string (y.extract 4 8)] w' fun e w'' => e = .returned (.int .i64 (sizeL h)) ∧ Fr No w' w'') := ⟨fun w' => by
    rw [e2]; exact number_any _ (List.length_take_le _ _) w'⟩
  have z0 : 0 ≤ sizeL h := (number_range _).1
  have z1 : sizeL h < 4294967296 := number_small _ (List.length_take_le _ _)
  have n0 : 0 ≤ numberL (h.take 4) := (number_range _).1
  have n1 : numberL (h.take 4) < 4294967296 := number_small _ (List.length_take_le _ _)
  have HY := Kp.mk hy
  obtain ⟨r, hr⟩ : ∃ r, r = readL h p.half := ⟨_, rfl⟩
  rw [← hr]
  have HR := Kp.mk hr
  unfold readL at HR
  generalize hz : sizeL h = z at HR CN2 z0 z1
  generalize numberL (h.take 4) = n at HR CN1 n0 n1
  have HH0 := Kp.mk hh0
  have HYS := Kp.mk hys
  clear hys hy e1 e2 hr hz hh0
  go_enter Try.func75, Try.ntmps75
  go_upto_block 0 with ((with_reducible refine gate_dst (N := 6) rfl ?_); refine ev_alloc rfl 105 rfl _ [.pointer none, .slice none 0 0] zeroBldr rfl ?_; intro g6 w1 hg6 f1 b6; have c1 := (HP.out.no f1).at_ 1 rfl)
  have hgl := b6.lt
  refine wp_u (fun u => read_loop u (HD.out.less_new f1 hg6 hgl) (fun hh => hh.2 rfl) HOK.out (HP.out.no f1) (by have := HP.out.lt; omega) side hs hh HSZ.out (Sb.Bld.new (base := w.heap.size) b6 hg6) f1.size _ ?_) rfl
  intro u v6 ws f2 B2
  have HB := Kp.mk B2
  have F2 : Kp (Fr No w ws) := ⟨(f1.one f2 (.inr hg6))⟩
  clear f1 f2 B2 b6 hgl c1
  have CS : Kp (Calls Try.prog 67 #[.pointer (some ⟨g6, 0, none⟩)] ws fun e w' => e = .returned (.string y) ∧ Below w.heap.size ws w') := ⟨by
    rw [HY.out, HH0.out]
    exact Sb.string_any HB.out F2.out.size⟩
  go_wp2_with (go_at_call 67; refine CS.out.mono ?_; rintro e w3 ⟨rfl, f3⟩)
  have F3 : Fr No w w3 := F2.out.trans (Sb.Fr.of_belowB f3) (fun i hi => .inr hi)
  have P3 : Blk w3 gp 123 (plL b p) := HP.out.no F3
  have b4 : (4 : Int) ≤ (y.size : Int) := by have := HYS.out; omega
  have b8 : (8 : Int) ≤ (y.size : Int) := by have := HYS.out; omega
  clear f3
  refine region_quiet (C := fun w' => Fr No w w' ∧ Blk w' gp 123 (plL b p)) (by kernel_rfl) (by kernel_rfl) ⟨F3.drew, P3.no ((Fr.refl No _).drew)⟩ ?_
  iterate 8 (first
    | ((with_reducible refine gate_q (N := 42) rfl ?_); refine quiet_call (a' := ?_) Try.func106 (by kernel_rfl) rfl #[.string (y.extract 0 4)] (by rfl) rfl (by simp only [List.map_toArray, List.map_cons, List.map_nil]; rfl) (fun w' hC' => (CN1.out w').mono (by rintro e w'' ⟨rfl, f⟩; exact ⟨rfl, hC'.1.no f, hC'.2.no f⟩)) ?_ ?_; rotate_left; (simp only [Act.put, List.setIfInBounds_toArray, List.set_cons_zero, List.set_cons_succ]; rfl))
    | ((with_reducible refine gate_q (N := 45) rfl ?_); refine quiet_call (a' := ?_) Try.func106 (by kernel_rfl) rfl #[.string (y.extract 4 8)] (by rfl) rfl (by simp only [List.map_toArray, List.map_cons, List.map_nil]; rfl) (fun w' hC' => (CN2.out w').mono (by rintro e w'' ⟨rfl, f⟩; exact ⟨rfl, hC'.1.no f, hC'.2.no f⟩)) ?_ ?_; rotate_left; (simp only [Act.put, List.setIfInBounds_toArray, List.set_cons_zero, List.set_cons_succ]; rfl))
    | (go_big_quiet_step (fail))
    | (refine quiet_val (v := ?_) (a' := ?_) (by rfl) ?_ ?_ ?_; rotate_left; (focus (rintro w' ⟨s0, s1⟩; have q1 := s1.at_ 1 rfl; go_simp; first | done | with_reducible rfl | (rw [if_pos (by omega)]; first | done | with_reducible rfl))); rotate_left; (simp only [Act.put, List.setIfInBounds_toArray, List.set_cons_zero, List.set_cons_succ]; rfl)))
  refine wpQuiet_nil ?_
  rintro w4 ⟨F4, P4⟩
  have fd4 := (Fr.refl No w4).drew
  have CRM : Kp (∀ w', Blk w' gp 123 (plL b p) → Calls Try.prog 28 #[.pointer (some ⟨gp, 0, none⟩)] w' fun e w'' => e = .returned (.int .i64 ((p.half : Int) * 32 - 40)) ∧ w'' = w') := ⟨fun w' h => room_any h hh⟩
  have hy := HYS.out
  obtain ⟨rm, hrm⟩ : ∃ rm : Int, rm = (p.half : Int) * 32 - 40 := ⟨_, rfl⟩
  rw [← hrm] at CRM HR
  have b9 : rm + 40 = (y.size : Int) := by omega
  clear hy hrm F3 P3
  by_cases c1 : rm < z
  · have HRR : Kp (r = (0, [])) := ⟨by rw [HR.out, if_pos c1]⟩
    have hb : decide (rm < z) = true := by simpa using c1
    clear HR b9
    go_wp2_with fail
    refine region_quiet (C := fun w' => Fr No w w' ∧ Blk w' gp 123 (plL b p)) (by kernel_rfl) (by kernel_rfl) ⟨F4.drew, P4.no fd4⟩ ?_
    iterate 17 (first
      | ((with_reducible refine gate_q (N := 48) rfl ?_); refine quiet_call (a' := ?_) Try.func28 (by kernel_rfl) rfl #[.pointer (some ⟨gp, 0, none⟩)] (by rfl) rfl (by simp only [List.map_toArray, List.map_cons, List.map_nil]; rfl) (fun w' hC' => (CRM.out w' hC'.2).mono (by rintro e w'' ⟨rfl, rfl⟩; exact ⟨rfl, hC'⟩)) ?_ ?_; rotate_left; (simp only [Act.put, List.setIfInBounds_toArray, List.set_cons_zero, List.set_cons_succ]; rfl))
      | (go_big_quiet_step (fail))
      | (refine quiet_val (v := ?_) (a' := ?_) (by rfl) ?_ ?_ ?_; rotate_left; (focus (rintro w' ⟨s0, s1⟩; have q1 := s1.at_ 1 rfl; go_simp; first | done | with_reducible rfl | (rw [if_pos (by omega)]; first | done | with_reducible rfl))); rotate_left; (simp only [Act.put, List.setIfInBounds_toArray, List.set_cons_zero, List.set_cons_succ]; rfl)))
    refine wpQuiet_nil ?_
    rintro w5 ⟨F5, P5⟩
    go_wp2_with fail
    go_ret2
    exact ⟨by rw [HRR.out]; rfl, F5⟩
  · have c1' : z ≤ rm := by omega
    have hw1 : IntKind.i64.wrap (z + 40) = z + 40 := by rw [IntKind.wrap_i64]; omega
    have hw2 : IntKind.i64.wrap (8 + z) = 8 + z := by rw [IntKind.wrap_i64]; omega
    have e3 : y.extract 8 (8 + z).toNat = bs ((h.drop 8).take z.toNat) := by
      rw [HY.out, ext_bs]
      congr 3
      omega
    have e4 : y.extract 0 (z + 40).toNat = bs (h.take (z + 40).toNat) := by rw [HY.out, ext_bs]; rfl
    obtain ⟨t, ht⟩ : ∃ t, t = toldL n ((h.drop 8).take z.toNat) := ⟨_, rfl⟩
    have CT : Kp (∀ w', Calls Try.prog 76 #[.int .i64 n, .string (y.extract 8 (8 + z).toNat)] w' fun e w'' => e = .returned (.string (bs t)) ∧ Fr No w' w'') := ⟨fun w' => by
      rw [e3, ht]
      exact told_any n _ n0 n1 (by have := List.length_take_le z.toNat (h.drop 8); have := HYS.out; omega) w'⟩
    rw [← ht] at HR
    have E3 := Kp.mk e3
    have E4 := Kp.mk e4
    clear e3 e4 ht
    have HW1 := Kp.mk hw1
    have HW2 := Kp.mk hw2
    have b10 : (0 : Int) ≤ z + 40 := by omega
    have b11 : z + 40 ≤ (y.size : Int) := by omega
    have b12 : (8 : Int) ≤ 8 + z := by omega
    have b13 : 8 + z ≤ (y.size : Int) := by omega
    have B9 := Kp.mk b9
    have NC := Kp.mk c1
    clear b9 c1
    have hbl : ∀ x : List UInt8, (bs x).toList = x := fun x => by simp
    by_cases hq : h.take (z + 40).toNat = t
    · have HRR : Kp (r = (n, (h.drop 8).take z.toNat)) := ⟨by rw [HR.out, if_neg (by omega), if_neg (by simpa using hq)]⟩
      have HQB : Kp (((y.extract 0 (z + 40).toNat).toList == t) = true) := ⟨by rw [E4.out, hbl, hq]; simp⟩
      clear hq hbl HR
      go_wp2_with fail
      have hb : decide (rm < z) = false := by simpa using c1'
      have hqb : ((y.extract 0 (z + 40).toNat).toList == t) = true := HQB.out
      refine region_quiet (C := fun w' => Fr No w w' ∧ Blk w' gp 123 (plL b p)) (by kernel_rfl) (by kernel_rfl) ⟨F4.drew, P4.no fd4⟩ ?_
      iterate 17 (first
        | ((with_reducible refine gate_q (N := 60) rfl ?_); refine quiet_call (a' := ?_) Try.func76 (by kernel_rfl) rfl #[.int .i64 n, .string (y.extract 8 (8 + z).toNat)] (by rfl) rfl (by simp only [List.map_toArray, List.map_cons, List.map_nil]; rfl) (fun w' hC' => (CT.out w').mono (by rintro e w'' ⟨rfl, f⟩; exact ⟨rfl, hC'.1.no f, hC'.2.no f⟩)) ?_ ?_; rotate_left; (simp only [Act.put, List.setIfInBounds_toArray, List.set_cons_zero, List.set_cons_succ]; rfl))
        | ((with_reducible refine gate_q (N := 48) rfl ?_); refine quiet_call (a' := ?_) Try.func28 (by kernel_rfl) rfl #[.pointer (some ⟨gp, 0, none⟩)] (by rfl) rfl (by simp only [List.map_toArray, List.map_cons, List.map_nil]; rfl) (fun w' hC' => (CRM.out w' hC'.2).mono (by rintro e w'' ⟨rfl, rfl⟩; exact ⟨rfl, hC'⟩)) ?_ ?_; rotate_left; (simp only [Act.put, List.setIfInBounds_toArray, List.set_cons_zero, List.set_cons_succ]; rfl))
        | (go_big_quiet_step (fail))
        | (refine quiet_val (v := ?_) (a' := ?_) (by rfl) ?_ ?_ ?_; rotate_left; (focus (rintro w' ⟨s0, s1⟩; have q1 := s1.at_ 1 rfl; go_simp; first | done | with_reducible rfl | (rw [if_pos (by omega)]; first | done | with_reducible rfl))); rotate_left; (simp only [Act.put, List.setIfInBounds_toArray, List.set_cons_zero, List.set_cons_succ]; rfl)))
      refine wpQuiet_nil ?_
      rintro w5 ⟨F5, P5⟩
      clear hqb hb
      go_wp2_with fail
      refine region_quiet (C := fun w' => Fr No w w' ∧ Blk w' gp 123 (plL b p)) (by kernel_rfl) (by kernel_rfl) ⟨F5.drew, P5.no (Fr.refl No w5).drew⟩ ?_
      iterate 7 (first
        | (go_big_quiet_step (fail))
        | (refine quiet_val (v := ?_) (a' := ?_) (by rfl) ?_ ?_ ?_; rotate_left; (focus (rintro w' ⟨s0, s1⟩; have q1 := s1.at_ 1 rfl; go_simp; first | done | with_reducible rfl | (rw [if_pos (by omega)]; first | done | with_reducible rfl))); rotate_left; (simp only [Act.put, List.setIfInBounds_toArray, List.set_cons_zero, List.set_cons_succ]; rfl)))
      refine wpQuiet_nil ?_
      rintro w6 ⟨F6, P6⟩
      go_wp2_with fail
      go_ret2
      exact ⟨by rw [HRR.out, ← E3.out]; rfl, F6⟩
    · have HRR : Kp (r = (0, [])) := ⟨by rw [HR.out, if_neg (by omega), if_pos hq]⟩
      have HQB : Kp (((y.extract 0 (z + 40).toNat).toList == t) = false) := ⟨by rw [E4.out, hbl]; simpa using hq⟩
      clear hq hbl HR
      go_wp2_with fail
      have hb : decide (rm < z) = false := by simpa using c1'
      have hqb : ((y.extract 0 (z + 40).toNat).toList == t) = false := HQB.out
      refine region_quiet (C := fun w' => Fr No w w' ∧ Blk w' gp 123 (plL b p)) (by kernel_rfl) (by kernel_rfl) ⟨F4.drew, P4.no fd4⟩ ?_
      iterate 17 (first
        | ((with_reducible refine gate_q (N := 60) rfl ?_); refine quiet_call (a' := ?_) Try.func76 (by kernel_rfl) rfl #[.int .i64 n, .string (y.extract 8 (8 + z).toNat)] (by rfl) rfl (by simp only [List.map_toArray, List.map_cons, List.map_nil]; rfl) (fun w' hC' => (CT.out w').mono (by rintro e w'' ⟨rfl, f⟩; exact ⟨rfl, hC'.1.no f, hC'.2.no f⟩)) ?_ ?_; rotate_left; (simp only [Act.put, List.setIfInBounds_toArray, List.set_cons_zero, List.set_cons_succ]; rfl))
        | ((with_reducible refine gate_q (N := 48) rfl ?_); refine quiet_call (a' := ?_) Try.func28 (by kernel_rfl) rfl #[.pointer (some ⟨gp, 0, none⟩)] (by rfl) rfl (by simp only [List.map_toArray, List.map_cons, List.map_nil]; rfl) (fun w' hC' => (CRM.out w' hC'.2).mono (by rintro e w'' ⟨rfl, rfl⟩; exact ⟨rfl, hC'⟩)) ?_ ?_; rotate_left; (simp only [Act.put, List.setIfInBounds_toArray, List.set_cons_zero, List.set_cons_succ]; rfl))
        | (go_big_quiet_step (fail))
        | (refine quiet_val (v := ?_) (a' := ?_) (by rfl) ?_ ?_ ?_; rotate_left; (focus (rintro w' ⟨s0, s1⟩; have q1 := s1.at_ 1 rfl; go_simp; first | done | with_reducible rfl | (rw [if_pos (by omega)]; first | done | with_reducible rfl))); rotate_left; (simp only [Act.put, List.setIfInBounds_toArray, List.set_cons_zero, List.set_cons_succ]; rfl)))
      refine wpQuiet_nil ?_
      rintro w5 ⟨F5, P5⟩
      clear hqb hb
      go_wp2_with fail
      go_ret2
      exact ⟨by rw [HRR.out]; rfl, F5⟩
end Go.Proofs.Ytaohfmmapammcaa.Pl
