/- strings.Builder, as the call itself makes it: WriteString, String, with what else stays. No conditions beside those written out. -/
import Derived.Test.YtenlokbfjajbbaaDig2
set_option linter.unusedSimpArgs false
set_option linter.unusedVariables false
namespace Go.Proofs.Ytenlokbfjajbbaa.Dig
open Go Go.RowKit Go.Proofs.Ytenlokbfjajbbaa.Sha Go.Proofs.YtenlokbfjajbbaaW.PrintWords Go.Proofs.YtenlokbfjajbbaaW.PrintLast Go.Proofs.Ytenlokbfjajbbaa.PDigestTells Go.Proofs.Ytenlokbfjajbbaa.Reg Go.Proofs.Ytenlokbfjajbbaa.Ev Go.Proofs.Ytenlokbfjajbbaa.Press

abbrev u8s (l : List UInt8) : List Value := l.map fun b => Value.int .u8 b.toNat
/-- A builder at block b whose bytes are l, in a row v of the call's own. -/
structure Bld (w : World) (base b : Nat) (v : Value) (l : List UInt8) : Prop where
  blk : ∃ p, Blk w b 91 [p, v] ∧ (p = .pointer none ∨ p = .pointer (some ⟨b, 0, none⟩))
  own : w.ownsRow base 5 1 v l.length (u8s l)
  ne : v.ownBlock ≠ some b
  base : base ≤ b

theorem Bld.new {w : World} {base b : Nat} (h : Blk w b 91 [.pointer none, .slice none 0 0]) (hb : base ≤ b) : Bld w base b (.slice none 0 0) [] :=
  ⟨⟨_, h, .inl rfl⟩, World.ownsRow_nil _ _ _ _, by simp [Value.ownBlock], hb⟩
theorem Bld.keep {w w1 : World} {base b : Nat} {v : Value} {l : List UInt8} {S : Nat → Prop} (h : Bld w base b v l) (f : Fr S w w1) (h1 : ¬ S b) (h2 : ∀ k, v.ownBlock = some k → ¬ S k) : Bld w1 base b v l := by
  obtain ⟨p, hp, hq⟩ := h.blk
  exact ⟨⟨p, hp.keep f h1, hq⟩, own_keep h.own f h2, h.ne, h.base⟩
theorem Bld.no {w w1 : World} {base b : Nat} {v : Value} {l : List UInt8} (h : Bld w base b v l) (f : Fr No w w1) : Bld w1 base b v l := h.keep f (fun hh => hh) (fun _ _ hh => hh)
theorem Bld.is {w : World} {base b : Nat} {v : Value} {l : List UInt8} (h : Bld w base b v l) : Lib.IsBuilder 91 5 base b (Lib.byteCells l) w := by
  obtain ⟨p, hp, hq⟩ := h.blk
  have ho : w.ownsRow base 5 1 v (Lib.byteCells l).length (Lib.byteCells l) := by rw [Lib.byteCells_length]; exact h.own
  rcases hq with rfl | rfl
  · exact .inl ⟨h.base, v, hp.out, ho, h.ne⟩
  · exact .inr ⟨h.base, v, hp.out, ho, h.ne⟩

theorem check_any {w : World} {base b : Nat} {v : Value} {l : List UInt8} (h : Bld w base b v l) :
    Calls Try.prog 92 #[.pointer (some ⟨b, 0, none⟩)] w fun e w' => e = .returned (.tuple #[]) ∧ Fr (One b) w w' ∧ Blk w' b 91 [.pointer (some ⟨b, 0, none⟩), v] := by
  obtain ⟨p, hp, hq⟩ := h.blk
  rcases hq with rfl | rfl
  · refine (Any.Builder_copyCheck_fresh Try.lays240 Try.Builder_X72_240 b w (hp.at_ 0 rfl) (by simp [World.shape?, hp.out]; rfl) (hp.free 0)).mono ?_
    rintro e w' ⟨rfl, rfl⟩
    exact ⟨rfl, Fr.setCell _ _ _ _, hp.set 0 _⟩
  · refine (Any.Builder_copyCheck_used Try.lays240 Try.Builder_X72_240 b w (hp.at_ 0 rfl)).mono ?_
    rintro e w' ⟨rfl, rfl⟩
    exact ⟨rfl, Fr.refl _ _, hp⟩

theorem size43 : (Try.prog.info? 43).map (·.size) = some 1 := by kernel_rfl
/-- What WriteString leaves. -/
def Wrote (w : World) (base b : Nat) (v : Value) (l : List UInt8) (w' : World) : Prop :=
  ∃ v', Bld w' base b v' l ∧ Fr (fun k => k = b ∨ Own v k) w w' ∧ (v'.ownBlock = v.ownBlock ∨ ∃ k, v'.ownBlock = some k ∧ w.heap.size ≤ k)

set_option maxHeartbeats 1000000 in
set_option maxRecDepth 100000 in
theorem write_any {w : World} {base b : Nat} {v : Value} {l : List UInt8} (s : List UInt8) (h : Bld w base b v l) (hl : l.length + s.length ≤ 140737488355328) (hb : base ≤ w.heap.size) :
    Calls Try.prog 59 #[.pointer (some ⟨b, 0, none⟩), .string (bs s)] w fun e w' => e = .returned (.tuple #[.int .i64 s.length, .nilIface]) ∧ Wrote w base b v (l ++ s) w' := by
  have HB := Kp.mk h
  have hown := Kp.mk (own_new_base h.own)
  clear h
  go_enter Try.func59, Try.ntmps59
  go_wp2_with (first | (go_at_call 92; refine (check_any HB.out).mono ?_; rintro e w1 ⟨rfl, f1, b1⟩; have c1 := b1.at_ 1 rfl) | ((with_reducible refine gate_dst (N := 14) rfl ?_); refine ev_append_str rfl (.tmp 12) (.tmp 13) 43 9 5 rfl Try.underlying43 Try.underlying9 info5 base v _ _ (bs s) rfl rfl (own_keep HB.out.own f1 (fun k hk hh => HB.out.ne (by rw [hk]; exact congrArg some hh))) (by have := f1.size; omega) (by rw [bs_size]; omega) ?_; intro A2 c2 w2 o2 f2 hat) | ((with_reducible refine gate_store (t := 43) (p := 16) rfl ?_); refine ev_store rfl 43 (.tmp 16) (.tmp 14) rfl b 1 (.slice A2 (l.length + (bs s).size) c2) rfl rfl rfl 91 _ (b1.keep f2 (fun hh => HB.out.ne hh)) (Nat.lt_succ_self 1) size43 ?_; intro w3 f3 b3))
  have e1 : (l ++ s).length = l.length + (bs s).size := by rw [List.length_append, bs_size]
  have e2 : u8s (l ++ s) = u8s l ++ Lib.strCells (bs s) := by simp [Lib.strCells]
  have hne : (Value.slice A2 (l.length + (bs s).size) c2).ownBlock ≠ some b := by
    rcases hat with hat | hat
    · rw [hat]; exact HB.out.ne
    · rw [hat]
      intro hh
      injection hh with hh
      have := b1.lt
      omega
  have F : Fr (fun k => k = b ∨ Own v k) w w3 :=
    ((f1.mono (fun i h => .inl (.inl h))).trans f2 (fun i h => .inl (.inr h))).trans f3 (fun i h => .inl (.inl h))
  refine bodyPost_ret (results_tmp2 rfl _ _ _) rfl ⟨by simp, _, ⟨⟨_, b3, .inr rfl⟩, ?_, hne, HB.out.base⟩, F, ?_⟩
  · rw [e1, e2]
    exact own_keep o2 f3 (fun k hk hh => hne (by rw [hk]; exact congrArg some hh))
  · rcases hat with hat | hat
    · exact .inl hat
    · exact .inr ⟨_, hat, f1.size⟩

/-- String: the bytes; what lies below the builder's base stays. -/
theorem string_any {w : World} {base b : Nat} {v : Value} {l : List UInt8} (h : Bld w base b v l) (hb : base ≤ w.heap.size) :
    Calls Try.prog 60 #[.pointer (some ⟨b, 0, none⟩)] w fun e w' => e = .returned (.string (bs l)) ∧ Below base w w' :=
  Try.Builder_String_any base b l w h.is hb
theorem Fr.of_belowB {B : Nat} {w w1 : World} (h : Below B w w1) : Fr (fun k => B ≤ k) w w1 := ⟨h.os, h.tape, h.output, h.size, fun i _ hn => h.block i (by omega)⟩

/-- A byte's two digits. -/
def digs : List UInt8 := [48, 49, 50, 51, 52, 53, 54, 55, 56, 57, 97, 98, 99, 100, 101, 102]
def hexB (b : UInt8) : List UInt8 := [digs.getD (b.toNat / 16) 0, digs.getD (b.toNat % 16) 0]
def hexL (l : List UInt8) : List UInt8 := l.flatMap hexB
theorem hexL_len (l : List UInt8) : (hexL l).length = 2 * l.length := by
  induction l with
  | nil => rfl
  | cons b l ih =>
    have : hexL (b :: l) = hexB b ++ hexL l := rfl
    rw [this, List.length_append, ih]
    simp [hexB]; omega
theorem dig1 : ∀ n : Nat, n < 16 → (({ data := #[48, 49, 50, 51, 52, 53, 54, 55, 56, 57, 97, 98, 99, 100, 101, 102] } : ByteArray).extract n 16).extract 0 1 = bs [digs.getD n 0] := by decide +kernel
theorem hexL_snoc (l : List UInt8) (i : Nat) (h : i < l.length) : hexL (l.take (i + 1)) = hexL (l.take i) ++ hexB (l.getD i 0) := by
  have e : l.take (i + 1) = l.take i ++ [l.getD i 0] := by
    rw [List.take_add_one]
    simp [h, List.getD_eq_getElem?_getD]
  rw [e, hexL, List.flatMap_append]
  simp [hexL]
theorem zero91 : (Try.prog.info? 91).bind (·.zero) = some (.agg [Value.pointer none, Value.slice none 0 0].toArray) := by kernel_rfl

set_option maxHeartbeats 1000000 in
set_option maxRecDepth 100000 in
theorem digits_any (l : List UInt8) (w : World) (hl : l.length ≤ 1099511627776) :
    Calls Try.prog 17 #[.string (bs l)] w fun e w' => e = .returned (.string (bs (hexL l))) ∧ Below w.heap.size w w' := by
  have hsz : Kp ((bs l).size = l.length) := ⟨bs_size _⟩
  go_enter Try.func17, Try.ntmps17
  go_wp2_with (first | ((with_reducible refine gate_dst (N := 3) rfl ?_); refine ev_alloc rfl 91 rfl _ [.pointer none, .slice none 0 0] zero91 rfl ?_; intro g3 w1 hg3 f1 b3) | ((with_reducible refine gate_dst (N := 7) rfl ?_); refine ev_bytes rfl 9 43 (.tmp 6) rfl (bs l) rfl 5 Try.underlying9 Try.underlying43 Try.underlying5 ?_; intro gb cb w2 hgb hgb2 hcb f2 cbs))
  have F : Kp (Fr No w w2) := ⟨f1.no f2⟩
  have B : Kp (Bld w2 w.heap.size g3 (.slice none 0 0) []) := ⟨(Bld.new b3 hg3).no f2⟩
  have hgg : g3 < gb := by have := b3.lt; omega
  have CBS : Kp (∀ j, j < l.length → w2.cell? ⟨gb, j, none⟩ = some (.int .u8 (bAt (bs l) j))) := ⟨fun j hj => cbs j (by rw [bs_size]; exact hj)⟩
  clear f1 f2 b3 cbs hcb
  go_loopg [9] l.length (fun kq v9 wr => ∃ (i : Nat) (v : Value), i + kq = l.length ∧ v9 = .int .i64 i ∧ Kp (Fr No w wr) ∧ Kp (Bld wr w.heap.size g3 v (hexL (l.take i))) ∧ Kp (v.ownBlock ≠ some gb) ∧ Kp (∀ j, j < l.length → wr.cell? ⟨gb, j, none⟩ = some (.int .u8 (bAt (bs l) j))))
  case atStart => exact ⟨0, _, by omega, rfl, F, B, ⟨by simp [Value.ownBlock]⟩, CBS⟩
  case round =>
    clear F B CBS
    obtain ⟨i, v, hi, rfl, F, B, hvg, CBS⟩ := hrel
    by_cases hil : i < l.length
    · have cb := CBS.out i hil
      have hr := bAt_range (bs l) i
      have hx : Kp (bAt (bs l) i = ((l.getD i 0).toNat : Int)) := ⟨rfl⟩
      generalize bAt (bs l) i = x at cb hr hx
      have hr0 := hr.1
      have hr1 := hr.2
      have HI := Kp.mk hi
      clear hr hi
      have hq0 : (0 : Int) ≤ x / 16 := by omega
      have hq1 : x / 16 ≤ 15 := by omega
      have hm0 : (0 : Int) ≤ x % 16 := by omega
      have hm1 : x % 16 ≤ 15 := by omega
      have hq2 : x / 16 ≤ 16 := by omega
      have hm2 : x % 16 ≤ 16 := by omega
      go_wp2_with fail
      refine wp_region_drawn_tail 9 (by kernel_rfl) (by kernel_rfl) ?_
      simp only [List.take_succ_cons, List.take_zero, List.drop_succ_cons, List.drop_zero]
      repeat (first | go_big_quiet_step (fail) | quiet_step (fail))
      refine wpQuiet_nil ?_
      rintro _ ⟨m, rfl⟩
      have hs : Kp (bs [digs.getD (x / 16).toNat 0] ++ bs [digs.getD (x % 16).toNat 0] = bs (hexB (l.getD i 0))) := ⟨by rw [bs_append, hx.out]; rfl⟩
      rw [dig1 _ (by omega), dig1 _ (by omega), hs.out]
      clear hs
      have hsn : Kp (hexL (l.take (i + 1)) = hexL (l.take i) ++ hexB (l.getD i 0)) := ⟨hexL_snoc l i hil⟩
      have hHl : (hexB (l.getD i 0)).length ≤ 2 := Nat.le_refl _
      generalize hexB (l.getD i 0) = H at hsn hHl ⊢
      have hgl := World.block_lt_of_cell? wr _ cb
      clear cb hq0 hq1 hm0 hm1 hq2 hm2 hr0 hr1
      go_wp2_with (go_at_call 59; refine (write_any H (B.out.no ((Fr.refl No wr).drewN m)) (by rw [hexL_len, List.length_take]; omega) (by have := F.out.size; simpa using this)).mono ?_; rintro e w3 ⟨rfl, v', B', f3, hat⟩)
      go_roundg (gk - 1)
      case measure => have := HI.out; omega
      case rel =>
        refine ⟨i + 1, v', by have := HI.out; omega, by go_num, ⟨(F.out.drewN m).trans f3 (fun k hk => ?_)⟩, ⟨by rw [hsn.out]; exact B'⟩, ⟨?_⟩, ⟨fun j hj => Fr.cell (w := wr.drewN m) (by simpa using CBS.out j hj) f3 ?_⟩⟩
        · rcases hk with rfl | hk
          · exact .inr hg3
          · exact .inr (own_new_base B.out.own k hk)
        · rcases hat with hat | ⟨k, hat, hk⟩
          · rw [hat]; exact hvg.out
          · rw [hat]
            intro hh
            injection hh with hh
            have : wr.heap.size ≤ k := hk
            have : gb < wr.heap.size := hgl
            omega
        · rintro (hh | hh)
          · have : gb = g3 := hh
            omega
          · exact hvg.out hh
    · obtain rfl : i = l.length := by omega
      rw [List.take_length] at B
      go_wp2_with (go_at_call 60; refine (string_any B.out (by have := F.out.size; omega)).mono ?_; rintro e w3 ⟨rfl, hb3⟩)
      go_ret
      exact ⟨rfl, (F.out.trans (Fr.of_belowB hb3) (fun i h => .inr h)).below⟩
end Go.Proofs.Ytenlokbfjajbbaa.Dig
