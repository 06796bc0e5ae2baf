/- strings.Builder, as a call itself makes it: Write, WriteString, String, with what else stays. No conditions beside those written out. -/
import Derived.Test.YtioohhekamjljaaOwn
import Derived.Test.YtioohhekamjljaaEv2
import Derived.Test.YtioohhekamjljaaShelf
set_option linter.unusedSimpArgs false
set_option linter.unusedVariables false
namespace Go.Proofs.Ytioohhekamjljaa.Sb
open Go Go.RowKit Go.Proofs.Ytioohhekamjljaa.Sha Go.Proofs.YtioohhekamjljaaW.PrintWords Go.Proofs.YtioohhekamjljaaW.PrintLast Go.Proofs.Ytioohhekamjljaa.Ev

/-- A text of bytes. -/
abbrev bs (l : List UInt8) : ByteArray := ⟨l.toArray⟩
theorem bs_size (l : List UInt8) : (bs l).size = l.length := by simp [bs, ByteArray.size]
theorem bs_append (a b : List UInt8) : bs a ++ bs b = bs (a ++ b) := by
  apply ByteArray.ext
  simp [bs, ByteArray.data_append]
theorem bs_of (s : ByteArray) : bs s.data.toList = s := rfl
theorem info5 : (Try.prog.info? 5).map (fun i => (i.zero, i.size, i.bytes)) = some (some (.int .u8 0), 1, 1) := by kernel_rfl

abbrev u8s (l : List UInt8) : List Value := l.map fun b => Value.int .u8 b.toNat
/-- A builder at block b whose bytes are l, in a row v of the call's own. -/
structure Bld (w : World) (base b : Nat) (v : Value) (l : List UInt8) : Prop where
  blk : ∃ p, Blk w b 74 [p, v] ∧ (p = .pointer none ∨ p = .pointer (some ⟨b, 0, none⟩))
  own : w.ownsRow base 5 1 v l.length (u8s l)
  ne : v.ownBlock ≠ some b
  base : base ≤ b

theorem Bld.new {w : World} {base b : Nat} (h : Blk w b 74 [.pointer none, .slice none 0 0]) (hb : base ≤ b) : Bld w base b (.slice none 0 0) [] :=
  ⟨⟨_, h, .inl rfl⟩, World.ownsRow_nil _ _ _ _, by simp [Value.ownBlock], hb⟩
theorem Bld.keep {w w1 : World} {base b : Nat} {v : Value} {l : List UInt8} {S : Nat → Prop} (h : Bld w base b v l) (f : Fr S w w1) (h1 : ¬ S b) (h2 : ∀ k, v.ownBlock = some k → ¬ S k) : Bld w1 base b v l := by
  obtain ⟨p, hp, hq⟩ := h.blk
  exact ⟨⟨p, hp.keep f h1, hq⟩, own_keep h.own f h2, h.ne, h.base⟩
theorem Bld.no {w w1 : World} {base b : Nat} {v : Value} {l : List UInt8} (h : Bld w base b v l) (f : Fr No w w1) : Bld w1 base b v l := h.keep f (fun hh => hh) (fun _ _ hh => hh)
theorem Bld.is {w : World} {base b : Nat} {v : Value} {l : List UInt8} (h : Bld w base b v l) : Lib.IsBuilder 74 5 base b (Lib.byteCells l) w := by
  obtain ⟨p, hp, hq⟩ := h.blk
  have ho : w.ownsRow base 5 1 v (Lib.byteCells l).length (Lib.byteCells l) := by rw [Lib.byteCells_length]; exact h.own
  rcases hq with rfl | rfl
  · exact .inl ⟨h.base, v, hp.out, ho, h.ne⟩
  · exact .inr ⟨h.base, v, hp.out, ho, h.ne⟩

theorem check_any {w : World} {base b : Nat} {v : Value} {l : List UInt8} (h : Bld w base b v l) :
    Calls Try.prog 42 #[.pointer (some ⟨b, 0, none⟩)] w fun e w' => e = .returned (.tuple #[]) ∧ Fr (One b) w w' ∧ Blk w' b 74 [.pointer (some ⟨b, 0, none⟩), v] := by
  obtain ⟨p, hp, hq⟩ := h.blk
  rcases hq with rfl | rfl
  · refine (Any.Builder_copyCheck_fresh Try.lays240 Try.Builder_X72_240 b w (hp.at_ 0 rfl) (by simp [World.shape?, hp.out]; rfl) (hp.free 0)).mono ?_
    rintro e w' ⟨rfl, rfl⟩
    exact ⟨rfl, Fr.setCell _ _ _ _, hp.set 0 _⟩
  · refine (Any.Builder_copyCheck_used Try.lays240 Try.Builder_X72_240 b w (hp.at_ 0 rfl)).mono ?_
    rintro e w' ⟨rfl, rfl⟩
    exact ⟨rfl, Fr.refl _ _, hp⟩

theorem sizeBs : (Try.prog.info? 67).map (·.size) = some 1 := by kernel_rfl
/-- What WriteString leaves. -/
def Wrote (w : World) (base b : Nat) (v : Value) (l : List UInt8) (w' : World) : Prop :=
  ∃ v', Bld w' base b v' l ∧ Fr (fun k => k = b ∨ Own v k) w w' ∧ (v'.ownBlock = v.ownBlock ∨ ∃ k, v'.ownBlock = some k ∧ w.heap.size ≤ k)

set_option maxHeartbeats 1000000 in
set_option maxRecDepth 100000 in
theorem write_any {w : World} {base b : Nat} {v : Value} {l : List UInt8} (s : List UInt8) (h : Bld w base b v l) (hl : l.length + s.length ≤ 140737488355328) (hb : base ≤ w.heap.size) :
    Calls Try.prog 27 #[.pointer (some ⟨b, 0, none⟩), .string (bs s)] w fun e w' => e = .returned (.tuple #[.int .i64 s.length, .nilIface]) ∧ Wrote w base b v (l ++ s) w' := by
  have HB := Kp.mk h
  have hown := Kp.mk (own_new_base h.own)
  clear h
  go_enter Try.func27, Try.ntmps27
  go_wp2_with (first | (go_at_call 42; refine (check_any HB.out).mono ?_; rintro e w1 ⟨rfl, f1, b1⟩; have c1 := b1.at_ 1 rfl) | ((with_reducible refine gate_dst (N := 14) rfl ?_); refine ev_append_str rfl (.tmp 12) (.tmp 13) 67 9 5 rfl Try.underlying67 Try.underlying9 info5 base v _ _ (bs s) rfl rfl (own_keep HB.out.own f1 (fun k hk hh => HB.out.ne (by rw [hk]; exact congrArg some hh))) (by have := f1.size; omega) (by rw [bs_size]; omega) ?_; intro A2 c2 w2 o2 f2 hat) | ((with_reducible refine gate_store (t := 67) (p := 16) rfl ?_); refine ev_store rfl 67 (.tmp 16) (.tmp 14) rfl b 1 (.slice A2 (l.length + (bs s).size) c2) rfl rfl rfl 74 _ (b1.keep f2 (fun hh => HB.out.ne hh)) (Nat.lt_succ_self 1) sizeBs ?_; intro w3 f3 b3))
  have e1 : (l ++ s).length = l.length + (bs s).size := by rw [List.length_append, bs_size]
  have e2 : u8s (l ++ s) = u8s l ++ Lib.strCells (bs s) := by simp [Lib.strCells]
  have hne : (Value.slice A2 (l.length + (bs s).size) c2).ownBlock ≠ some b := by
    rcases hat with hat | hat
    · rw [hat]; exact HB.out.ne
    · rw [hat]
      intro hh
      injection hh with hh
      have := b1.lt
      omega
  have F : Fr (fun k => k = b ∨ Own v k) w w3 :=
    ((f1.mono (fun i h => .inl (.inl h))).trans f2 (fun i h => .inl (.inr h))).trans f3 (fun i h => .inl (.inl h))
  refine bodyPost_ret (results_tmp2 rfl _ _ _) rfl ⟨by simp, _, ⟨⟨_, b3, .inr rfl⟩, ?_, hne, HB.out.base⟩, F, ?_⟩
  · rw [e1, e2]
    exact own_keep o2 f3 (fun k hk hh => hne (by rw [hk]; exact congrArg some hh))
  · rcases hat with hat | hat
    · exact .inl hat
    · exact .inr ⟨_, hat, f1.size⟩


/-- String: the bytes; what lies below the builder's base stays. -/
theorem string_any {w : World} {base b : Nat} {v : Value} {l : List UInt8} (h : Bld w base b v l) (hb : base ≤ w.heap.size) :
    Calls Try.prog 31 #[.pointer (some ⟨b, 0, none⟩)] w fun e w' => e = .returned (.string (bs l)) ∧ Below base w w' :=
  Try.Builder_String_any base b l w h.is hb
theorem Fr.of_belowB {B : Nat} {w w1 : World} (h : Below B w w1) : Fr (fun k => B ≤ k) w w1 := ⟨h.os, h.tape, h.output, h.size, fun i _ hn => h.block i (by omega)⟩

end Go.Proofs.Ytioohhekamjljaa.Sb
