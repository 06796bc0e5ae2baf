/- Nodes as plain data: what names are right, which nodes are, an entry more, an entry less. Plain definitions, no program. -/
import Derived.Test.YtenlokbfjajbbaaOwn
set_option linter.unusedSimpArgs false
set_option linter.unusedVariables false
namespace Go.Proofs.Ytenlokbfjajbbaa.Nd
open Go Go.RowKit Go.Proofs.Ytenlokbfjajbbaa.Ev

/-- A byte that no name bears. -/
def badB (c : UInt8) : Bool := c == 47 || c == 0
/-- Is a text a name? -/
def nameB (s : ByteArray) : Bool := decide (1 ≤ s.size) && decide (s.size ≤ 16) && !(s.data.toList.any badB) && !(s.toList == [46]) && !(s.toList == [46, 46])

abbrev Ent := ByteArray × Int
instance : Inhabited Ent := ⟨(ByteArray.empty, 0)⟩
/-- Is entry j right, and behind the one ahead of it? -/
def okAt (es : List Ent) (j : Nat) : Bool := nameB (es.getD j default).1 && decide (1 ≤ (es.getD j default).2) && decide ((es.getD j default).2 ≤ 2147483647) && (j == 0 || Op.bytesLess (es.getD (j - 1) default).1.toList (es.getD j default).1.toList)
def risingB (es : List Ent) : Bool := (List.range es.length).all (okAt es) && decide (es.length ≤ 64)

structure Nd where
  kind : Int
  mode : Int
  data : ByteArray
  target : ByteArray
  ents : List Ent

def zeroN : Nd := ⟨0, 0, ⟨#[]⟩, ⟨#[]⟩, []⟩

def rightB (N : Nd) : Bool :=
  if N.mode < 0 ∨ 511 < N.mode then false
  else if N.kind = 1 then decide (N.target.size = 0) && decide (N.ents.length = 0) && decide (N.data.size ≤ 4096)
  else if N.kind = 2 then decide (N.data.size = 0) && decide (N.target.size = 0) && risingB N.ents
  else if N.kind = 3 then decide (N.data.size = 0) && decide (N.ents.length = 0) && decide (1 ≤ N.target.size) && decide (N.target.size ≤ 64)
  else false

/-- The first place where p holds, or -1. -/
def idx (p : Ent → Bool) (es : List Ent) : Int := match es.findIdx? p with | some i => (i : Int) | none => -1

def isNm (n : ByteArray) (e : Ent) : Bool := e.1.toList == n.toList
def geNm (n : ByteArray) (e : Ent) : Bool := !(Op.bytesLess e.1.toList n.toList)

/-- Find: the number, and is it there? -/
def findN (N : Nd) (n : ByteArray) : Int × Bool := match N.ents.find? (isNm n) with | some e => (e.2, true) | none => (0, false)

/-- An entry more. -/
def putE (es : List Ent) (e : Ent) : List Ent := es.takeWhile (fun x => !(geNm e.1 x)) ++ e :: es.dropWhile (fun x => !(geNm e.1 x))
def withN (N : Nd) (n : ByteArray) (ino : Int) : Nd × Int :=
  if N.kind ≠ 2 then (zeroN, 10)
  else if nameB n = false then (zeroN, 14)
  else if (findN N n).2 = true then (zeroN, 5)
  else if 64 ≤ N.ents.length then (zeroN, 3)
  else ({ N with ents := putE N.ents (n, ino) }, 0)

def withoutN (N : Nd) (n : ByteArray) : Nd × Int :=
  if N.kind ≠ 2 then (zeroN, 10)
  else if (findN N n).2 = false then (zeroN, 4)
  else ({ N with ents := N.ents.eraseP (isNm n) }, 0)

def sameE (a b : List Ent) : Bool := decide (a.length = b.length) && (List.zip a b).all fun p => p.1.1.toList == p.2.1.toList && decide (p.1.2 = p.2.2)
def sameB (a b : Nd) : Bool := decide (a.kind = b.kind) && decide (a.mode = b.mode) && (a.data.toList == b.data.toList) && (a.target.toList == b.target.toList) && sameE a.ents b.ents

/-- The cells of entries. -/
def entV (e : Ent) : List Value := [.string e.1, .int .i64 e.2]
def entsV (es : List Ent) : List Value := es.flatMap entV

/-- The slice v reads as the entries es. -/
structure EntS (w : World) (v : Value) (es : List Ent) : Prop where
  out : ∃ A c, v = .slice A es.length c ∧ es.length ≤ c ∧ c ≤ 9223372036854775807 ∧ (0 < es.length → ∃ b o, A = some ⟨b, o, none⟩ ∧ b < w.heap.size ∧
    ∀ j, j < es.length → w.cell? ⟨b, o + j * 2, none⟩ = some (.string (es.getD j default).1) ∧ w.cell? ⟨b, o + j * 2 + 1, none⟩ = some (.int .i64 (es.getD j default).2))

theorem EntS.nil (w : World) : EntS w (.slice none 0 0) [] := ⟨⟨none, 0, rfl, Nat.le_refl _, by omega, fun h => absurd h (by simp)⟩⟩
theorem EntS.keep {S : Nat → Prop} {w w' : World} {v : Value} {es : List Ent} (h : EntS w v es) (f : Fr S w w') (hn : ∀ b, b < w.heap.size → (∃ o n c, v = .slice (some ⟨b, o, none⟩) n c) → ¬ S b) : EntS w' v es := by
  obtain ⟨A, c, rfl, h1, h2, h3⟩ := h.out
  refine ⟨⟨A, c, rfl, h1, h2, fun hp => ?_⟩⟩
  obtain ⟨b, o, rfl, hb, hc⟩ := h3 hp
  have hnb := hn b hb ⟨o, _, _, rfl⟩
  exact ⟨b, o, rfl, Nat.lt_of_lt_of_le hb f.size, fun j hj => ⟨Fr.cell (hc j hj).1 f hnb, Fr.cell (hc j hj).2 f hnb⟩⟩
theorem EntS.no {w w' : World} {v : Value} {es : List Ent} (h : EntS w v es) (f : Fr No w w') : EntS w' v es := h.keep f (fun _ _ _ hh => hh)

theorem EntS.one {w : World} {v : Value} {es : List Ent} (h : EntS w v es) : v.oneCell' = true := by
  obtain ⟨A, c, rfl, _⟩ := h.out
  rfl
/-- The blocks in which a slice lies. -/
def In (v : Value) (S : Nat → Prop) : Prop := ∀ b o n c, v = .slice (some ⟨b, o, none⟩) n c → S b
theorem In.mk_ {b o n c : Nat} {S : Nat → Prop} (h : S b) : In (.slice (some ⟨b, o, none⟩) n c) S := fun _ _ _ _ e => by cases e; exact h
theorem In.mono {v : Value} {S S' : Nat → Prop} (h : In v S) (hs : ∀ b, S b → S' b) : In v S' := fun b o n c e => hs b (h b o n c e)
theorem EntS.kept {S S' : Nat → Prop} {w w' : World} {v : Value} {es : List Ent} (h : EntS w v es) (f : Fr S w w') (hi : In v S') (hn : ∀ b, S' b → ¬ S b) : EntS w' v es :=
  h.keep f (fun b _ ⟨o, n, c, e⟩ => hn b (hi b o n c e))

/-- A node as a value. -/
abbrev ndV (N : Nd) (v : Value) : Value := .agg #[.int .i64 N.kind, .int .i64 N.mode, .string N.data, .string N.target, v]
end Go.Proofs.Ytenlokbfjajbbaa.Nd
