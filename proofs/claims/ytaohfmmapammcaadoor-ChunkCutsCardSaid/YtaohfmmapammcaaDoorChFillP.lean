/- What chunk.Fill computes, over lists; its closure for a chunk's length. Conditions: sizes are bounded, as written out. -/
import Derived.Test.YtaohfmmapammcaaDoorChName
set_option linter.unusedSimpArgs false
set_option linter.unusedVariables false
namespace Go.Proofs.YtaohfmmapammcaaDoor.Ch
open Go Go.RowKit Go.Proofs.YtaohfmmapammcaaDoorW.PrintWords Go.Proofs.YtaohfmmapammcaaDoor.Sha Go.Proofs.YtaohfmmapammcaaDoor.Dig Go.Proofs.YtaohfmmapammcaaDoor.Ev

def lenF (size : Int) (i : Nat) : Int := min 16 (size - (i : Int) * 16)
theorem lenF_le (size : Int) (i : Nat) : lenF size i ≤ 16 := by unfold lenF; omega
def oneF (get : List UInt8 → Option (List UInt8)) (size : Int) (i : Nat) (n : List UInt8) : Option (List UInt8) := if n = [] then some (zerosL (lenF size i)) else get n
def gotF (get : List UInt8 → Option (List UInt8)) (size : Int) (names : List (List UInt8)) : List (List UInt8) := names.mapIdx fun i n => (oneF get size i n).getD []
def allF (get : List UInt8 → Option (List UInt8)) (size : Int) (names : List (List UInt8)) : Prop := ∀ i n, names[i]? = some n → (oneF get size i n).isSome
def okF (size : Int) (cs : List (List UInt8)) : Prop := ∀ i c, cs[i]? = some c → (c.length : Int) = lenF size i
open Classical in
noncomputable def fillL (get : List UInt8 → Option (List UInt8)) (names : List (List UInt8)) (size : Int) : List UInt8 × Int :=
  if size < 0 then ([], 1) else if 4096 < size then ([], 1) else if (names.length : Int) ≠ (size + 15) / 16 then ([], 1)
  else if ¬ allF get size names then ([], 4) else if ¬ okF size (gotF get size names) then ([], 2) else ((gotF get size names).flatten, 0)
theorem gotF_len (get : List UInt8 → Option (List UInt8)) (size : Int) (names : List (List UInt8)) : (gotF get size names).length = names.length := by simp [gotF]
theorem gotF_get (get : List UInt8 → Option (List UInt8)) (size : Int) (names : List (List UInt8)) (i : Nat) (x y : List UInt8) (hx : names[i]? = some x) (hy : oneF get size i x = some y) : (gotF get size names)[i]? = some y := by
  simp [gotF, List.getElem?_mapIdx, hx, hy]
theorem gotF_take (get : List UInt8 → Option (List UInt8)) (size : Int) (names : List (List UInt8)) (i : Nat) (x y : List UInt8) (hx : names[i]? = some x) (hy : oneF get size i x = some y) :
    vals ((gotF get size names).take (i + 1)) = vals ((gotF get size names).take i) ++ [.string (bs y)] := by
  rw [List.take_add_one, gotF_get get size names i x y hx hy]
  simp [vals]

theorem ok_flat : ∀ (cs : List (List UInt8)) (size : Int), okF size cs → cs.flatten.length ≤ 16 * cs.length := by
  intro cs size h
  have h1 : ∀ c ∈ cs, c.length ≤ 16 := fun c hc => by
    obtain ⟨i, hi⟩ := List.getElem?_of_mem hc
    have := h i c hi
    have := lenF_le size i
    omega
  clear h
  induction cs with
  | nil => simp
  | cons c cs ih =>
    have := h1 c (by simp)
    have := ih (fun x hx => h1 x (by simp [hx]))
    simp only [List.flatten_cons, List.length_append, List.length_cons]
    omega
theorem cat_flat (cs : List (List UInt8)) : cat (cs.map bs) = cs.flatten := by
  unfold cat
  rw [List.map_map]
  congr 1
  exact List.map_id _

/-- Names that came in: they can be read in every world behind. -/
structure NamesC (w : World) (A : Option Addr) (names : List (List UInt8)) : Prop where
  out : 0 < names.length → ∃ b o, A = some ⟨b, o, none⟩ ∧ ∀ W', Fr No w W' → ∀ i n, names[i]? = some n → W'.cell? ⟨b, o + i, none⟩ = some (.string (bs n))

set_option maxHeartbeats 1000000 in
theorem len_any (size : Int) (i gz : Nat) (W : World) (h0 : 0 ≤ size) (h1 : size ≤ 4096) (hi : i ≤ 4096) (hb : Blk W gz 3 [.int .i64 size]) :
    Calls Tryd.prog 32 #[.int .i64 (i : Int), .pointer (some ⟨gz, 0, none⟩)] W fun e w' => e = .returned (.int .i64 (lenF size i)) ∧ w' = W := by
  have cz := hb.at_ 0 rfl
  have hz : (i : Int) ≤ 4096 := by omega
  clear hb
  go_enter Tryd.func32, Tryd.ntmps32
  go_wp2_with fail
  go_ret
  exact ⟨rfl, rfl⟩
end Go.Proofs.YtaohfmmapammcaaDoor.Ch
