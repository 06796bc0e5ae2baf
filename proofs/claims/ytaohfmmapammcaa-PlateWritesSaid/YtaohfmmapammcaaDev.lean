/- FOR LOOKING ONLY, never in a claim: prints a walk's goal in short. -/
import Derived.WalkKit
import Derived.Deep.Quiet
namespace Go
open Lean Elab Tactic Meta
def shortE (e : Lean.Expr) (n : Nat) : MetaM String := do
  let s := toString (← ppExpr e)
  let s := (s.splitOn "\n").map (fun x => x.trimAscii.toString) |> String.intercalate " "
  pure (if s.length > n then (s.take n).toString ++ ".." else s)
partial def listOf (e : Lean.Expr) : List Lean.Expr :=
  if e.isAppOfArity ``List.cons 3 then e.getArg! 1 :: listOf (e.getArg! 2) else []
elab "dbg" : tactic => do
  let mut k := 0
  for g in ← getGoals do
    k := k + 1
    g.withContext do
      let t := (← instantiateMVars (← g.getType)).consumeMData
      let mut out := s!"##### GOAL {k}\n"
      for d in ← getLCtx do
        if d.isImplementationDetail then continue
        let ty ← instantiateMVars d.type
        if d.isLet then continue
        if (← isProp ty) && !(ty.isForall && ((toString (← ppExpr ty)).startsWith "∀ (a : Act)")) then out := out ++ s!"  {d.userName} : {← shortE ty 200}\n"
      let frame (a : Lean.Expr) : MetaM String := do
        let a ← whnfR a
        if a.isAppOfArity ``Act.mk 2 then
          let arr := a.getArg! 0
          if arr.isAppOfArity ``List.toArray 2 then
            let l := listOf (arr.getArg! 1)
            let mut s := ""
            let mut i := 0
            for x in l do
              unless x.isConstOf ``undef || x.isFVar || (x.isApp && x.getAppFn.isFVar) do s := s ++ s!"    {i}: {← shortE x 160}\n"
              i := i + 1
            return s
        shortE a 300
      let op (o : Lean.Expr) : MetaM String := do
        if o.isAppOfArity ``Oper.mk 6 then return s!"{← shortE (o.getArg! 0) 20} := {← shortE (o.getArg! 1) 200} guard {← shortE (o.getArg! 5) 40}" else shortE o 200
      if t.isAppOfArity ``wpList 6 then
        out := out ++ s!"wpList, {(listOf (t.getArg! 3)).length} ops left\n"
        for o in (listOf (t.getArg! 3)).take 3 do out := out ++ s!"   op {← op o}\n"
        out := out ++ s!"  frame:\n{← frame (t.getArg! 4)}  world: {← shortE (t.getArg! 5) 800}\n"
      else if t.isAppOfArity ``wpQuiet 6 then
        out := out ++ s!"wpQuiet, {(listOf (t.getArg! 4)).length} ops left\n"
        for o in (listOf (t.getArg! 4)).take 3 do out := out ++ s!"   op {← op o}\n"
        out := out ++ s!"  frame:\n{← frame (t.getArg! 5)}  class: {← shortE (t.getArg! 2) 400}\n"
      else if t.isAppOfArity ``Code.wp 5 then
        out := out ++ s!"Code {← shortE (t.getArg! 1) 300}\n  frame:\n{← frame (t.getArg! 3)}  world: {← shortE (t.getArg! 4) 800}\n  Q: {← shortE (t.getArg! 2) 300}\n"
      else if t.isAppOf ``Calls then
        out := out ++ s!"Calls {← shortE (t.getArg! 1) 30} {← shortE (t.getArg! 2) 800}\n  world: {← shortE (t.getArg! 3) 800}\n  post: {← shortE (t.getArg! 4) 300}\n"
      else if t.isAppOf ``Oper.upon then
        out := out ++ s!"upon {← op (t.getArg! 1)}\n  frame:\n{← frame (t.getArg! 2)}  result: {← shortE t.appArg! 1500}\n"
      else out := out ++ s!"|- {← shortE t 2500}\n"
      logInfo m!"{out}"
def louTac (t : TSyntax `Lean.Parser.Tactic.tacticSeq) : TacticM Unit := do
  let s ← saveState
  let r ← (try
    evalTactic t
    pure none
  catch e => pure (some e))
  match r with
  | none =>
    let gs ← getGoals
    for m in (← Core.getMessageLog).toList do
      if m.severity == .error then (IO.eprintln s!"LOUMSG {← m.toString}" : IO Unit)
    (IO.eprintln s!"LOU: done, {gs.length} goals" : IO Unit)
  | some e =>
    let m ← e.toMessageData.toString
    (IO.eprintln s!"LOU: {m}" : IO Unit)
    s.restore
    throwError "lou"
elab "lou " "(" t:tacticSeq ")" : tactic => louTac t
partial def tree (e : Lean.Expr) (path : String) (ind : String) : MetaM String := do
  let e := e.consumeMData
  if e.isAppOfArity ``Code.seq 2 then
    return (← tree (e.getArg! 0) (path ++ "0") ind) ++ (← tree (e.getArg! 1) (path ++ "1") ind)
  else if e.isAppOfArity ``Code.cond 3 then
    return s!"{ind}[{path}] cond {← shortE (e.getArg! 0) 40}\n" ++ s!"{ind} then\n" ++ (← tree (e.getArg! 1) (path ++ "0") (ind ++ "    ")) ++ s!"{ind} else\n" ++ (← tree (e.getArg! 2) (path ++ "1") (ind ++ "    "))
  else if e.isAppOfArity ``Code.block 2 then
    return s!"{ind}[{path}] block {← shortE (e.getArg! 0) 20}\n" ++ (← tree (e.getArg! 1) (path ++ "0") (ind ++ "  "))
  else if e.isAppOfArity ``Code.loop 1 then
    return s!"{ind}[{path}] LOOP\n" ++ (← tree (e.getArg! 0) (path ++ "0") (ind ++ "  "))
  else if e.isAppOfArity ``Code.scope 1 then
    return s!"{ind}[{path}] SCOPE\n" ++ (← tree (e.getArg! 0) (path ++ "0") (ind ++ "  "))
  else if e.isAppOfArity ``Code.rangeFunc 4 then
    return s!"{ind}[{path}] RANGEFUNC {← shortE (e.getArg! 0) 60} {← shortE (e.getArg! 1) 60}\n" ++ (← tree (e.getArg! 2) (path ++ "0") (ind ++ "  ")) ++ (← tree (e.getArg! 3) (path ++ "1") (ind ++ "  "))
  else if e.isAppOfArity ``Code.region 3 then
    return s!"{ind}[{path}] region {← shortE (e.getArg! 0) 10} draw {← shortE (e.getArg! 2) 10}\n"
  else return s!"{ind}[{path}] {← shortE e 60}\n"
elab "#codetree " t:term : command => Command.liftTermElabM do
  let e ← Term.elabTerm t none
  let e ← whnf e
  if e.isAppOfArity ``Option.some 2 then logInfo m!"{← tree e.appArg! "" ""}" else logInfo m!"no body"
end Go
