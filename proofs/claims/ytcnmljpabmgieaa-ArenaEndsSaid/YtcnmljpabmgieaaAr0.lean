/- The plain model of the arena: no program in sight. -/
namespace Go.Proofs.Ytcnmljpabmgieaa.R
structure Arn where
  Members : Int
  Left : List Int
  Open : Bool
  Eager : Int
  Holds : List Int
  Swept : Bool
  Winner : Int
  Done : Bool
structure AEv where
  Kind : Int
  Member : Int
/-- a verdict: the member, and whether it has won -/
structure Vd where
  Member : Int
  Won : Bool
def Arn.zero : Arn := ⟨0, [], false, 0, [], false, 0, false⟩
def rising : List Int → Bool
  | [] => true
  | [_] => true
  | a :: b :: l => decide (a < b) && rising (b :: l)
def has (l : List Int) (m : Int) : Bool := l.any fun x => m == x
def member (a : Arn) (m : Int) : Bool := decide (0 ≤ m) && decide (m < a.Members)
def newA (n : Int) : Arn × Int :=
  if n < 0 ∨ 24 < n then (.zero, 1) else (⟨n, (List.range n.toNat).map fun i => (Int.ofNat i), true, -1, [], false, -1, false⟩, 0)
/-- the reasons against an arena, in order -/
def bad (a : Arn) : Bool :=
  if !(a.Eager == -1) && (!has a.Left a.Eager || !a.Open) then true
  else if !(a.Winner == -1) && (!member a a.Winner || !a.Done) then true
  else if a.Done && (a.Open || a.Swept || decide (0 < a.Left.length) || decide (0 < a.Holds.length)) then true
  else if !a.Open && !a.Done && decide (a.Left.length < 2) then true
  else a.Swept && (a.Open || decide (a.Holds.length = 0))
def check (a : Arn) : Int :=
  if decide (a.Members < 0) || decide (24 < a.Members) || !rising a.Left || !rising a.Holds then 12
  else if !(a.Left.all (member a)) then 12
  else if !(a.Holds.all (has a.Left)) then 12
  else if bad a then 12 else 0
def refuse (a : Arn) (e : AEv) : Int :=
  if !(check a == 0) then check a
  else if decide (e.Kind < 1) || decide (6 < e.Kind) then 9
  else if a.Done then 12
  else if e.Kind = 2 ∨ e.Kind = 3 ∨ e.Kind = 4 then (if has a.Left e.Member then 0 else 7)
  else if e.Kind = 5 then (if has a.Holds e.Member then 0 else 7)
  else if e.Kind = 1 then (if a.Open then 0 else 10)
  else (if a.Open then 10 else 0)
def without (l : List Int) (m : Int) : List Int := l.filter fun x => !(x == m)
def decideA (a : Arn) (m : Int) : Arn × List Vd := (⟨a.Members, [], false, -1, [], false, m, true⟩, a.Left.map fun x => ⟨x, x == m⟩)
def settle (a : Arn) : Arn × List Vd := if a.Swept && decide (a.Holds.length = 0) then decideA a (a.Left.headD 0) else (a, [])
def closed (a : Arn) : Arn × List Vd :=
  let b : Arn := { a with Open := false }
  if a.Eager = -1 then (match a.Left with | [] => decideA b (-1) | [x] => decideA b x | _ => (b, [])) else decideA b a.Eager
def quit (a : Arn) (m : Int) : Arn × List Vd :=
  let b : Arn := { a with Left := without a.Left m, Holds := without a.Holds m, Eager := if a.Eager = m then -1 else a.Eager }
  if a.Open then (b, [⟨m, false⟩])
  else
    let q := if b.Left.length = 1 then decideA b (b.Left.headD 0) else settle b
    (q.1, ⟨m, false⟩ :: q.2)
def sorted (l : List Int) : List Int := l.mergeSort fun x y => decide (x ≤ y)
def act (a : Arn) (e : AEv) : Arn × List Vd :=
  if e.Kind = 1 then closed a
  else if e.Kind = 2 then (if a.Open then (if a.Eager = -1 then ({ a with Eager := e.Member }, []) else (a, [])) else decideA a e.Member)
  else if e.Kind = 3 then quit a e.Member
  else if e.Kind = 4 then (if has a.Holds e.Member then (a, []) else ({ a with Holds := sorted (a.Holds ++ [e.Member]) }, []))
  else if e.Kind = 5 then settle { a with Holds := without a.Holds e.Member }
  else settle { a with Swept := true }
def step (a : Arn) (e : AEv) : Arn × List Vd × Int :=
  if !(refuse a e == 0) then (.zero, [], refuse a e)
  else ((act a e).1, (act a e).2, 0)
end Go.Proofs.Ytcnmljpabmgieaa.R
