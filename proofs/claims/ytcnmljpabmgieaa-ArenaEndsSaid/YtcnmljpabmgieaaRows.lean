/-
  No cell of these rows narrows 'for every input' (looked for: loops, veiled, ifaces, maps, wideKeys, modest, calm, conditions, laid).
  DERIVED. THE GIVEN ROWS OF THIS SEAT. 7 by the template 'for every input the law returns true; each argument reads behind the call as it read before'; 0 by the template 'total and deterministic' (their statements: YtcnmljpabmgieaaTotals.lean).
  GIVEN WITH THE SEED: the statements are not yours to turn. If you find one false, say at which input.
  Laid BY PROGRAM, IN A SANDBOX (cutbox-rows.mjs): the forced cells as the released guide's own fill.sh prints them over the translation e9f7816916143418… (all of the seat's roots in one cut). By AI agents, Wed Nov 11 2026. No macro, syntax, notation, axiom, sorry.
-/
import Derived.Test.YtcnmljpabmgieaaChecked
import GoSem.Claim
import GoSem.ClaimJoined
import GoSem.ClaimMapViews
import Derived.JoinedTies
import Derived.KernelRfl
namespace Go.Proofs.Ytcnmljpabmgieaa
/- THE CELL 'sum', in the pinned program and in every row, IS THE sha256 OF THE DUMP (.gsa) THAT YtcnmljpabmgieaaProg.lean LOADS. Nothing in Lean hashes anything: it is a label: what it is worth is what the hold of that sum in a sandbox is worth. -/
noncomputable def Try.pinned : Pinned := { name := "ytcnmljpabmgieaa", sum := "e9f7816916143418b6b5ddd64cd5b30a6da152641ecf95255077f9b71a3e9193", checked := Try.checked }
namespace Rows
def none {H : Type} : Left H := { results := [], args := [] }

/-- 'widgetrylaw34.ArenaRaw': WHATEVER THE INPUT: true; the input reads as it did. -/
def arenaRawSpec : ChangeSpec := { name := "arenaRaw", fn := fun _ => fun
  | [d1, d2, d3] => { results := [.lit (.bool true)], args := [d1, d2, d3] }
  | _ => none }
def arenaRawRow : OpenClaim := { program := "ytcnmljpabmgieaa", sum := "e9f7816916143418b6b5ddd64cd5b30a6da152641ecf95255077f9b71a3e9193", func := "widgetry/widgetrylaw34.ArenaRaw", spec := "arenaRaw", unfollowed := true, recurses := true, apart := false }
def ArenaRawSaid : Prop := arenaRawRow.holds Try.pinned (OpenSpec.ofChange arenaRawSpec)

/-- ITS FALSE NEIGHBOUR: 'it returns false'. Refute it at one input. -/
def arenaRawWrong : ChangeSpec := { name := "arenaRaw", fn := fun _ => fun
  | [d1, d2, d3] => { results := [.lit (.bool false)], args := [d1, d2, d3] }
  | _ => none }
def ArenaRawWrongFalsely : Prop := arenaRawRow.holds Try.pinned (OpenSpec.ofChange arenaRawWrong)

/-- 'widgetrylaw34.ArenaScript': WHATEVER THE INPUT: true; the input reads as it did. -/
def arenaScriptSpec : ChangeSpec := { name := "arenaScript", fn := fun _ => fun
  | [d] => { results := [.lit (.bool true)], args := [d] }
  | _ => none }
def arenaScriptRow : OpenClaim := { program := "ytcnmljpabmgieaa", sum := "e9f7816916143418b6b5ddd64cd5b30a6da152641ecf95255077f9b71a3e9193", func := "widgetry/widgetrylaw34.ArenaScript", spec := "arenaScript", unfollowed := true, recurses := true, apart := false }
def ArenaScriptSaid : Prop := arenaScriptRow.holds Try.pinned (OpenSpec.ofChange arenaScriptSpec)

/-- ITS FALSE NEIGHBOUR: 'it returns false'. Refute it at one input. -/
def arenaScriptWrong : ChangeSpec := { name := "arenaScript", fn := fun _ => fun
  | [d] => { results := [.lit (.bool false)], args := [d] }
  | _ => none }
def ArenaScriptWrongFalsely : Prop := arenaScriptRow.holds Try.pinned (OpenSpec.ofChange arenaScriptWrong)

/-- 'widgetrylaw34.ArenaVerdicts': WHATEVER THE INPUT: true; the input reads as it did. -/
def arenaVerdictsSpec : ChangeSpec := { name := "arenaVerdicts", fn := fun _ => fun
  | [d] => { results := [.lit (.bool true)], args := [d] }
  | _ => none }
def arenaVerdictsRow : OpenClaim := { program := "ytcnmljpabmgieaa", sum := "e9f7816916143418b6b5ddd64cd5b30a6da152641ecf95255077f9b71a3e9193", func := "widgetry/widgetrylaw34.ArenaVerdicts", spec := "arenaVerdicts", unfollowed := true, recurses := true, apart := false }
def ArenaVerdictsSaid : Prop := arenaVerdictsRow.holds Try.pinned (OpenSpec.ofChange arenaVerdictsSpec)

/-- ITS FALSE NEIGHBOUR: 'it returns false'. Refute it at one input. -/
def arenaVerdictsWrong : ChangeSpec := { name := "arenaVerdicts", fn := fun _ => fun
  | [d] => { results := [.lit (.bool false)], args := [d] }
  | _ => none }
def ArenaVerdictsWrongFalsely : Prop := arenaVerdictsRow.holds Try.pinned (OpenSpec.ofChange arenaVerdictsWrong)

/-- 'widgetrylaw34.ArenaEnds': WHATEVER THE INPUT: true; the input reads as it did. -/
def arenaEndsSpec : ChangeSpec := { name := "arenaEnds", fn := fun _ => fun
  | [d] => { results := [.lit (.bool true)], args := [d] }
  | _ => none }
def arenaEndsRow : OpenClaim := { program := "ytcnmljpabmgieaa", sum := "e9f7816916143418b6b5ddd64cd5b30a6da152641ecf95255077f9b71a3e9193", func := "widgetry/widgetrylaw34.ArenaEnds", spec := "arenaEnds", unfollowed := true, recurses := true, apart := false }
def ArenaEndsSaid : Prop := arenaEndsRow.holds Try.pinned (OpenSpec.ofChange arenaEndsSpec)

/-- ITS FALSE NEIGHBOUR: 'it returns false'. Refute it at one input. -/
def arenaEndsWrong : ChangeSpec := { name := "arenaEnds", fn := fun _ => fun
  | [d] => { results := [.lit (.bool false)], args := [d] }
  | _ => none }
def ArenaEndsWrongFalsely : Prop := arenaEndsRow.holds Try.pinned (OpenSpec.ofChange arenaEndsWrong)

/-- 'widgetrylaw34.ArenaClaims': WHATEVER THE INPUT: true; the input reads as it did. -/
def arenaClaimsSpec : ChangeSpec := { name := "arenaClaims", fn := fun _ => fun
  | [d1, d2, d3, d4, d5] => { results := [.lit (.bool true)], args := [d1, d2, d3, d4, d5] }
  | _ => none }
def arenaClaimsRow : OpenClaim := { program := "ytcnmljpabmgieaa", sum := "e9f7816916143418b6b5ddd64cd5b30a6da152641ecf95255077f9b71a3e9193", func := "widgetry/widgetrylaw34.ArenaClaims", spec := "arenaClaims", unfollowed := true, recurses := true, apart := false }
def ArenaClaimsSaid : Prop := arenaClaimsRow.holds Try.pinned (OpenSpec.ofChange arenaClaimsSpec)

/-- ITS FALSE NEIGHBOUR: 'it returns false'. Refute it at one input. -/
def arenaClaimsWrong : ChangeSpec := { name := "arenaClaims", fn := fun _ => fun
  | [d1, d2, d3, d4, d5] => { results := [.lit (.bool false)], args := [d1, d2, d3, d4, d5] }
  | _ => none }
def ArenaClaimsWrongFalsely : Prop := arenaClaimsRow.holds Try.pinned (OpenSpec.ofChange arenaClaimsWrong)

/-- 'widgetrylaw34.ArenaSweeps': WHATEVER THE INPUT: true; the input reads as it did. -/
def arenaSweepsSpec : ChangeSpec := { name := "arenaSweeps", fn := fun _ => fun
  | [d1, d2] => { results := [.lit (.bool true)], args := [d1, d2] }
  | _ => none }
def arenaSweepsRow : OpenClaim := { program := "ytcnmljpabmgieaa", sum := "e9f7816916143418b6b5ddd64cd5b30a6da152641ecf95255077f9b71a3e9193", func := "widgetry/widgetrylaw34.ArenaSweeps", spec := "arenaSweeps", unfollowed := true, recurses := true, apart := false }
def ArenaSweepsSaid : Prop := arenaSweepsRow.holds Try.pinned (OpenSpec.ofChange arenaSweepsSpec)

/-- ITS FALSE NEIGHBOUR: 'it returns false'. Refute it at one input. -/
def arenaSweepsWrong : ChangeSpec := { name := "arenaSweeps", fn := fun _ => fun
  | [d1, d2] => { results := [.lit (.bool false)], args := [d1, d2] }
  | _ => none }
def ArenaSweepsWrongFalsely : Prop := arenaSweepsRow.holds Try.pinned (OpenSpec.ofChange arenaSweepsWrong)

/-- 'widgetrylaw34.ArenaLimits': WHATEVER THE INPUT: true; the input reads as it did. -/
def arenaLimitsSpec : ChangeSpec := { name := "arenaLimits", fn := fun _ => fun
  | [d] => { results := [.lit (.bool true)], args := [d] }
  | _ => none }
def arenaLimitsRow : OpenClaim := { program := "ytcnmljpabmgieaa", sum := "e9f7816916143418b6b5ddd64cd5b30a6da152641ecf95255077f9b71a3e9193", func := "widgetry/widgetrylaw34.ArenaLimits", spec := "arenaLimits", unfollowed := true, recurses := true, apart := false }
def ArenaLimitsSaid : Prop := arenaLimitsRow.holds Try.pinned (OpenSpec.ofChange arenaLimitsSpec)

/-- ITS FALSE NEIGHBOUR: 'it returns false'. Refute it at one input. -/
def arenaLimitsWrong : ChangeSpec := { name := "arenaLimits", fn := fun _ => fun
  | [d] => { results := [.lit (.bool false)], args := [d] }
  | _ => none }
def ArenaLimitsWrongFalsely : Prop := arenaLimitsRow.holds Try.pinned (OpenSpec.ofChange arenaLimitsWrong)

/- THE SECOND FORM. 'bulk': how many values and letters a reading holds, each counted each time it is reached (what is shared counts as often as it is met; a slice's spare places count too). A statement '..UptoSaid' is the law's where the arguments, and the package variables that the reading takes, are together of bulk at most 1048576: NARROWER than '..Said'. Prove '..Said' where nothing that the law and all that it calls make is longer than what came in: it says more and counts as full. Else prove '..UptoSaid'. A law counts once. -/
mutual
def uptoBulk {H : Type} : DataW H → Nat
  | .lit (.string bytes) => bytes.length + 1
  | .lit _ => 1
  | .nil => 1
  | .ptr d => uptoBulk d + 1
  | .slice elems spare => uptoBulkAll elems + uptoBulkAll spare + 1
  | .agg parts => uptoBulkAll parts + 1
  | .iface _ d => uptoBulk d + 1
  | .map entries => uptoBulkEntries entries + 1
  | .held _ => 1
def uptoBulkAll {H : Type} : List (DataW H) → Nat
  | [] => 0
  | d :: r => uptoBulk d + uptoBulkAll r
def uptoBulkEntries {H : Type} : List (Lit × DataW H) → Nat
  | [] => 0
  | x :: r => uptoBulkEntry x + uptoBulkEntries r
def uptoBulkEntry {H : Type} : Lit × DataW H → Nat
  | (.string bytes, d) => bytes.length + uptoBulk d + 1
  | (_, d) => uptoBulk d + 1
 end
def uptoSmall : (H : Type) → List (DataW H) → Bool := fun _ ds => decide (uptoBulkAll ds ≤ 1048576)
def OpenSpec.upto (s : _root_.Go.ChangeSpec) : _root_.Go.OpenSpec := { _root_.Go.OpenSpec.ofChange s with cond := some uptoSmall }

/-- 'widgetrylaw34.ArenaRaw', WHERE WHAT IT READS IS OF BULK AT MOST 1048576: true; the input reads as it did. -/
def arenaRawUptoRow : OpenClaim := { program := "ytcnmljpabmgieaa", sum := "e9f7816916143418b6b5ddd64cd5b30a6da152641ecf95255077f9b71a3e9193", func := "widgetry/widgetrylaw34.ArenaRaw", spec := "arenaRaw", unfollowed := true, recurses := true, apart := false, narrowed := true }
def ArenaRawUptoSaid : Prop := arenaRawUptoRow.holds Try.pinned (OpenSpec.upto arenaRawSpec)

/-- 'widgetrylaw34.ArenaScript', WHERE WHAT IT READS IS OF BULK AT MOST 1048576: true; the input reads as it did. -/
def arenaScriptUptoRow : OpenClaim := { program := "ytcnmljpabmgieaa", sum := "e9f7816916143418b6b5ddd64cd5b30a6da152641ecf95255077f9b71a3e9193", func := "widgetry/widgetrylaw34.ArenaScript", spec := "arenaScript", unfollowed := true, recurses := true, apart := false, narrowed := true }
def ArenaScriptUptoSaid : Prop := arenaScriptUptoRow.holds Try.pinned (OpenSpec.upto arenaScriptSpec)

/-- 'widgetrylaw34.ArenaVerdicts', WHERE WHAT IT READS IS OF BULK AT MOST 1048576: true; the input reads as it did. -/
def arenaVerdictsUptoRow : OpenClaim := { program := "ytcnmljpabmgieaa", sum := "e9f7816916143418b6b5ddd64cd5b30a6da152641ecf95255077f9b71a3e9193", func := "widgetry/widgetrylaw34.ArenaVerdicts", spec := "arenaVerdicts", unfollowed := true, recurses := true, apart := false, narrowed := true }
def ArenaVerdictsUptoSaid : Prop := arenaVerdictsUptoRow.holds Try.pinned (OpenSpec.upto arenaVerdictsSpec)

/-- 'widgetrylaw34.ArenaEnds', WHERE WHAT IT READS IS OF BULK AT MOST 1048576: true; the input reads as it did. -/
def arenaEndsUptoRow : OpenClaim := { program := "ytcnmljpabmgieaa", sum := "e9f7816916143418b6b5ddd64cd5b30a6da152641ecf95255077f9b71a3e9193", func := "widgetry/widgetrylaw34.ArenaEnds", spec := "arenaEnds", unfollowed := true, recurses := true, apart := false, narrowed := true }
def ArenaEndsUptoSaid : Prop := arenaEndsUptoRow.holds Try.pinned (OpenSpec.upto arenaEndsSpec)

/-- 'widgetrylaw34.ArenaClaims', WHERE WHAT IT READS IS OF BULK AT MOST 1048576: true; the input reads as it did. -/
def arenaClaimsUptoRow : OpenClaim := { program := "ytcnmljpabmgieaa", sum := "e9f7816916143418b6b5ddd64cd5b30a6da152641ecf95255077f9b71a3e9193", func := "widgetry/widgetrylaw34.ArenaClaims", spec := "arenaClaims", unfollowed := true, recurses := true, apart := false, narrowed := true }
def ArenaClaimsUptoSaid : Prop := arenaClaimsUptoRow.holds Try.pinned (OpenSpec.upto arenaClaimsSpec)

/-- 'widgetrylaw34.ArenaSweeps', WHERE WHAT IT READS IS OF BULK AT MOST 1048576: true; the input reads as it did. -/
def arenaSweepsUptoRow : OpenClaim := { program := "ytcnmljpabmgieaa", sum := "e9f7816916143418b6b5ddd64cd5b30a6da152641ecf95255077f9b71a3e9193", func := "widgetry/widgetrylaw34.ArenaSweeps", spec := "arenaSweeps", unfollowed := true, recurses := true, apart := false, narrowed := true }
def ArenaSweepsUptoSaid : Prop := arenaSweepsUptoRow.holds Try.pinned (OpenSpec.upto arenaSweepsSpec)

/-- 'widgetrylaw34.ArenaLimits', WHERE WHAT IT READS IS OF BULK AT MOST 1048576: true; the input reads as it did. -/
def arenaLimitsUptoRow : OpenClaim := { program := "ytcnmljpabmgieaa", sum := "e9f7816916143418b6b5ddd64cd5b30a6da152641ecf95255077f9b71a3e9193", func := "widgetry/widgetrylaw34.ArenaLimits", spec := "arenaLimits", unfollowed := true, recurses := true, apart := false, narrowed := true }
def ArenaLimitsUptoSaid : Prop := arenaLimitsUptoRow.holds Try.pinned (OpenSpec.upto arenaLimitsSpec)

end Rows
end Go.Proofs.Ytcnmljpabmgieaa
