/-
  No cell of these rows narrows 'for every input' (looked for: loops, veiled, ifaces, maps, wideKeys, modest, calm, conditions, laid).
  DERIVED. THE GIVEN ROWS OF THIS SEAT. 10 by the template 'for every input the law returns true; each argument reads behind the call as it read before'; 0 by the template 'total and deterministic' (their statements: YtendgmnbnnkpnaaTotals.lean).
  GIVEN WITH THE SEED: the statements are not yours to turn. If you find one false, say at which input.
  Laid BY PROGRAM, IN A SANDBOX (cutbox-rows.mjs): the forced cells as the released guide's own fill.sh prints them over the translation f25588f75fd3c0f6… (all of the seat's roots in one cut). By AI agents, Wed Nov 11 2026. No macro, syntax, notation, axiom, sorry.
-/
import Derived.Test.YtendgmnbnnkpnaaChecked
import GoSem.Claim
import GoSem.ClaimJoined
import GoSem.ClaimMapViews
import Derived.JoinedTies
import Derived.KernelRfl
namespace Go.Proofs.Ytendgmnbnnkpnaa
/- THE CELL 'sum', in the pinned program and in every row, IS THE sha256 OF THE DUMP (.gsa) THAT YtendgmnbnnkpnaaProg.lean LOADS. Nothing in Lean hashes anything: it is a label: what it is worth is what the hold of that sum in a sandbox is worth. -/
noncomputable def Try.pinned : Pinned := { name := "ytendgmnbnnkpnaa", sum := "f25588f75fd3c0f690a46aa4295b4b70520249d50dc5f3ea1224f3c0b9648776", checked := Try.checked }
namespace Rows
def none {H : Type} : Left H := { results := [], args := [] }

/-- 'widgetrylaw33.GestureNew': WHATEVER THE INPUT: true; the input reads as it did. -/
def gestureNewSpec : ChangeSpec := { name := "gestureNew", fn := fun _ => fun
  | [d1, d2] => { results := [.lit (.bool true)], args := [d1, d2] }
  | _ => none }
def gestureNewRow : OpenClaim := { program := "ytendgmnbnnkpnaa", sum := "f25588f75fd3c0f690a46aa4295b4b70520249d50dc5f3ea1224f3c0b9648776", func := "widgetry/widgetrylaw33.GestureNew", spec := "gestureNew", unfollowed := true, recurses := true, apart := false }
def GestureNewSaid : Prop := gestureNewRow.holds Try.pinned (OpenSpec.ofChange gestureNewSpec)

/-- ITS FALSE NEIGHBOUR: 'it returns false'. Refute it at one input. -/
def gestureNewWrong : ChangeSpec := { name := "gestureNew", fn := fun _ => fun
  | [d1, d2] => { results := [.lit (.bool false)], args := [d1, d2] }
  | _ => none }
def GestureNewWrongFalsely : Prop := gestureNewRow.holds Try.pinned (OpenSpec.ofChange gestureNewWrong)

/-- 'widgetrylaw33.GestureProtocol': WHATEVER THE INPUT: true; the input reads as it did. -/
def gestureProtocolSpec : ChangeSpec := { name := "gestureProtocol", fn := fun _ => fun
  | [d] => { results := [.lit (.bool true)], args := [d] }
  | _ => none }
def gestureProtocolRow : OpenClaim := { program := "ytendgmnbnnkpnaa", sum := "f25588f75fd3c0f690a46aa4295b4b70520249d50dc5f3ea1224f3c0b9648776", func := "widgetry/widgetrylaw33.GestureProtocol", spec := "gestureProtocol", unfollowed := true, recurses := true, apart := false }
def GestureProtocolSaid : Prop := gestureProtocolRow.holds Try.pinned (OpenSpec.ofChange gestureProtocolSpec)

/-- ITS FALSE NEIGHBOUR: 'it returns false'. Refute it at one input. -/
def gestureProtocolWrong : ChangeSpec := { name := "gestureProtocol", fn := fun _ => fun
  | [d] => { results := [.lit (.bool false)], args := [d] }
  | _ => none }
def GestureProtocolWrongFalsely : Prop := gestureProtocolRow.holds Try.pinned (OpenSpec.ofChange gestureProtocolWrong)

/-- 'widgetrylaw33.GestureTaps': WHATEVER THE INPUT: true; the input reads as it did. -/
def gestureTapsSpec : ChangeSpec := { name := "gestureTaps", fn := fun _ => fun
  | [d1, d2, d3, d4, d5, d6] => { results := [.lit (.bool true)], args := [d1, d2, d3, d4, d5, d6] }
  | _ => none }
def gestureTapsRow : OpenClaim := { program := "ytendgmnbnnkpnaa", sum := "f25588f75fd3c0f690a46aa4295b4b70520249d50dc5f3ea1224f3c0b9648776", func := "widgetry/widgetrylaw33.GestureTaps", spec := "gestureTaps", unfollowed := true, recurses := true, apart := false }
def GestureTapsSaid : Prop := gestureTapsRow.holds Try.pinned (OpenSpec.ofChange gestureTapsSpec)

/-- ITS FALSE NEIGHBOUR: 'it returns false'. Refute it at one input. -/
def gestureTapsWrong : ChangeSpec := { name := "gestureTaps", fn := fun _ => fun
  | [d1, d2, d3, d4, d5, d6] => { results := [.lit (.bool false)], args := [d1, d2, d3, d4, d5, d6] }
  | _ => none }
def GestureTapsWrongFalsely : Prop := gestureTapsRow.holds Try.pinned (OpenSpec.ofChange gestureTapsWrong)

/-- 'widgetrylaw33.GestureAxes': WHATEVER THE INPUT: true; the input reads as it did. -/
def gestureAxesSpec : ChangeSpec := { name := "gestureAxes", fn := fun _ => fun
  | [d1, d2] => { results := [.lit (.bool true)], args := [d1, d2] }
  | _ => none }
def gestureAxesRow : OpenClaim := { program := "ytendgmnbnnkpnaa", sum := "f25588f75fd3c0f690a46aa4295b4b70520249d50dc5f3ea1224f3c0b9648776", func := "widgetry/widgetrylaw33.GestureAxes", spec := "gestureAxes", unfollowed := true, recurses := true, apart := false }
def GestureAxesSaid : Prop := gestureAxesRow.holds Try.pinned (OpenSpec.ofChange gestureAxesSpec)

/-- ITS FALSE NEIGHBOUR: 'it returns false'. Refute it at one input. -/
def gestureAxesWrong : ChangeSpec := { name := "gestureAxes", fn := fun _ => fun
  | [d1, d2] => { results := [.lit (.bool false)], args := [d1, d2] }
  | _ => none }
def GestureAxesWrongFalsely : Prop := gestureAxesRow.holds Try.pinned (OpenSpec.ofChange gestureAxesWrong)

/-- 'widgetrylaw33.GestureSpeed': WHATEVER THE INPUT: true; the input reads as it did. -/
def gestureSpeedSpec : ChangeSpec := { name := "gestureSpeed", fn := fun _ => fun
  | [d1, d2, d3] => { results := [.lit (.bool true)], args := [d1, d2, d3] }
  | _ => none }
def gestureSpeedRow : OpenClaim := { program := "ytendgmnbnnkpnaa", sum := "f25588f75fd3c0f690a46aa4295b4b70520249d50dc5f3ea1224f3c0b9648776", func := "widgetry/widgetrylaw33.GestureSpeed", spec := "gestureSpeed", unfollowed := true, recurses := true, apart := false }
def GestureSpeedSaid : Prop := gestureSpeedRow.holds Try.pinned (OpenSpec.ofChange gestureSpeedSpec)

/-- ITS FALSE NEIGHBOUR: 'it returns false'. Refute it at one input. -/
def gestureSpeedWrong : ChangeSpec := { name := "gestureSpeed", fn := fun _ => fun
  | [d1, d2, d3] => { results := [.lit (.bool false)], args := [d1, d2, d3] }
  | _ => none }
def GestureSpeedWrongFalsely : Prop := gestureSpeedRow.holds Try.pinned (OpenSpec.ofChange gestureSpeedWrong)

/-- 'widgetrylaw33.GesturePinches': WHATEVER THE INPUT: true; the input reads as it did. -/
def gesturePinchesSpec : ChangeSpec := { name := "gesturePinches", fn := fun _ => fun
  | [d1, d2, d3] => { results := [.lit (.bool true)], args := [d1, d2, d3] }
  | _ => none }
def gesturePinchesRow : OpenClaim := { program := "ytendgmnbnnkpnaa", sum := "f25588f75fd3c0f690a46aa4295b4b70520249d50dc5f3ea1224f3c0b9648776", func := "widgetry/widgetrylaw33.GesturePinches", spec := "gesturePinches", unfollowed := true, recurses := true, apart := false }
def GesturePinchesSaid : Prop := gesturePinchesRow.holds Try.pinned (OpenSpec.ofChange gesturePinchesSpec)

/-- ITS FALSE NEIGHBOUR: 'it returns false'. Refute it at one input. -/
def gesturePinchesWrong : ChangeSpec := { name := "gesturePinches", fn := fun _ => fun
  | [d1, d2, d3] => { results := [.lit (.bool false)], args := [d1, d2, d3] }
  | _ => none }
def GesturePinchesWrongFalsely : Prop := gesturePinchesRow.holds Try.pinned (OpenSpec.ofChange gesturePinchesWrong)

/-- 'widgetrylaw33.GestureLong': WHATEVER THE INPUT: true; the input reads as it did. -/
def gestureLongSpec : ChangeSpec := { name := "gestureLong", fn := fun _ => fun
  | [d1, d2, d3, d4] => { results := [.lit (.bool true)], args := [d1, d2, d3, d4] }
  | _ => none }
def gestureLongRow : OpenClaim := { program := "ytendgmnbnnkpnaa", sum := "f25588f75fd3c0f690a46aa4295b4b70520249d50dc5f3ea1224f3c0b9648776", func := "widgetry/widgetrylaw33.GestureLong", spec := "gestureLong", unfollowed := true, recurses := true, apart := false }
def GestureLongSaid : Prop := gestureLongRow.holds Try.pinned (OpenSpec.ofChange gestureLongSpec)

/-- ITS FALSE NEIGHBOUR: 'it returns false'. Refute it at one input. -/
def gestureLongWrong : ChangeSpec := { name := "gestureLong", fn := fun _ => fun
  | [d1, d2, d3, d4] => { results := [.lit (.bool false)], args := [d1, d2, d3, d4] }
  | _ => none }
def GestureLongWrongFalsely : Prop := gestureLongRow.holds Try.pinned (OpenSpec.ofChange gestureLongWrong)

/-- 'widgetrylaw33.GestureSamples': WHATEVER THE INPUT: true; the input reads as it did. -/
def gestureSamplesSpec : ChangeSpec := { name := "gestureSamples", fn := fun _ => fun
  | [d] => { results := [.lit (.bool true)], args := [d] }
  | _ => none }
def gestureSamplesRow : OpenClaim := { program := "ytendgmnbnnkpnaa", sum := "f25588f75fd3c0f690a46aa4295b4b70520249d50dc5f3ea1224f3c0b9648776", func := "widgetry/widgetrylaw33.GestureSamples", spec := "gestureSamples", unfollowed := true, recurses := true, apart := false }
def GestureSamplesSaid : Prop := gestureSamplesRow.holds Try.pinned (OpenSpec.ofChange gestureSamplesSpec)

/-- ITS FALSE NEIGHBOUR: 'it returns false'. Refute it at one input. -/
def gestureSamplesWrong : ChangeSpec := { name := "gestureSamples", fn := fun _ => fun
  | [d] => { results := [.lit (.bool false)], args := [d] }
  | _ => none }
def GestureSamplesWrongFalsely : Prop := gestureSamplesRow.holds Try.pinned (OpenSpec.ofChange gestureSamplesWrong)

/-- 'widgetrylaw33.GestureScript': WHATEVER THE INPUT: true; the input reads as it did. -/
def gestureScriptSpec : ChangeSpec := { name := "gestureScript", fn := fun _ => fun
  | [d] => { results := [.lit (.bool true)], args := [d] }
  | _ => none }
def gestureScriptRow : OpenClaim := { program := "ytendgmnbnnkpnaa", sum := "f25588f75fd3c0f690a46aa4295b4b70520249d50dc5f3ea1224f3c0b9648776", func := "widgetry/widgetrylaw33.GestureScript", spec := "gestureScript", unfollowed := true, recurses := true, apart := false }
def GestureScriptSaid : Prop := gestureScriptRow.holds Try.pinned (OpenSpec.ofChange gestureScriptSpec)

/-- ITS FALSE NEIGHBOUR: 'it returns false'. Refute it at one input. -/
def gestureScriptWrong : ChangeSpec := { name := "gestureScript", fn := fun _ => fun
  | [d] => { results := [.lit (.bool false)], args := [d] }
  | _ => none }
def GestureScriptWrongFalsely : Prop := gestureScriptRow.holds Try.pinned (OpenSpec.ofChange gestureScriptWrong)

/-- 'widgetrylaw33.GestureRaw': WHATEVER THE INPUT: true; the input reads as it did. -/
def gestureRawSpec : ChangeSpec := { name := "gestureRaw", fn := fun _ => fun
  | [d1, d2, d3] => { results := [.lit (.bool true)], args := [d1, d2, d3] }
  | _ => none }
def gestureRawRow : OpenClaim := { program := "ytendgmnbnnkpnaa", sum := "f25588f75fd3c0f690a46aa4295b4b70520249d50dc5f3ea1224f3c0b9648776", func := "widgetry/widgetrylaw33.GestureRaw", spec := "gestureRaw", unfollowed := true, recurses := true, apart := false }
def GestureRawSaid : Prop := gestureRawRow.holds Try.pinned (OpenSpec.ofChange gestureRawSpec)

/-- ITS FALSE NEIGHBOUR: 'it returns false'. Refute it at one input. -/
def gestureRawWrong : ChangeSpec := { name := "gestureRaw", fn := fun _ => fun
  | [d1, d2, d3] => { results := [.lit (.bool false)], args := [d1, d2, d3] }
  | _ => none }
def GestureRawWrongFalsely : Prop := gestureRawRow.holds Try.pinned (OpenSpec.ofChange gestureRawWrong)

/- THE SECOND FORM. 'bulk': how many values and letters a reading holds, each counted each time it is reached (what is shared counts as often as it is met; a slice's spare places count too). A statement '..UptoSaid' is the law's where the arguments, and the package variables that the reading takes, are together of bulk at most 1048576: NARROWER than '..Said'. Prove '..Said' where nothing that the law and all that it calls make is longer than what came in: it says more and counts as full. Else prove '..UptoSaid'. A law counts once. -/
mutual
def uptoBulk {H : Type} : DataW H → Nat
  | .lit (.string bytes) => bytes.length + 1
  | .lit _ => 1
  | .nil => 1
  | .ptr d => uptoBulk d + 1
  | .slice elems spare => uptoBulkAll elems + uptoBulkAll spare + 1
  | .agg parts => uptoBulkAll parts + 1
  | .iface _ d => uptoBulk d + 1
  | .map entries => uptoBulkEntries entries + 1
  | .held _ => 1
def uptoBulkAll {H : Type} : List (DataW H) → Nat
  | [] => 0
  | d :: r => uptoBulk d + uptoBulkAll r
def uptoBulkEntries {H : Type} : List (Lit × DataW H) → Nat
  | [] => 0
  | x :: r => uptoBulkEntry x + uptoBulkEntries r
def uptoBulkEntry {H : Type} : Lit × DataW H → Nat
  | (.string bytes, d) => bytes.length + uptoBulk d + 1
  | (_, d) => uptoBulk d + 1
 end
def uptoSmall : (H : Type) → List (DataW H) → Bool := fun _ ds => decide (uptoBulkAll ds ≤ 1048576)
def OpenSpec.upto (s : _root_.Go.ChangeSpec) : _root_.Go.OpenSpec := { _root_.Go.OpenSpec.ofChange s with cond := some uptoSmall }

/-- 'widgetrylaw33.GestureNew', WHERE WHAT IT READS IS OF BULK AT MOST 1048576: true; the input reads as it did. -/
def gestureNewUptoRow : OpenClaim := { program := "ytendgmnbnnkpnaa", sum := "f25588f75fd3c0f690a46aa4295b4b70520249d50dc5f3ea1224f3c0b9648776", func := "widgetry/widgetrylaw33.GestureNew", spec := "gestureNew", unfollowed := true, recurses := true, apart := false, narrowed := true }
def GestureNewUptoSaid : Prop := gestureNewUptoRow.holds Try.pinned (OpenSpec.upto gestureNewSpec)

/-- 'widgetrylaw33.GestureProtocol', WHERE WHAT IT READS IS OF BULK AT MOST 1048576: true; the input reads as it did. -/
def gestureProtocolUptoRow : OpenClaim := { program := "ytendgmnbnnkpnaa", sum := "f25588f75fd3c0f690a46aa4295b4b70520249d50dc5f3ea1224f3c0b9648776", func := "widgetry/widgetrylaw33.GestureProtocol", spec := "gestureProtocol", unfollowed := true, recurses := true, apart := false, narrowed := true }
def GestureProtocolUptoSaid : Prop := gestureProtocolUptoRow.holds Try.pinned (OpenSpec.upto gestureProtocolSpec)

/-- 'widgetrylaw33.GestureTaps', WHERE WHAT IT READS IS OF BULK AT MOST 1048576: true; the input reads as it did. -/
def gestureTapsUptoRow : OpenClaim := { program := "ytendgmnbnnkpnaa", sum := "f25588f75fd3c0f690a46aa4295b4b70520249d50dc5f3ea1224f3c0b9648776", func := "widgetry/widgetrylaw33.GestureTaps", spec := "gestureTaps", unfollowed := true, recurses := true, apart := false, narrowed := true }
def GestureTapsUptoSaid : Prop := gestureTapsUptoRow.holds Try.pinned (OpenSpec.upto gestureTapsSpec)

/-- 'widgetrylaw33.GestureAxes', WHERE WHAT IT READS IS OF BULK AT MOST 1048576: true; the input reads as it did. -/
def gestureAxesUptoRow : OpenClaim := { program := "ytendgmnbnnkpnaa", sum := "f25588f75fd3c0f690a46aa4295b4b70520249d50dc5f3ea1224f3c0b9648776", func := "widgetry/widgetrylaw33.GestureAxes", spec := "gestureAxes", unfollowed := true, recurses := true, apart := false, narrowed := true }
def GestureAxesUptoSaid : Prop := gestureAxesUptoRow.holds Try.pinned (OpenSpec.upto gestureAxesSpec)

/-- 'widgetrylaw33.GestureSpeed', WHERE WHAT IT READS IS OF BULK AT MOST 1048576: true; the input reads as it did. -/
def gestureSpeedUptoRow : OpenClaim := { program := "ytendgmnbnnkpnaa", sum := "f25588f75fd3c0f690a46aa4295b4b70520249d50dc5f3ea1224f3c0b9648776", func := "widgetry/widgetrylaw33.GestureSpeed", spec := "gestureSpeed", unfollowed := true, recurses := true, apart := false, narrowed := true }
def GestureSpeedUptoSaid : Prop := gestureSpeedUptoRow.holds Try.pinned (OpenSpec.upto gestureSpeedSpec)

/-- 'widgetrylaw33.GesturePinches', WHERE WHAT IT READS IS OF BULK AT MOST 1048576: true; the input reads as it did. -/
def gesturePinchesUptoRow : OpenClaim := { program := "ytendgmnbnnkpnaa", sum := "f25588f75fd3c0f690a46aa4295b4b70520249d50dc5f3ea1224f3c0b9648776", func := "widgetry/widgetrylaw33.GesturePinches", spec := "gesturePinches", unfollowed := true, recurses := true, apart := false, narrowed := true }
def GesturePinchesUptoSaid : Prop := gesturePinchesUptoRow.holds Try.pinned (OpenSpec.upto gesturePinchesSpec)

/-- 'widgetrylaw33.GestureLong', WHERE WHAT IT READS IS OF BULK AT MOST 1048576: true; the input reads as it did. -/
def gestureLongUptoRow : OpenClaim := { program := "ytendgmnbnnkpnaa", sum := "f25588f75fd3c0f690a46aa4295b4b70520249d50dc5f3ea1224f3c0b9648776", func := "widgetry/widgetrylaw33.GestureLong", spec := "gestureLong", unfollowed := true, recurses := true, apart := false, narrowed := true }
def GestureLongUptoSaid : Prop := gestureLongUptoRow.holds Try.pinned (OpenSpec.upto gestureLongSpec)

/-- 'widgetrylaw33.GestureSamples', WHERE WHAT IT READS IS OF BULK AT MOST 1048576: true; the input reads as it did. -/
def gestureSamplesUptoRow : OpenClaim := { program := "ytendgmnbnnkpnaa", sum := "f25588f75fd3c0f690a46aa4295b4b70520249d50dc5f3ea1224f3c0b9648776", func := "widgetry/widgetrylaw33.GestureSamples", spec := "gestureSamples", unfollowed := true, recurses := true, apart := false, narrowed := true }
def GestureSamplesUptoSaid : Prop := gestureSamplesUptoRow.holds Try.pinned (OpenSpec.upto gestureSamplesSpec)

/-- 'widgetrylaw33.GestureScript', WHERE WHAT IT READS IS OF BULK AT MOST 1048576: true; the input reads as it did. -/
def gestureScriptUptoRow : OpenClaim := { program := "ytendgmnbnnkpnaa", sum := "f25588f75fd3c0f690a46aa4295b4b70520249d50dc5f3ea1224f3c0b9648776", func := "widgetry/widgetrylaw33.GestureScript", spec := "gestureScript", unfollowed := true, recurses := true, apart := false, narrowed := true }
def GestureScriptUptoSaid : Prop := gestureScriptUptoRow.holds Try.pinned (OpenSpec.upto gestureScriptSpec)

/-- 'widgetrylaw33.GestureRaw', WHERE WHAT IT READS IS OF BULK AT MOST 1048576: true; the input reads as it did. -/
def gestureRawUptoRow : OpenClaim := { program := "ytendgmnbnnkpnaa", sum := "f25588f75fd3c0f690a46aa4295b4b70520249d50dc5f3ea1224f3c0b9648776", func := "widgetry/widgetrylaw33.GestureRaw", spec := "gestureRaw", unfollowed := true, recurses := true, apart := false, narrowed := true }
def GestureRawUptoSaid : Prop := gestureRawUptoRow.holds Try.pinned (OpenSpec.upto gestureRawSpec)

end Rows
end Go.Proofs.Ytendgmnbnnkpnaa
