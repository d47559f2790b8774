import Derived.Test.YtojkihhnioeggaaGreatDoorQUGM9
set_option linter.unusedVariables false
set_option linter.unusedSimpArgs false
set_option maxRecDepth 100000
set_option maxHeartbeats 4000000
namespace Go.Proofs.YtojkihhnioeggaaGreatDoor.S
open Go Go.Bm
def kM (v57 : Int) (e44 : aP) (j62 : Unit → Option Bool) (y12 : Int) (v56 : Int) (v42 : Int) (p0 : bA) : Nat → Int → Option Bool
 | 0, _ => none
 | n + 1, v65 => (if (decide (v65 < v57)) = true then (idx e44.Kids v65).bind fun (e66 : Int) => (idx e44.Kids v57).bind fun (e67 : Int) => (if (e66 == e67) = true then some false else kM v57 e44 j62 y12 v56 v42 p0 n (IntKind.wrap .i64 (v65 + 1))) else j62 ())
def kI (e44 : aP) (p0 : bA) (y12 : Int) (v42 : Int) (j43 : Int → Option Bool) : Nat → Int → Int → Option Bool
 | 0, _, _ => none
 | n + 1, v56, v57 => (if (decide (v57 < (List.length e44.Kids : Int))) = true then (aS (fun (_ : Unit) => kI e44 p0 y12 v42 j43 n (IntKind.wrap .i64 (v56 + 1)) (IntKind.wrap .i64 (v57 + 1))) (fun (j58 : Unit → Option Bool) => (idx e44.Kids v57).bind fun (e59 : Int) => (mW n p0 e59).bind fun (y60 : Int) => (gd [(!(decide (y60 < 0)))] (idx p0.Nodes y60)).bind fun (e61 : aP) => (if ((decide (y60 < 0)) || (e61.Parent != e44.ID)) = true then some false else (aS (fun (_ : Unit) => j58 ()) (fun (j62 : Unit → Option Bool) => kM v57 e44 j62 y12 v56 v42 p0 n 0))))) else j43 v56)
def iM (p0 : bA) (y12 : Int) (j13 : Int → Option Bool) : Nat → Int → Int → Option Bool
 | 0, _, _ => none
 | n + 1, v41, v42 => (if (decide (v42 < (List.length p0.Nodes : Int))) = true then (aS (fun (v71 : Int) => iM p0 y12 j13 n v71 (IntKind.wrap .i64 (v42 + 1))) (fun (j43 : Int → Option Bool) => (idx p0.Nodes v42).bind fun (e44 : aP) => (if ((e44.Parent == 0) != (v42 == y12)) = true then some false else (if (decide ((List.length e44.Kids : Int) > (List.length p0.Nodes : Int))) = true then some false else kI e44 p0 y12 v42 j43 n v41 0)))) else j13 v41)
def iP (p0 : bA) (j1 : Unit → Option Bool) : Nat → Int → Int → Option Bool
 | 0, _, _ => none
 | n + 1, v5, v6 => (if (decide (v6 < (List.length p0.Nodes : Int))) = true then (idx p0.Nodes v6).bind fun (e7 : aP) => (gd [(!(decide (e7.ID ≤ v5)))] (idx p0.Nodes v6)).bind fun (e8 : aP) => (if ((decide (e7.ID ≤ v5)) || (decide (e8.ID ≥ p0.Next))) = true then some false else (idx p0.Nodes v6).bind fun (e9 : aP) => iP p0 j1 n e9.ID (IntKind.wrap .i64 (v6 + 1))) else j1 ())
def zB  (n : Nat) (p0 : bA) : Option Bool := (if ((((decide (p0.Next < 2)) || (decide (p0.Next > 1099511627776))) || (decide ((List.length p0.Nodes : Int) < 1))) || (decide ((List.length p0.Nodes : Int) > 400))) = true then some false else (aS (fun (_ : Unit) => (mW n p0 p0.Root).bind fun (y12 : Int) => (if (decide (y12 < 0)) = true then some false else (aS (fun (v74 : Int) => (if (v74 != (IntKind.wrap .i64 ((List.length p0.Nodes : Int) - 1))) = true then some false else (lP n p0 p0.Root ([] : List Int)).bind fun (y75 : (List Int)) => some ((List.length y75 : Int) == (List.length p0.Nodes : Int)))) (fun (j13 : Int → Option Bool) => iM p0 y12 j13 n 0 0)))) (fun (j1 : Unit → Option Bool) => iP p0 j1 n 0 0)))
def iU (y1 : aP) (self_ref14_describe : bA → Int → Option aJ) (p0 : bA) (j2 : List aJ → Option aJ) : Nat → Int → List aJ → Option aJ
 | 0, _, _ => none
 | n + 1, v7, v8 => (if (decide (v7 < (List.length y1.Kids : Int))) = true then (idx y1.Kids v7).bind fun (e9 : Int) => (self_ref14_describe p0 e9).bind fun (y10 : aJ) => (pD 96 v8 [y10]).bind fun (l11 : List aJ) => iU y1 self_ref14_describe p0 j2 n (IntKind.wrap .i64 (v7 + 1)) l11 else j2 v8)
def pK (self_ref14_describe : bA → Int → Option aJ) (n : Nat) (p0 : bA) (p1 : Int) : Option aJ := (jU n p0 p1).bind fun (y1 : aP) => (aS (fun (v15 : List aJ) => some (aJ.mk y1.Kind y1.Key y1.Attrs y1.Actions v15)) (fun (j2 : List aJ → Option aJ) => iU y1 self_ref14_describe p0 j2 n 0 ([] : List aJ)))
def lE : Nat → bA → Int → Option aJ
 | 0, _, _ => none
 | n + 1, p0, p1 => pK (fun a0 a1 => lE n a0 a1) n p0 p1
def qZ  (n : Nat) (p0 : bA) : Option Int := (zB n p0).bind fun (y1 : Bool) => (if (!y1) = true then some 12 else (lE n p0 p0.Root).bind fun (y2 : aJ) => (iG n y2).bind fun (y3 : Int) => some y3)
def xC  (n : Nat) (p0 : bH) (p1 : bS) (p2 : cY) (p3 : bA) : Option Int := (qI n p0).bind fun (y1 : Int) => (if (y1 != 0) = true then some y1 else (qV n p1).bind fun (y2 : Int) => (if (y2 != 0) = true then some y2 else (if ((decide (p2.Scale < 50)) || (decide (p2.Scale > 400))) = true then some 1 else (qZ n p3).bind fun (y3 : Int) => some y3)))
def vD  (n : Nat) (p0 : bA) : Option (List Int) := (qZ n p0).bind fun (y1 : Int) => (if (y1 != 0) = true then some ([] : List Int) else (lP n p0 p0.Root ([] : List Int)).bind fun (y2 : (List Int)) => some y2)
def mJ (p0 : (List aU)) (p1 : Int) (j1 : Unit → Option aA) : Nat → Int → Option aA
 | 0, _ => none
 | n + 1, v4 => (if (decide (v4 < (List.length p0 : Int))) = true then (idx p0 v4).bind fun (e5 : aU) => (if (e5.ID == p1) = true then (idx p0 v4).bind fun (e6 : aU) => some e6.Style else mJ p0 p1 j1 n (IntKind.wrap .i64 (v4 + 1))) else j1 ())
def xO  (n : Nat) (p0 : (List aU)) (p1 : Int) : Option aA := (aS (fun (_ : Unit) => some (aA.mk 0 0 0 0 0 0 0 0 0 0 0 0 0 0 0 0 0 0 0 0 0 0)) (fun (j1 : Unit → Option aA) => mJ p0 p1 j1 n 0))
def oO  (n : Nat)  : Option aA := some (aA.mk 0 (-1 : Int) 16 0 0 1 3 0 0 0 0 1 (-1 : Int) 0 1048576 0 1048576 0 0 0 0 0)
def mN  (n : Nat) (p0 : Int) : Option Bool := (aS (fun (v2 : Bool) => (if v2 = true then some true else some false)) (fun (j1 : Bool → Option Bool) => (if (p0 == 0) = true then j1 (p0 == 0) else (if (p0 == 2) = true then j1 (p0 == 2) else (if (p0 == 3) = true then j1 (p0 == 3) else (if (p0 == 4) = true then j1 (p0 == 4) else (if (p0 == 8) = true then j1 (p0 == 8) else j1 (p0 == 21))))))))
def gR (p0 : bY) (j5 : Int → Option (Int × Int)) : Nat → Int → Int → Option (Int × Int)
 | 0, _, _ => none
 | n + 1, v8, v9 => (if (decide (v9 ≤ 16)) = true then (aS (fun (v11 : Int) => gR p0 j5 n v11 (IntKind.wrap .i64 (v9 * 2))) (fun (j10 : Int → Option (Int × Int)) => (if ((mI .i64 p0.States v9) != 0) = true then j10 (IntKind.wrap .i64 (v8 + 1)) else j10 v8))) else j5 v8)
def nN  (n : Nat) (p0 : bY) : Option (Int × Int) := (aS (fun (v2 : Int) => (aS (fun (v4 : Int) => (aS (fun (v14 : Int) => (aS (fun (v16 : Int) => (aS (fun (v18 : Int) => some (v14, v18)) (fun (j17 : Int → Option (Int × Int)) => (if (p0.UnderKind != 0) = true then j17 (IntKind.wrap .i64 (v16 + 1)) else j17 v16)))) (fun (j15 : Int → Option (Int × Int)) => (if (p0.Kind != 0) = true then j15 (IntKind.wrap .i64 (0 + 1)) else j15 0)))) (fun (j5 : Int → Option (Int × Int)) => gR p0 j5 n v4 1))) (fun (j3 : Int → Option (Int × Int)) => (if (!(bV p0.UnderClass (⟨#[]⟩ : ByteArray))) = true then j3 (IntKind.wrap .i64 (v2 + 1)) else j3 v2)))) (fun (j1 : Int → Option (Int × Int)) => (if (!(bV p0.Class (⟨#[]⟩ : ByteArray))) = true then j1 (IntKind.wrap .i64 (0 + 1)) else j1 0)))
def kR (p0 : (List bD)) (p1 : ByteArray) (j1 : Unit → Option (aF × Bool)) : Nat → Int → Option (aF × Bool)
 | 0, _ => none
 | n + 1, v4 => (if (decide (v4 < (List.length p0 : Int))) = true then (idx p0 v4).bind fun (e5 : bD) => (if (bV e5.Name p1) = true then (idx p0 v4).bind fun (e6 : bD) => some (e6.Value, true) else kR p0 p1 j1 n (IntKind.wrap .i64 (v4 + 1))) else j1 ())
def Fr  (n : Nat) (p0 : (List bD)) (p1 : ByteArray) : Option (aF × Bool) := (aS (fun (_ : Unit) => some ((aF.mk 0 0 (⟨#[]⟩ : ByteArray) ([] : List aF)), false)) (fun (j1 : Unit → Option (aF × Bool)) => kR p0 p1 j1 n 0))
def Gl  (n : Nat) (p0 : (List bD)) (p1 : ByteArray) : Option ByteArray := (Fr n p0 p1).bind fun (y1 : (aF × Bool)) => (if (y1.1.Kind != 3) = true then some (⟨#[]⟩ : ByteArray) else some y1.1.S)
def rD  (n : Nat) (p0 : aP) : Option ByteArray := (Gl n p0.Attrs (⟨#[99, 108, 97, 115, 115]⟩ : ByteArray)).bind fun (y1 : ByteArray) => some y1
def kH (p0 : (List aR)) (p1 : Int) (j1 : Unit → Option Int) : Nat → Int → Option Int
 | 0, _ => none
 | n + 1, v4 => (if (decide (v4 < (List.length p0 : Int))) = true then (idx p0 v4).bind fun (e5 : aR) => (if (e5.ID == p1) = true then (idx p0 v4).bind fun (e6 : aR) => some e6.States else kH p0 p1 j1 n (IntKind.wrap .i64 (v4 + 1))) else j1 ())
def tO  (n : Nat) (p0 : (List aR)) (p1 : Int) : Option Int := (aS (fun (_ : Unit) => some 0) (fun (j1 : Unit → Option Int) => kH p0 p1 j1 n 0))
end Go.Proofs.YtojkihhnioeggaaGreatDoor.S
