import Derived.Test.YtojkihhnioeggaaGreatDoorQEGR0
set_option linter.all false
set_option maxRecDepth 100000
set_option maxHeartbeats 4000000
namespace Go.Proofs.YtojkihhnioeggaaGreatDoor.S
open Go Go.Bm
def nZ (n : Nat) (p0 : bM) (p1 : bS) (p2 : cX) (p3 : bA) (p4 : (List aO)) (p5 : (List aZ)) (p6 : bA) (p7 : (List aO)) : Option ((List aZ) × Int × Int) := (mC n p0 p1 p2 p6 p7).bind fun y1 => (if (y1.2 != 0) = true then some (([] : List aZ),0,y1.2) else (mJ n p3).bind fun y2 => (gd [(!(y2 != 0))] (mT n p3 p5)).bind fun y3 => (if ((y2 != 0) || (!y3)) = true then some (([] : List aZ),0,12) else (pI n p3 p4 p6 p7).bind fun y4 => some (y1.1,(w6 ((List.length p6.Nodes : Int) - (List.length y4 : Int))),0)))
theorem Dq (n : Nat) (p0 : bM) (p1 : bS) (p2 : cX) (p3 : bA) (p4 : (List aO)) (p5 : (List aZ)) (p6 : bA) (p7 : (List aO)) (r : ((List aZ) × Int × Int)) (h : nZ n p0 p1 p2 p3 p4 p5 p6 p7 = some r) : dC E 31 0 [R0 p0.Rules,O8 p1.Tokens,F3 p2,B5 p3,B7 p4,C3 p5,B5 p6,B7 p7] [] (.tup [C3 r.1,C7 r.2.1,C7 r.2.2]) [] := by
 refine eO Tryz.func31 rfl ?_
 unfold nZ at h
 refine za [4,5,7,8,9,10,11,14] (zx fun _ => zk 5 (bK h fun y1 he h => zc fok18 (uS n _ _ _ _ _ y1 he) (zk 5 (ze [4,5,7,11,14,19,20] (aM (za [4,5,7,11,14,19,20,31] (zi h (fun h => ?_) fun h => ?_)))))))
 refine za [16,17,18] ?_
 cases h
 exact aG zr
 refine aD (aM (zx fun _ => Ry 1 (L' := [I5 4 p4,L9 5 p5,I5 7 p7,J8,J3,L9 19 y1.1,A7 20 y1.2,B4 31 (y1.2 != 0),(33,B5 p3)]) (G' := [E5 p0.Rules,J5 p1.Tokens,J6 p2,G4 3 p3,G4 4 p6]) (X' := []) (bK h fun y2 he h => zc fok52 (sL n _ y2 he) (zk 2 (zq (zq (bK h fun y3 he h => yW [!(y2 != 0)] fok63 (fun hg => Bt n _ _ y3 (bQ he hg)) (zn (L2 := [I5 4 p4,L9 5 p5,I5 7 p7,J8,J3,L9 19 y1.1,A7 20 y1.2,B4 31 (y1.2 != 0),(33,B5 p3),A7 34 y2,B4 35 (y2 != 0),B4 36 (y2 != 0),(37,.cnd [!(y2 != 0)] (B5 p3)),(38,.cnd [!(y2 != 0)] (C3 p5)),(39,.cnd [!(y2 != 0)] (D7 y3))]) (G2 := [E5 p0.Rules,J5 p1.Tokens,J6 p2,G4 3 p3,G4 4 p6]) (X2 := []) (zq (zp (ze [4,7,11,14,19,41] (zi h (fun h => ?_) fun h => ?_))))))))))))
 refine za [16,17,18] ?_
 cases h
 exact aG zr
 refine aD (vK [[],[],[1],[2,1],[],[],[],[],[4,5,6,7],[8,4,5,6,7],[3,9,2,1,8,4,5,6,7],[0,8,4,5,6,7],[10,11,0,1,2,3,4,5,6,7,8,9],[12,0,1,2,3,4,5,6,7,8,9,10,11]] fun _ => zk 3 (zl aE p6.Nodes (zk 4 (bK h fun y4 he h => zc fok64 (Fk n _ _ _ _ y4 he) (zn (L2 := [I5 4 p4,I5 7 p7,J8,J3,L9 19 y1.1,B4 41 ((y2 != 0) || (!y3)),L9 42 y1.1,A1 43 4 2,(44,P1 p6.Nodes),(45,.c (I (List.length p6.Nodes : Int))),(46,B5 p3),I5 47 p4,(48,B5 p6),I5 49 p7,F8 50 y4]) (G2 := [E5 p0.Rules,J5 p1.Tokens,J6 p2,G4 3 p3,G4 4 p6]) (X2 := [(0,⟨[],[]⟩),(1,⟨[],[]⟩),(2,⟨[4],[]⟩),(3,⟨[],[]⟩),(4,⟨[3],[]⟩),(5,⟨[],[]⟩),(6,⟨[4],[]⟩),(7,⟨[],[]⟩),(8,⟨[],[]⟩)]) (zl aL y4 (zk 4 (ze [16,17,18] ?_))))))))
 cases h
 exact aG zr
end Go.Proofs.YtojkihhnioeggaaGreatDoor.S
