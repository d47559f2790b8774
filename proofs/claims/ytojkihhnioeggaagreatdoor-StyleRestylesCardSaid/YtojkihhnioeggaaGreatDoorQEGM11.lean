import Derived.Test.YtojkihhnioeggaaGreatDoorQEGM10
set_option linter.all false
set_option maxRecDepth 100000
set_option maxHeartbeats 4000000
namespace Go.Proofs.YtojkihhnioeggaaGreatDoor.S
open Go Go.Bm
def fK (p1 : bA) (p0 : cM) (j4 : Unit → Option Bool) : Nat → Int → Int → Int → ByteArray → List bJ → List cS → List Int → Option Bool
 | 0,_,_,_,_,_,_,_ => none
 | n + 1,v7,v8,v9,v10,v11,v12,v13 => (if (v8 != 0) = true then (iL n p1 v8).bind fun y14 => (gd [((p0.UnderKind == 0) || (p0.UnderKind == y14.Kind)),(!(bP p0.UnderClass nB))] (kY n y14)).bind fun y15 => (if (((p0.UnderKind == 0) || (p0.UnderKind == y14.Kind)) && ((bP p0.UnderClass nB) || (bP p0.UnderClass y15))) = true then some true else fK p1 p0 j4 n y14.ID y14.Parent y14.Kind y14.Key y14.Attrs y14.Actions y14.Kids) else j4 ())
def kB (n : Nat) (p0 : cM) (p1 : bA) (p2 : (List aO)) (p3 : Int) : Option Bool := (iL n p1 p3).bind fun y1 => (gd [(!((p0.Kind != 0) && (p0.Kind != y1.Kind))),(!(bP p0.Class nB))] (kY n y1)).bind fun y2 => (gd [(!(((p0.Kind != 0) && (p0.Kind != y1.Kind)) || ((!(bP p0.Class nB)) && (!(bP p0.Class y2)))))] (lD n p2 p3)).bind fun y3 => (if ((((p0.Kind != 0) && (p0.Kind != y1.Kind)) || ((!(bP p0.Class nB)) && (!(bP p0.Class y2)))) || ((oU .i64 y3 p0.States) != p0.States)) = true then some false else (if ((p0.UnderKind == 0) && (bP p0.UnderClass nB)) = true then some true else (aS (fun (_ : Unit) => some false) (fun (j4 : Unit → Option Bool) => fK p1 p0 j4 n y1.ID y1.Parent y1.Kind y1.Key y1.Attrs y1.Actions y1.Kids))))
theorem Dd (n : Nat) (p0 : cM) (p1 : bA) (p2 : (List aO)) (p3 : Int) (r : Bool) (h : kB n p0 p1 p2 p3 = some r) : dC E 54 0 [E0 p0,B5 p1,B7 p2,C7 p3] [] (D7 r) [] := by
 refine eO Tryz.func54 rfl ?_
 unfold kB at h
 refine za [2,3,4,5] (zx fun _ => zk 2 (bK h fun y1 he h => zc Kv (mD n _ _ y1 he) (zk 2 (ze [2,3,4,5,9] (aM (vK [[],[0],[1,0],[2,1,0],[3,2,1,0],[4,3,2,1,0],[3,2,1,0],[6,3,2,1,0],[5,7,3,4,2,1,0,6],[3,8,2,1,0,5,7,4,6],[9,3,8,2,1,0,5,7,4,6],[10,9,3,8,2,1,0,5,7,4,6],[11,10,9,3,8,2,1,0,5,7,4,6],[12,10,11,9,3,8,2,1,0,5,7,4,6],[13,10,12,11,9,3,8,2,1,0,5,7,4,6],[14,13,10,12,11,9,3,8,2,1,0,5,7,4,6],[15,14,13,10,12,11,9,3,8,2,1,0,5,7,4,6],[14,13,10,12,11,9,3,8,2,1,0,5,7,4,6],[17,14,13,10,12,11,9,3,8,2,1,0,5,7,4,6],[16,18,14,15,13,10,12,11,9,3,8,2,1,0,5,7,4,6,17],[14,19,10,13,12,11,9,3,8,2,1,0,5,7,4,6,16,18,15,17],[10,20,9,3,8,2,1,0,5,7,4,6,14,19,13,12,11,16,18,15,17],[21,18,10,20,9,3,8,2,1,0,5,7,4,6,14,19,13,12,11,16,15,17],[22,21,18,10,20,9,3,8,2,1,0,5,7,4,6,14,19,13,12,11,16,15,17],[22,21,18,10,20,9,3,8,2,1,0,5,7,4,6,14,19,13,12,11,16,15,17],[23,24,22,21,18,10,20,9,3,8,2,1,0,5,7,4,6,14,19,13,12,11,16,15,17],[22,21,18,10,20,9,3,8,2,1,0,5,7,4,6,14,19,13,12,11,16,15,17],[26,22,21,18,10,20,9,3,8,2,1,0,5,7,4,6,14,19,13,12,11,16,15,17],[25,27,22,23,24,21,18,10,20,9,3,8,2,1,0,5,7,4,6,14,19,13,12,11,16,15,17,26],[22,21,18,10,20,9,3,8,2,1,0,5,7,4,6,14,19,13,12,11,16,15,17],[29,22,21,18,10,20,9,3,8,2,1,0,5,7,4,6,14,19,13,12,11,16,15,17],[28,30,22,25,27,23,24,21,18,10,20,9,3,8,2,1,0,5,7,4,6,14,19,13,12,11,16,15,17,26,29],[22,31,21,18,10,20,9,3,8,2,1,0,5,7,4,6,14,19,13,12,11,16,15,17,28,30,25,27,23,24,26,29]] fun _ => zk 4 (zq (zn (L2 := [I5 2 p2,A7 3 p3,H5,O1,A1 9 6 0,A1 13 0 0,A7 14 p0.Kind,B4 15 (p0.Kind != 0),B4 16 (p0.Kind != 0),(17,.cnd [p0.Kind != 0] (D6 0 0))]) (G2 := [K7 0 p0,G4 1 p1,K3 6 y1]) (X2 := [(0,⟨[],[]⟩),(1,⟨[0],[]⟩),(2,⟨[],[]⟩),(3,⟨[],[]⟩),(4,⟨[],[]⟩)]) (zq (zq (zq (zq (zp (zn (L2 := [I5 2 p2,A7 3 p3,H5,O1,A1 9 6 0,A1 13 0 0,A7 14 p0.Kind,B4 15 (p0.Kind != 0),B4 16 (p0.Kind != 0),(17,.cnd [p0.Kind != 0] (D6 0 0)),(18,.cnd [p0.Kind != 0] (C7 p0.Kind)),(19,.cnd [p0.Kind != 0] (D6 6 2)),(20,.cnd [p0.Kind != 0] (C7 y1.Kind)),(21,.cnd [p0.Kind != 0] (D7 (p0.Kind != y1.Kind))),B4 22 ((p0.Kind != 0) && (p0.Kind != y1.Kind))]) (G2 := [K7 0 p0,G4 1 p1,K3 6 y1]) (X2 := [(0,⟨[],[]⟩),(1,⟨[0],[]⟩),(2,⟨[],[]⟩),(3,⟨[],[]⟩),(4,⟨[],[]⟩),(5,⟨[0],[]⟩),(6,⟨[],[]⟩),(7,⟨[6],[]⟩),(8,⟨[],[]⟩),(9,⟨[],[]⟩)]) (zk 1 (zq (zq (zq (zF [!((p0.Kind != 0) && (p0.Kind != y1.Kind))] (D7 (!(G9 p0.Class))) (zn (L2 := [I5 2 p2,A7 3 p3,H5,O1,A1 9 6 0,A1 13 0 0,A7 14 p0.Kind,B4 15 (p0.Kind != 0),B4 16 (p0.Kind != 0),(17,.cnd [p0.Kind != 0] (D6 0 0)),(18,.cnd [p0.Kind != 0] (C7 p0.Kind)),(19,.cnd [p0.Kind != 0] (D6 6 2)),(20,.cnd [p0.Kind != 0] (C7 y1.Kind)),(21,.cnd [p0.Kind != 0] (D7 (p0.Kind != y1.Kind))),B4 22 ((p0.Kind != 0) && (p0.Kind != y1.Kind)),B4 23 ((p0.Kind != 0) && (p0.Kind != y1.Kind)),(24,.cnd [!((p0.Kind != 0) && (p0.Kind != y1.Kind))] (D6 0 1)),(25,.cnd [!((p0.Kind != 0) && (p0.Kind != y1.Kind))] (G0 p0.Class)),(26,.cnd [!((p0.Kind != 0) && (p0.Kind != y1.Kind))] (D7 (!(G9 p0.Class)))),(27,.cnd [!((p0.Kind != 0) && (p0.Kind != y1.Kind))] (D7 (!(G9 p0.Class))))]) (G2 := [K7 0 p0,G4 1 p1,K3 6 y1]) (X2 := [(0,⟨[],[]⟩),(1,⟨[0],[]⟩),(2,⟨[],[]⟩),(3,⟨[],[]⟩),(4,⟨[],[]⟩),(5,⟨[0],[]⟩),(6,⟨[],[]⟩),(7,⟨[6],[]⟩),(8,⟨[],[]⟩),(9,⟨[],[]⟩),(10,⟨[],[]⟩),(11,⟨[],[]⟩),(12,⟨[0],[]⟩),(13,⟨[],[]⟩),(14,⟨[],[]⟩)]) (zq (zq (zq (bK h fun y2 he h => yW [!((p0.Kind != 0) && (p0.Kind != y1.Kind)),!(G9 p0.Class)] Wk (fun hg => pL n _ y2 (bQ he hg)) (zq (zn (L2 := [I5 2 p2,A7 3 p3,H5,O1,A1 9 6 0,A1 13 0 0,A7 14 p0.Kind,B4 15 (p0.Kind != 0),B4 16 (p0.Kind != 0),(17,.cnd [p0.Kind != 0] (D6 0 0)),(18,.cnd [p0.Kind != 0] (C7 p0.Kind)),(19,.cnd [p0.Kind != 0] (D6 6 2)),(20,.cnd [p0.Kind != 0] (C7 y1.Kind)),(21,.cnd [p0.Kind != 0] (D7 (p0.Kind != y1.Kind))),B4 22 ((p0.Kind != 0) && (p0.Kind != y1.Kind)),B4 23 ((p0.Kind != 0) && (p0.Kind != y1.Kind)),(24,.cnd [!((p0.Kind != 0) && (p0.Kind != y1.Kind))] (D6 0 1)),(25,.cnd [!((p0.Kind != 0) && (p0.Kind != y1.Kind))] (G0 p0.Class)),(26,.cnd [!((p0.Kind != 0) && (p0.Kind != y1.Kind))] (D7 (!(G9 p0.Class)))),(27,.cnd [!((p0.Kind != 0) && (p0.Kind != y1.Kind))] (D7 (!(G9 p0.Class)))),(28,.cnd [!((p0.Kind != 0) && (p0.Kind != y1.Kind)),!(G9 p0.Class)] (D6 0 1)),(29,.cnd [!((p0.Kind != 0) && (p0.Kind != y1.Kind)),!(G9 p0.Class)] (G0 p0.Class)),(30,.cnd [!((p0.Kind != 0) && (p0.Kind != y1.Kind)),!(G9 p0.Class)] (B2 y1)),(31,.cnd [!((p0.Kind != 0) && (p0.Kind != y1.Kind)),!(G9 p0.Class)] (G0 y2)),(32,.cnd [!((p0.Kind != 0) && (p0.Kind != y1.Kind)),!(G9 p0.Class)] (D7 (!(bP p0.Class y2))))]) (G2 := [K7 0 p0,G4 1 p1,K3 6 y1]) (X2 := [(0,⟨[],[]⟩),(1,⟨[0],[]⟩),(2,⟨[],[]⟩),(3,⟨[],[]⟩),(4,⟨[],[]⟩),(5,⟨[0],[]⟩),(6,⟨[],[]⟩),(7,⟨[6],[]⟩),(8,⟨[],[]⟩),(9,⟨[],[]⟩),(10,⟨[],[]⟩),(11,⟨[],[]⟩),(12,⟨[0],[]⟩),(13,⟨[],[]⟩),(14,⟨[],[]⟩),(15,⟨[],[]⟩),(16,⟨[0],[]⟩),(17,⟨[6],[]⟩),(18,⟨[],[]⟩),(19,⟨[],[]⟩)]) (zp (zp ?_))))))))))))))))))))))))))))
 refine zk 1 (zq (zq (zn (L2 := [I5 2 p2,A7 3 p3,H5,O1,A1 9 6 0,A1 13 0 0,A7 14 p0.Kind,B4 15 (p0.Kind != 0),B4 16 (p0.Kind != 0),(17,.cnd [p0.Kind != 0] (D6 0 0)),(18,.cnd [p0.Kind != 0] (C7 p0.Kind)),(19,.cnd [p0.Kind != 0] (D6 6 2)),(20,.cnd [p0.Kind != 0] (C7 y1.Kind)),(21,.cnd [p0.Kind != 0] (D7 (p0.Kind != y1.Kind))),B4 22 ((p0.Kind != 0) && (p0.Kind != y1.Kind)),B4 23 ((p0.Kind != 0) && (p0.Kind != y1.Kind)),(24,.cnd [!((p0.Kind != 0) && (p0.Kind != y1.Kind))] (D6 0 1)),(25,.cnd [!((p0.Kind != 0) && (p0.Kind != y1.Kind))] (G0 p0.Class)),(26,.cnd [!((p0.Kind != 0) && (p0.Kind != y1.Kind))] (D7 (!(G9 p0.Class)))),(27,.cnd [!((p0.Kind != 0) && (p0.Kind != y1.Kind))] (D7 (!(G9 p0.Class)))),(28,.cnd [!((p0.Kind != 0) && (p0.Kind != y1.Kind)),!(G9 p0.Class)] (D6 0 1)),(29,.cnd [!((p0.Kind != 0) && (p0.Kind != y1.Kind)),!(G9 p0.Class)] (G0 p0.Class)),(30,.cnd [!((p0.Kind != 0) && (p0.Kind != y1.Kind)),!(G9 p0.Class)] (B2 y1)),(31,.cnd [!((p0.Kind != 0) && (p0.Kind != y1.Kind)),!(G9 p0.Class)] (G0 y2)),(32,.cnd [!((p0.Kind != 0) && (p0.Kind != y1.Kind)),!(G9 p0.Class)] (D7 (!(bP p0.Class y2)))),(33,.cnd [!((p0.Kind != 0) && (p0.Kind != y1.Kind))] (D7 ((!(G9 p0.Class)) && (!(bP p0.Class y2))))),B4 34 (((p0.Kind != 0) && (p0.Kind != y1.Kind)) || ((!(G9 p0.Class)) && (!(bP p0.Class y2)))),B4 35 (((p0.Kind != 0) && (p0.Kind != y1.Kind)) || ((!(G9 p0.Class)) && (!(bP p0.Class y2)))),(36,.cnd [!(((p0.Kind != 0) && (p0.Kind != y1.Kind)) || ((!(G9 p0.Class)) && (!(bP p0.Class y2))))] (B7 p2)),(37,.cnd [!(((p0.Kind != 0) && (p0.Kind != y1.Kind)) || ((!(G9 p0.Class)) && (!(bP p0.Class y2))))] (C7 p3))]) (G2 := [K7 0 p0,G4 1 p1,K3 6 y1]) (X2 := [(0,⟨[],[]⟩),(1,⟨[0],[]⟩),(2,⟨[],[]⟩),(3,⟨[],[]⟩),(4,⟨[],[]⟩),(5,⟨[0],[]⟩),(6,⟨[],[]⟩),(7,⟨[6],[]⟩),(8,⟨[],[]⟩),(9,⟨[],[]⟩),(10,⟨[],[]⟩),(11,⟨[],[]⟩),(12,⟨[0],[]⟩),(13,⟨[],[]⟩),(14,⟨[],[]⟩),(15,⟨[],[]⟩),(16,⟨[0],[]⟩),(17,⟨[6],[]⟩),(18,⟨[],[]⟩),(19,⟨[],[]⟩),(20,⟨[],[]⟩),(21,⟨[],[]⟩),(22,⟨[],[]⟩),(23,⟨[],[]⟩),(24,⟨[],[]⟩)]) (bK h fun y3 he h => yW [!(((p0.Kind != 0) && (p0.Kind != y1.Kind)) || ((!(G9 p0.Class)) && (!(bP p0.Class y2))))] fok90 (fun hg => rA n _ _ y3 (bQ he hg)) (zq (zq (zq (zq (zn (L2 := [I5 2 p2,A7 3 p3,H5,O1,A1 9 6 0,A1 13 0 0,A7 14 p0.Kind,B4 15 (p0.Kind != 0),B4 16 (p0.Kind != 0),(17,.cnd [p0.Kind != 0] (D6 0 0)),(18,.cnd [p0.Kind != 0] (C7 p0.Kind)),(19,.cnd [p0.Kind != 0] (D6 6 2)),(20,.cnd [p0.Kind != 0] (C7 y1.Kind)),(21,.cnd [p0.Kind != 0] (D7 (p0.Kind != y1.Kind))),B4 22 ((p0.Kind != 0) && (p0.Kind != y1.Kind)),B4 23 ((p0.Kind != 0) && (p0.Kind != y1.Kind)),(24,.cnd [!((p0.Kind != 0) && (p0.Kind != y1.Kind))] (D6 0 1)),(25,.cnd [!((p0.Kind != 0) && (p0.Kind != y1.Kind))] (G0 p0.Class)),(26,.cnd [!((p0.Kind != 0) && (p0.Kind != y1.Kind))] (D7 (!(G9 p0.Class)))),(27,.cnd [!((p0.Kind != 0) && (p0.Kind != y1.Kind))] (D7 (!(G9 p0.Class)))),(28,.cnd [!((p0.Kind != 0) && (p0.Kind != y1.Kind)),!(G9 p0.Class)] (D6 0 1)),(29,.cnd [!((p0.Kind != 0) && (p0.Kind != y1.Kind)),!(G9 p0.Class)] (G0 p0.Class)),(30,.cnd [!((p0.Kind != 0) && (p0.Kind != y1.Kind)),!(G9 p0.Class)] (B2 y1)),(31,.cnd [!((p0.Kind != 0) && (p0.Kind != y1.Kind)),!(G9 p0.Class)] (G0 y2)),(32,.cnd [!((p0.Kind != 0) && (p0.Kind != y1.Kind)),!(G9 p0.Class)] (D7 (!(bP p0.Class y2)))),(33,.cnd [!((p0.Kind != 0) && (p0.Kind != y1.Kind))] (D7 ((!(G9 p0.Class)) && (!(bP p0.Class y2))))),B4 34 (((p0.Kind != 0) && (p0.Kind != y1.Kind)) || ((!(G9 p0.Class)) && (!(bP p0.Class y2)))),B4 35 (((p0.Kind != 0) && (p0.Kind != y1.Kind)) || ((!(G9 p0.Class)) && (!(bP p0.Class y2)))),(36,.cnd [!(((p0.Kind != 0) && (p0.Kind != y1.Kind)) || ((!(G9 p0.Class)) && (!(bP p0.Class y2))))] (B7 p2)),(37,.cnd [!(((p0.Kind != 0) && (p0.Kind != y1.Kind)) || ((!(G9 p0.Class)) && (!(bP p0.Class y2))))] (C7 p3)),(38,.cnd [!(((p0.Kind != 0) && (p0.Kind != y1.Kind)) || ((!(G9 p0.Class)) && (!(bP p0.Class y2))))] (C7 y3)),(39,.cnd [!(((p0.Kind != 0) && (p0.Kind != y1.Kind)) || ((!(G9 p0.Class)) && (!(bP p0.Class y2))))] (D6 0 2)),(40,.cnd [!(((p0.Kind != 0) && (p0.Kind != y1.Kind)) || ((!(G9 p0.Class)) && (!(bP p0.Class y2))))] (C7 p0.States)),(41,.cnd [!(((p0.Kind != 0) && (p0.Kind != y1.Kind)) || ((!(G9 p0.Class)) && (!(bP p0.Class y2))))] (C7 (oU .i64 y3 p0.States))),(42,.cnd [!(((p0.Kind != 0) && (p0.Kind != y1.Kind)) || ((!(G9 p0.Class)) && (!(bP p0.Class y2))))] (D6 0 2))]) (G2 := [K7 0 p0,G4 1 p1,K3 6 y1]) (X2 := [(0,⟨[],[]⟩),(1,⟨[0],[]⟩),(2,⟨[],[]⟩),(3,⟨[],[]⟩),(4,⟨[],[]⟩),(5,⟨[0],[]⟩),(6,⟨[],[]⟩),(7,⟨[6],[]⟩),(8,⟨[],[]⟩),(9,⟨[],[]⟩),(10,⟨[],[]⟩),(11,⟨[],[]⟩),(12,⟨[0],[]⟩),(13,⟨[],[]⟩),(14,⟨[],[]⟩),(15,⟨[],[]⟩),(16,⟨[0],[]⟩),(17,⟨[6],[]⟩),(18,⟨[],[]⟩),(19,⟨[],[]⟩),(20,⟨[],[]⟩),(21,⟨[],[]⟩),(22,⟨[],[]⟩),(23,⟨[],[]⟩),(24,⟨[],[]⟩),(25,⟨[],[]⟩),(26,⟨[],[]⟩),(27,⟨[0],[]⟩),(28,⟨[],[]⟩),(29,⟨[],[]⟩)]) (zq (zq (zp (ze [4,5,9,45] (zi h (fun h => ?_) fun h => ?_))))))))))))))
 refine za [8] ?_
 cases h
 exact aG zr
 refine aD (aM (zx fun _ => zk 4 (zq (zn (L2 := [H5,O1,A1 9 6 0,B4 45 ((((p0.Kind != 0) && (p0.Kind != y1.Kind)) || ((!(G9 p0.Class)) && (!(bP p0.Class y2)))) || ((oU .i64 y3 p0.States) != p0.States)),A1 46 0 3,A7 47 p0.UnderKind,B4 48 (p0.UnderKind == 0),B4 49 (p0.UnderKind == 0),(50,.cnd [p0.UnderKind == 0] (D6 0 4))]) (G2 := [K7 0 p0,G4 1 p1,K3 6 y1]) (X2 := []) (zq (zq (zp (ze [4,5,9,53] (zi h (fun h => ?_) fun h => ?_)))))))))
 refine za [8] ?_
 cases h
 exact aG zr
 refine aD (aR h (fun A j => ∀ u,j u = some r → A (M5)) (fun u h => ?_) (fun j4 Aj4 hj4 h => ?_))
 refine za [8] ?_
 cases h
 exact aG zr
 refine aI (bB (fun n s => ∃ v7 v8 v9 v10 v11 v12 v13,fK p1 p0 j4 n v7 v8 v9 v10 v11 v12 v13 = some r ∧ s = mk [H5,O1,A1 9 2 0] [K7 0 p0,G4 1 p1,(2,K5 v7 v8 v9 v10 v11 v12 v13)] 3) n _ (zv [(0,0),(1,1),(6,2)] [4,5,9] 3) ⟨_,_,_,_,_,_,_,h,rfl⟩ (fun s ⟨v7,v8,v9,v10,v11,v12,v13,h,_⟩ => nomatch h) ?_)
 rintro n s ⟨v7,v8,v9,v10,v11,v12,v13,h,rfl⟩
 rw [fK] at h
 refine aM (za [4,5,9,56] (zi h (fun h => ?_) fun h => ?_))
 refine aD (aI (zx fun _ => zk 3 (bK h fun y14 he h => zc Kv (mD n _ _ y14 he) (zk 1 (ze [4,5,9] (vK [[],[0],[1,0],[2,1,0],[3,2,1,0],[4,3,2,1,0],[3,2,1,0],[6,3,2,1,0],[5,7,3,4,2,1,0,6],[3,8,2,1,0,5,7,4,6],[9,3,8,2,1,0,5,7,4,6],[10,9,3,8,2,1,0,5,7,4,6],[11,10,9,3,8,2,1,0,5,7,4,6],[12,10,11,9,3,8,2,1,0,5,7,4,6],[13,10,12,11,9,3,8,2,1,0,5,7,4,6],[14,13,10,12,11,9,3,8,2,1,0,5,7,4,6],[15,14,13,10,12,11,9,3,8,2,1,0,5,7,4,6],[14,13,10,12,11,9,3,8,2,1,0,5,7,4,6],[17,14,13,10,12,11,9,3,8,2,1,0,5,7,4,6],[16,18,14,15,13,10,12,11,9,3,8,2,1,0,5,7,4,6,17],[14,19,10,13,12,11,9,3,8,2,1,0,5,7,4,6,16,18,15,17],[10,20,9,3,8,2,1,0,5,7,4,6,14,19,13,12,11,16,18,15,17]] fun _ => zk 4 (zq (zn (L2 := [H5,O1,A1 9 2 0,A1 61 0 3,A7 62 p0.UnderKind,B4 63 (p0.UnderKind == 0),B4 64 (p0.UnderKind == 0),(65,.cnd [!(p0.UnderKind == 0)] (D6 0 3))]) (G2 := [K7 0 p0,G4 1 p1,K3 2 y14]) (X2 := [(0,⟨[],[]⟩),(1,⟨[0],[]⟩),(2,⟨[],[]⟩),(3,⟨[],[]⟩),(4,⟨[],[]⟩)]) (zq (zq (zq (zq (zp (zn (L2 := [H5,O1,A1 9 2 0,A1 61 0 3,A7 62 p0.UnderKind,B4 63 (p0.UnderKind == 0),B4 64 (p0.UnderKind == 0),(65,.cnd [!(p0.UnderKind == 0)] (D6 0 3)),(66,.cnd [!(p0.UnderKind == 0)] (C7 p0.UnderKind)),(67,.cnd [!(p0.UnderKind == 0)] (D6 2 2)),(68,.cnd [!(p0.UnderKind == 0)] (C7 y14.Kind)),(69,.cnd [!(p0.UnderKind == 0)] (D7 (p0.UnderKind == y14.Kind))),B4 70 ((p0.UnderKind == 0) || (p0.UnderKind == y14.Kind))]) (G2 := [K7 0 p0,G4 1 p1,K3 2 y14]) (X2 := [(0,⟨[],[]⟩),(1,⟨[0],[]⟩),(2,⟨[],[]⟩),(3,⟨[],[]⟩),(4,⟨[],[]⟩),(5,⟨[0],[]⟩),(6,⟨[],[]⟩),(7,⟨[2],[]⟩),(8,⟨[],[]⟩),(9,⟨[],[]⟩)]) (zk 1 (zq (zq (zq (zF [(p0.UnderKind == 0) || (p0.UnderKind == y14.Kind)] (D7 (G9 p0.UnderClass)) (zn (L2 := [H5,O1,A1 9 2 0,A1 61 0 3,A7 62 p0.UnderKind,B4 63 (p0.UnderKind == 0),B4 64 (p0.UnderKind == 0),(65,.cnd [!(p0.UnderKind == 0)] (D6 0 3)),(66,.cnd [!(p0.UnderKind == 0)] (C7 p0.UnderKind)),(67,.cnd [!(p0.UnderKind == 0)] (D6 2 2)),(68,.cnd [!(p0.UnderKind == 0)] (C7 y14.Kind)),(69,.cnd [!(p0.UnderKind == 0)] (D7 (p0.UnderKind == y14.Kind))),B4 70 ((p0.UnderKind == 0) || (p0.UnderKind == y14.Kind)),B4 71 ((p0.UnderKind == 0) || (p0.UnderKind == y14.Kind)),(72,.cnd [(p0.UnderKind == 0) || (p0.UnderKind == y14.Kind)] (D6 0 4)),(73,.cnd [(p0.UnderKind == 0) || (p0.UnderKind == y14.Kind)] (G0 p0.UnderClass)),(74,.cnd [(p0.UnderKind == 0) || (p0.UnderKind == y14.Kind)] (D7 (G9 p0.UnderClass))),(75,.cnd [(p0.UnderKind == 0) || (p0.UnderKind == y14.Kind)] (D7 (G9 p0.UnderClass)))]) (G2 := [K7 0 p0,G4 1 p1,K3 2 y14]) (X2 := [(0,⟨[],[]⟩),(1,⟨[0],[]⟩),(2,⟨[],[]⟩),(3,⟨[],[]⟩),(4,⟨[],[]⟩),(5,⟨[0],[]⟩),(6,⟨[],[]⟩),(7,⟨[2],[]⟩),(8,⟨[],[]⟩),(9,⟨[],[]⟩),(10,⟨[],[]⟩),(11,⟨[],[]⟩),(12,⟨[0],[]⟩),(13,⟨[],[]⟩),(14,⟨[],[]⟩)]) (zq (zq (zq (bK h fun y15 he h => yW [(p0.UnderKind == 0) || (p0.UnderKind == y14.Kind),!(G9 p0.UnderClass)] Wk (fun hg => pL n _ y15 (bQ he hg)) (zq (zn (L2 := [H5,O1,A1 9 2 0,A1 61 0 3,A7 62 p0.UnderKind,B4 63 (p0.UnderKind == 0),B4 64 (p0.UnderKind == 0),(65,.cnd [!(p0.UnderKind == 0)] (D6 0 3)),(66,.cnd [!(p0.UnderKind == 0)] (C7 p0.UnderKind)),(67,.cnd [!(p0.UnderKind == 0)] (D6 2 2)),(68,.cnd [!(p0.UnderKind == 0)] (C7 y14.Kind)),(69,.cnd [!(p0.UnderKind == 0)] (D7 (p0.UnderKind == y14.Kind))),B4 70 ((p0.UnderKind == 0) || (p0.UnderKind == y14.Kind)),B4 71 ((p0.UnderKind == 0) || (p0.UnderKind == y14.Kind)),(72,.cnd [(p0.UnderKind == 0) || (p0.UnderKind == y14.Kind)] (D6 0 4)),(73,.cnd [(p0.UnderKind == 0) || (p0.UnderKind == y14.Kind)] (G0 p0.UnderClass)),(74,.cnd [(p0.UnderKind == 0) || (p0.UnderKind == y14.Kind)] (D7 (G9 p0.UnderClass))),(75,.cnd [(p0.UnderKind == 0) || (p0.UnderKind == y14.Kind)] (D7 (G9 p0.UnderClass))),(76,.cnd [(p0.UnderKind == 0) || (p0.UnderKind == y14.Kind),!(G9 p0.UnderClass)] (D6 0 4)),(77,.cnd [(p0.UnderKind == 0) || (p0.UnderKind == y14.Kind),!(G9 p0.UnderClass)] (G0 p0.UnderClass)),(78,.cnd [(p0.UnderKind == 0) || (p0.UnderKind == y14.Kind),!(G9 p0.UnderClass)] (B2 y14)),(79,.cnd [(p0.UnderKind == 0) || (p0.UnderKind == y14.Kind),!(G9 p0.UnderClass)] (G0 y15)),(80,.cnd [(p0.UnderKind == 0) || (p0.UnderKind == y14.Kind),!(G9 p0.UnderClass)] (D7 (bP p0.UnderClass y15)))]) (G2 := [K7 0 p0,G4 1 p1,K3 2 y14]) (X2 := [(0,⟨[],[]⟩),(1,⟨[0],[]⟩),(2,⟨[],[]⟩),(3,⟨[],[]⟩),(4,⟨[],[]⟩),(5,⟨[0],[]⟩),(6,⟨[],[]⟩),(7,⟨[2],[]⟩),(8,⟨[],[]⟩),(9,⟨[],[]⟩),(10,⟨[],[]⟩),(11,⟨[],[]⟩),(12,⟨[0],[]⟩),(13,⟨[],[]⟩),(14,⟨[],[]⟩),(15,⟨[],[]⟩),(16,⟨[0],[]⟩),(17,⟨[2],[]⟩),(18,⟨[],[]⟩),(19,⟨[],[]⟩)]) (zp (zp ?_))))))))))))))))))))))))))))
 refine ze [4,5,9,82] (zi h (fun h => ?_) fun h => ?_)
 refine za [8] ?_
 cases h
 exact aG zr
 exact aJ zI (aD (⟨_,_,_,_,_,_,_,h,rfl⟩))
 exact aJ zI (bF (hj4 _ h))
def iN (p0 : bS) (p2 : ByteArray) (p1 : cX) (j1 : Unit → Option (Int × Bool)) : Nat → Int → Option (Int × Bool)
 | 0,_ => none
 | n + 1,v3 => (if (decide (v3 < (List.length p0.Tokens : Int))) = true then (idx p0.Tokens v3).bind fun e4 => (if (!(bP e4.Name p2)) = true then iN p0 p2 p1 j1 n (w6 (v3 + 1)) else (if (p1.High && p1.Dark) = true then some (e4.HighDark,true) else (if p1.High = true then some (e4.HighLight,true) else (if p1.Dark = true then some (e4.Dark,true) else some (e4.Light,true))))) else j1 ())
def pJ (n : Nat) (p0 : bS) (p1 : cX) (p2 : ByteArray) : Option (Int × Bool) := (aS (fun (_ : Unit) => some (0,false)) (fun (j1 : Unit → Option (Int × Bool)) => iN p0 p2 p1 j1 n 0))
theorem Fh (n : Nat) (p0 : bS) (p1 : cX) (p2 : ByteArray) (r : (Int × Bool)) (h : pJ n p0 p1 p2 = some r) : dC E 84 0 [O8 p0.Tokens,F3 p1,G0 p2] [] (.tup [C7 r.1,D7 r.2]) [] := by
 refine eO Tryz.func84 rfl ?_
 unfold pJ at h
 refine za [2,3,4] (aR h (fun A j => ∀ u,j u = some r → A (M5)) (fun u h => ?_) (fun j1 Aj1 hj1 h => ?_))
 refine za [6,7] ?_
 cases h
 exact aG zr
 refine za [2,3,4,8] (aI (bB (fun n s => ∃ v3,iN p0 p2 p1 j1 n v3 = some r ∧ s = mk [(2,G0 p2),I8,H4,A7 8 v3] [(0,C9 p0.Tokens),(1,B9 p1)] 2) n _ zI ⟨_,h,rfl⟩ (fun s ⟨v3,h,_⟩ => nomatch h) ?_))
 rintro n s ⟨v3,h,rfl⟩
 rw [iN] at h
 refine aM (zx fun _ => zk 3 (zl bC p0.Tokens (zk 1 (ze [2,3,4,8,14] (zi h (fun h => ?_) fun h => ?_)))))
 refine aD (aM (aI (zx fun _ => zk 3 (bK h fun e4 he h => zd bC he (zk 3 (ze [2,3,4,8,9] (aM (za [2,3,4,8,9,25] (zi h (fun h => ?_) fun h => ?_)))))))))
 exact bF (aV (zb (dI zI (⟨_,h,rfl⟩))))
 refine aD (aM (aI (zx fun _ => zk 3 (zq (zq (zp (zk 1 (kS [4,9,26] (L2 := [H4,A1 9 12 0,B4 26 (p1.High && p1.Dark)]) (G2 := [(0,C9 p0.Tokens),(1,B9 p1),(12,I0 e4)]) 25 (zi h (fun h => ?_) fun h => ?_)))))))))
 refine za [6,7] ?_
 cases h
 exact aG zr
 refine za [4,9,35] (zi h (fun h => ?_) fun h => ?_)
 refine za [6,7] ?_
 cases h
 exact aG zr
 refine za [9,40] (zi h (fun h => ?_) fun h => ?_)
 refine za [6,7] ?_
 cases h
 exact aG zr
 refine aD (za [6,7] ?_)
 cases h
 exact aG zr
 exact aJ zI (bF (hj1 _ h))
def lA (n : Nat) (p0 : Int) (p1 : Int) (p2 : Int) : Option Int := (if ((decide (p0 < p1)) || (decide (p2 < p1))) = true then some p1 else (if (decide (p0 > p2)) = true then some p2 else some p0))
theorem yE (n : Nat) (p0 : Int) (p1 : Int) (p2 : Int) (r : Int) (h : lA n p0 p1 p2 = some r) : dC E 111 0 [C7 p0,C7 p1,C7 p2] [] (C7 r) [] := by
 refine eO Tryz.func111 rfl ?_
 unfold lA at h
 refine za [0,1,2] (aM (zx fun _ => zk 4 (zq (zq (zq (zp (ze [0,1,2,14] (zi h (fun h => ?_) fun h => ?_))))))))
 refine za [6] ?_
 cases h
 exact aG zr
 refine aD (aM (za [0,2,18] (zi h (fun h => ?_) fun h => ?_)))
 refine za [6] ?_
 cases h
 exact aG zr
 refine aD (za [6] ?_)
 cases h
 exact aG zr
def tP (n : Nat) (p0 : Int) (p1 : Int) : Option Int := (if (((((p1 == 0) || (decide (p0 < (-1152921504606846976 : Int)))) || (decide (p0 > 1152921504606846976))) || (decide (p1 < (-1152921504606846976 : Int)))) || (decide (p1 > 1152921504606846976))) = true then some 0 else (aS (fun (v2 : Int) (v3 : Int) => (nz v3).bind fun d4 => (nz v3).bind fun d5 => (aS (fun (v7 : Int) (v8 : Int) => (aS (fun (v10 : Int) => some v10) (fun (j9 : Int → Option Int) => (if (decide (v8 ≥ (w6 (v3 - v8)))) = true then j9 (w6 (v7 + 1)) else j9 v7)))) (fun (j6 : Int → Int → Option Int) => (if (decide ((Int.tmod v2 v3) < 0)) = true then j6 (w6 ((w6 (Int.tdiv v2 v3)) - 1)) (w6 ((Int.tmod v2 v3) + v3)) else j6 (w6 (Int.tdiv v2 v3)) (Int.tmod v2 v3))))) (fun (j1 : Int → Int → Option Int) => (if (decide (p1 < 0)) = true then j1 (w6 (0 - p0)) (w6 (0 - p1)) else j1 p0 p1))))
theorem Im (n : Nat) (p0 : Int) (p1 : Int) (r : Int) (h : tP n p0 p1 = some r) : dC E 128 0 [C7 p0,C7 p1] [] (C7 r) [] := by
 refine eO Tryz.func128 rfl ?_
 unfold tP at h
 refine za [0,1] (aM (zx fun _ => zk 3 (zq (zq (zp (zk 1 (zq (zq (zp (zk 1 (zq (zq (zp (zk 1 (zq (zq (zP (.bool (((((p1 == 0) || (decide (p0 < (-1152921504606846976 : Int)))) || (F2 p0 1152921504606846976)) || (decide (p1 < (-1152921504606846976 : Int)))) || (F2 p1 1152921504606846976))) (kS [0,1,24] (L2 := [A7 0 p0,A7 1 p1,(24,.c (Bo (((((p1 == 0) || (decide (p0 < (-1152921504606846976 : Int)))) || (F2 p0 1152921504606846976)) || (decide (p1 < (-1152921504606846976 : Int)))) || (F2 p1 1152921504606846976))))]) (G2 := []) 19 (zi h (fun h => ?_) fun h => ?_)))))))))))))))))))
 refine za [4] ?_
 cases h
 exact aG zr
 refine aD (aR h (fun A j => ∀ v2 v3,j v2 v3 = some r → A (mk [A7 0 v2,A7 1 v3] [] 0)) (fun v2 v3 h => ?_) (fun j1 Aj1 hj1 h => ?_))
 refine zx fun _ => zk 2 (bK h fun d4 he h => cY (v := .c (I (w6 (Int.tdiv v2 v3)))) (foot := []) (rd_quo (k := .i64) (x := v2) (y := v3) he (by kernel_rfl)) (by kernel_rfl) rfl rfl (zk 1 (ze [0,1,5] (zx fun _ => zk 2 (bK h fun d5 he h => cY (v := .c (I (Int.tmod v2 v3))) (foot := []) (Te (k := .i64) (x := v2) (y := v3) he (by kernel_rfl)) (by kernel_rfl) rfl rfl (zk 1 (ze [1,5,6] (aR h (fun A j => ∀ v7 v8,j v7 v8 = some r → A (mk [A7 1 v3,A7 5 v7,A7 6 v8] [] 0)) (fun v7 v8 h => ?_) (fun j6 Aj6 hj6 h => ?_)))))))))
 refine aR h (fun A j => ∀ v10,j v10 = some r → A (mk [A7 5 v10] [] 0)) (fun v10 h => ?_) (fun j9 Aj9 hj9 h => ?_)
 refine za [4] ?_
 cases h
 exact aG zr
 refine za [5,48] (zi h (fun h => ?_) fun h => ?_)
 exact aV (zb (dI zI (hj9 _ h)))
 exact aJ zI (aD (hj9 _ h))
 refine za [1,5,6,38] (zi h (fun h => ?_) fun h => ?_)
 exact aV (zb (dI zI (hj6 _ _ h)))
 exact aJ zI (aD (hj6 _ _ h))
 refine za [0,1,26] (zi h (fun h => ?_) fun h => ?_)
 exact aV (zb (dI zI (hj1 _ _ h)))
 exact aJ zI (aD (hj1 _ _ h))
def qS (n : Nat) (p0 : Int) (p1 : Int) (p2 : Int) : Option (Int × Int) := (if ((((((decide (p0 < (-1099511627776 : Int))) || (decide (p0 > 1099511627776))) || (decide (p1 < 0))) || (decide (p1 > 65536))) || (decide (p2 < 1))) || (decide (p2 > 65536))) = true then some (0,1) else (tP n (w6 (p0 * p1)) p2).bind fun y1 => some (y1,0))
theorem Iq (n : Nat) (p0 : Int) (p1 : Int) (p2 : Int) (r : (O3)) (h : qS n p0 p1 p2 = some r) : dC E 112 0 [C7 p0,C7 p1,C7 p2] [] (.tup [C7 r.1,C7 r.2]) [] := by
 refine eO Tryz.func112 rfl ?_
 unfold qS at h
 refine za [0,1,2] (aM (zx fun _ => zk 3 (zq (zq (zp (zk 1 (zq (zq (zp (zk 1 (zq (zq (zp (zk 1 (zq (zq (zP (.bool (((((decide (p0 < (-1099511627776 : Int))) || (O0 p0)) || (D4 p1 0)) || (F2 p1 65536)) || (D4 p2 1))) (zk 1 (zq (zq (zP (.bool ((((((decide (p0 < (-1099511627776 : Int))) || (O0 p0)) || (D4 p1 0)) || (F2 p1 65536)) || (D4 p2 1)) || (F2 p2 65536))) (kS [0,1,2,29] (L2 := [A7 0 p0,A7 1 p1,A7 2 p2,(29,.c (Bo ((((((decide (p0 < (-1099511627776 : Int))) || (O0 p0)) || (D4 p1 0)) || (F2 p1 65536)) || (D4 p2 1)) || (F2 p2 65536))))]) (G2 := []) 24 (zi h (fun h => ?_) fun h => ?_)))))))))))))))))))))))
 refine za [6,7] ?_
 cases h
 exact aG zr
 refine aD (zx fun _ => zk 4 (bK h fun y1 he h => zc fok128 (Im n _ _ y1 he) (zk 2 (ze [6,7] ?_))))
 cases h
 exact aG zr
def oF (n : Nat) (p0 : cX) (p1 : Int) : Option Int := (if ((((decide (p0.Scale < 50)) || (decide (p0.Scale > 400))) || (decide (p1 < 1))) || (decide (p1 > 1000))) = true then (lA n p1 1 1000).bind fun y1 => some y1 else (qS n p1 p0.Scale 100).bind fun y2 => (lA n y2.1 1 1000).bind fun y3 => some y3)
theorem Kl (n : Nat) (p0 : cX) (p1 : Int) (r : Int) (h : oF n p0 p1 = some r) : dC E 85 0 [F3 p0,C7 p1] [] (C7 r) [] := by
 refine eO Tryz.func85 rfl ?_
 unfold oF at h
 refine za [1,2] (aM (zx fun _ => zk 4 (zq (zq (zq (zp (zk 1 (zq (zq (zp (zk 1 (zq (zq (zp (kS [1,2,22] (L2 := [A7 1 p1,J2,B4 22 (((B0 p0.Scale 50 400) || (D4 p1 1)) || (F2 p1 1000))]) (G2 := [(0,B9 p0)]) 18 (zi h (fun h => ?_) fun h => ?_))))))))))))))))
 refine zx fun _ => zk 1 (bK h fun y1 he h => zc fok111 (yE n _ _ _ y1 he) (zk 1 (ze [4] ?_)))
 cases h
 exact aG zr
 refine aD (zx fun _ => zk 3 (bK h fun y2 he h => zc fok112 (Iq n _ _ _ y2 he) (zk 5 (ze [5] (zx fun _ => zk 1 (bK h fun y3 he h => zc fok111 (yE n _ _ _ y3 he) (zk 1 (ze [4] ?_))))))))
 cases h
 exact aG zr
end Go.Proofs.YtojkihhnioeggaaGreatDoor.S
