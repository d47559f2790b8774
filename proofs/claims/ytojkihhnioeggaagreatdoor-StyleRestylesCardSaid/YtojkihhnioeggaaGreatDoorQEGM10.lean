import Derived.Test.YtojkihhnioeggaaGreatDoorQEGM9
set_option linter.all false
set_option maxRecDepth 100000
set_option maxHeartbeats 4000000
namespace Go.Proofs.YtojkihhnioeggaaGreatDoor.S
open Go Go.Bm
def iP (v57 : Int) (e44 : aU) (j62 : Unit → Option Bool) (y12 : Int) (v56 : Int) (v42 : Int) (p0 : bA) : Nat → Int → Option Bool
 | 0,_ => none
 | n + 1,v65 => (if (decide (v65 < v57)) = true then (idx e44.Kids v65).bind fun e66 => (idx e44.Kids v57).bind fun e67 => (if (e66 == e67) = true then some false else iP v57 e44 j62 y12 v56 v42 p0 n (w6 (v65 + 1))) else j62 ())
def iK (e44 : aU) (p0 : bA) (y12 : Int) (v42 : Int) (j43 : Int → Option Bool) : Nat → Int → Int → Option Bool
 | 0,_,_ => none
 | n + 1,v56,v57 => (if (decide (v57 < (List.length e44.Kids : Int))) = true then (aS (fun (_ : Unit) => iK e44 p0 y12 v42 j43 n (w6 (v56 + 1)) (w6 (v57 + 1))) (fun (j58 : Unit → Option Bool) => (idx e44.Kids v57).bind fun e59 => (jT n p0 e59).bind fun y60 => (gd [(!(decide (y60 < 0)))] (idx p0.Nodes y60)).bind fun e61 => (if ((decide (y60 < 0)) || (e61.Parent != e44.ID)) = true then some false else (aS (fun (_ : Unit) => j58 ()) (fun (j62 : Unit → Option Bool) => iP v57 e44 j62 y12 v56 v42 p0 n 0))))) else j43 v56)
def gH (p0 : bA) (y12 : Int) (j13 : Int → Option Bool) : Nat → Int → Int → Option Bool
 | 0,_,_ => none
 | n + 1,v41,v42 => (if (decide (v42 < (List.length p0.Nodes : Int))) = true then (aS (fun (v71 : Int) => gH p0 y12 j13 n v71 (w6 (v42 + 1))) (fun (j43 : Int → Option Bool) => (idx p0.Nodes v42).bind fun e44 => (if ((e44.Parent == 0) != (v42 == y12)) = true then some false else (if (decide ((List.length e44.Kids : Int) > (List.length p0.Nodes : Int))) = true then some false else iK e44 p0 y12 v42 j43 n v41 0)))) else j13 v41)
def gK (p0 : bA) (j1 : Unit → Option Bool) : Nat → Int → Int → Option Bool
 | 0,_,_ => none
 | n + 1,v5,v6 => (if (decide (v6 < (List.length p0.Nodes : Int))) = true then (idx p0.Nodes v6).bind fun e7 => (gd [(!(decide (e7.ID ≤ v5)))] (idx p0.Nodes v6)).bind fun e8 => (if ((decide (e7.ID ≤ v5)) || (decide (e8.ID ≥ p0.Next))) = true then some false else (idx p0.Nodes v6).bind fun e9 => gK p0 j1 n e9.ID (w6 (v6 + 1))) else j1 ())
def rO (n : Nat) (p0 : bA) : Option Bool := (if ((((decide (p0.Next < 2)) || (decide (p0.Next > 1099511627776))) || (decide ((List.length p0.Nodes : Int) < 1))) || (decide ((List.length p0.Nodes : Int) > 400))) = true then some false else (aS (fun (_ : Unit) => (jT n p0 p0.Root).bind fun y12 => (if (decide (y12 < 0)) = true then some false else (aS (fun (v74 : Int) => (if (v74 != (w6 ((List.length p0.Nodes : Int) - 1))) = true then some false else (jA n p0 p0.Root ([] : List Int)).bind fun y75 => some ((List.length y75 : Int) == (List.length p0.Nodes : Int)))) (fun (j13 : Int → Option Bool) => gH p0 y12 j13 n 0 0)))) (fun (j1 : Unit → Option Bool) => gK p0 j1 n 0 0)))
theorem Fi (n : Nat) (p0 : bA) (r : Bool) (h : rO n p0 = some r) : dC E 87 0 [B5 p0] [] (D7 r) [] := by
 refine eO Tryz.func87 rfl ?_
 unfold rO at h
 refine za [1] (aM (zx fun _ => zk 4 (zq (zq (zq (zp (zk 1 (zq (zq (kX (e := [!(Q8 p0.Next)]) [(22,P1 p0.Nodes,some 1)] (v := .c (I (List.length p0.Nodes : Int))) (foot := []) (by kernel_rfl) (by kernel_rfl) (by kernel_rfl) (fun hg => mO (enc := aE) (l := p0.Nodes) (by kernel_rfl)) rfl rfl (zq (zp (zk 1 (zq (zq (kX (e := [(!((Q8 p0.Next) || (decide ((List.length p0.Nodes : Int) < 1))))]) [(28,P1 p0.Nodes,some 1)] (v := .c (I (List.length p0.Nodes : Int))) (foot := []) (by kernel_rfl) (by kernel_rfl) (by kernel_rfl) (fun hg => mO (enc := aE) (l := p0.Nodes) (by kernel_rfl)) rfl rfl (zq (zp (kS [1,31] (L2 := [H9,(31,.c (Bo (((Q8 p0.Next) || (decide ((List.length p0.Nodes : Int) < 1))) || (decide ((List.length p0.Nodes : Int) > 400)))))]) (G2 := [G4 0 p0]) 22 (zi h (fun h => ?_) fun h => ?_))))))))))))))))))))
 refine za [2] ?_
 cases h
 exact aG zr
 refine aD (za [1,3] (aR h (fun A j => ∀ u,j u = some r → A (mk [H9] [G4 0 p0] 1)) (fun u h => ?_) (fun j1 Aj1 hj1 h => ?_)))
 refine zx fun _ => zk 3 (bK h fun y12 he h => zc Vc (pH n _ _ y12 he) (zk 1 (ze [1,5] (aM (za [1,5,69] (zi h (fun h => ?_) fun h => ?_))))))
 refine za [2] ?_
 cases h
 exact aG zr
 refine aD (za [1,5,6] (aR h (fun A j => ∀ v74,j v74 = some r → A (mk [H9,A7 6 v74] [G4 0 p0] 1)) (fun v74 h => ?_) (fun j13 Aj13 hj13 h => ?_)))
 refine aM (zx fun _ => zk 3 (zl aE p0.Nodes (zk 2 (ze [1,146] (zi h (fun h => ?_) fun h => ?_)))))
 refine za [2] ?_
 cases h
 exact aG zr
 refine aD (vK [[],[],[1],[0,2,1],[3,0,2,1],[],[5],[6,5],[4,7,3,0,2,1,6,5],[8,3,0,1,2,4,5,6,7]] fun _ => zk 3 (bK h fun y75 he h => uX (F := 80) (As := [B5 p0,C7 p0.Root,.c (bV)]) (Bs := [B5 p0,C7 p0.Root,.c (bV)]) (σ := [(1,10)]) (k := 0) (kn := 1) (nm := 10) (Gc := []) (Gf := [(1,E8 y75)]) (r := .c (.row 1)) (v := .c (.row 10)) (by kernel_rfl) Zy ⟨.inl (by kernel_rfl),⟨.inl (by kernel_rfl),⟨.inr ⟨(by kernel_rfl),(by kernel_rfl)⟩,trivial⟩⟩⟩ (dC.nil1 (xV n _ _ _ y75 he) rfl rfl) (by kernel_rfl) (by kernel_rfl) (by kernel_rfl) (by kernel_rfl) (by kernel_rfl) (by kernel_rfl) rfl rfl rfl (cY (v := .c (I (List.length y75 : Int))) (foot := [10]) (Fu (enc := aL) (l := y75) (n := 10) (by kernel_rfl)) (by kernel_rfl) rfl rfl (zk 2 (zl aE p0.Nodes (zk 2 (ze [2] ?_)))))))
 cases h
 exact aG zr
 refine za [1,5,6,7] (aI (bB (fun n s => ∃ v41 v42,gH p0 y12 j13 n v41 v42 = some r ∧ s = mk [H9,A7 5 y12,A7 6 v41,A7 7 v42] [G4 0 p0] 1) n _ zI ⟨_,_,h,rfl⟩ (fun s ⟨v41,v42,h,_⟩ => nomatch h) ?_))
 rintro n s ⟨v41,v42,h,rfl⟩
 rw [gH] at h
 refine aM (zx fun _ => zk 3 (zl aE p0.Nodes (zk 1 (ze [1,5,6,7,74] (zi h (fun h => ?_) fun h => ?_)))))
 refine aD (aR h (fun A j => ∀ v71,j v71 = some r → A (mk [H9,A7 5 y12,A7 6 v71,A7 7 v42] [G4 0 p0] 1)) (fun v71 h => ?_) (fun j43 Aj43 hj43 h => ?_))
 exact aV (zb (dI zI (⟨_,_,h,rfl⟩)))
 refine aI (zx fun _ => zk 3 (bK h fun e44 he h => zd aE he (zk 3 (ze [1,5,6,7,8] (aM (za [1,5,6,7,8,88] (zi h (fun h => ?_) fun h => ?_)))))))
 refine za [2] ?_
 cases h
 exact aG zr
 refine aD (aM (zx fun _ => zk 2 (zl aL e44.Kids (zk 2 (zl aE p0.Nodes (zk 1 (kS [1,5,6,7,8,95] (L2 := [H9,A7 5 y12,A7 6 v41,A7 7 v42,A1 8 11 0,(95,.c (Bo (decide ((List.length e44.Kids : Int) > (List.length p0.Nodes : Int)))))]) (G2 := [G4 0 p0,K3 11 e44]) 27 (zi h (fun h => ?_) fun h => ?_))))))))
 refine za [2] ?_
 cases h
 exact aG zr
 refine aD (za [1,5,6,7,8,9] (aI (bB (fun n s => ∃ v56 v57,iK e44 p0 y12 v42 j43 n v56 v57 = some r ∧ s = mk [H9,A7 5 y12,A7 6 v56,A7 7 v42,A1 8 1 0,A7 9 v57] [G4 0 p0,K3 1 e44] 2) n _ (zv [(0,0),(11,1)] [1,5,6,7,8,9] 2) ⟨_,_,h,rfl⟩ (fun s ⟨v56,v57,h,_⟩ => nomatch h) ?_)))
 rintro n s ⟨v56,v57,h,rfl⟩
 rw [iK] at h
 refine aM (zx fun _ => zk 3 (zl aL e44.Kids (zk 1 (ze [1,5,6,7,8,9,100] (zi h (fun h => ?_) fun h => ?_)))))
 refine aD (aR h (fun A j => ∀ u,j u = some r → A (mk [H9,A7 5 y12,A7 6 (w6 (v56 + 1)),A7 7 v42,A1 8 1 0,A7 9 v57] [G4 0 p0,K3 1 e44] 2)) (fun u h => ?_) (fun j58 Aj58 hj58 h => ?_))
 exact aV (zb (dI zI (⟨_,_,h,rfl⟩)))
 refine aI (vK [[],[],[1],[],[2,3,1],[4,2,3,1],[0,5,4,2,3,1],[6,0,1,2,3,4,5]] fun _ => zk 4 (bK h fun e59 he h => zd aL he (zk 1 (bK h fun y60 he h => zc Vc (pH n _ _ y60 he) (zk 1 (ze [1,5,6,7,8,9,10] (aM (vK [[],[0],[1,0],[2,1,0],[3,2,1,0],[2,1,0],[4,5,2,3,1,0],[6,2,4,5,3,1,0],[7,2,6,4,5,3,1,0],[2,1,0],[9,2,1,0],[8,10,2,7,6,4,5,3,1,0,9],[2,11,1,0,8,10,7,6,4,5,3,9]] fun _ => zk 3 (zq (zq (zq (bK h fun e61 he h => kX (e := [!(D4 y60 0)]) [(114,P1 p0.Nodes,some 1),(115,C7 y60,some 1)] (v := .c (.imm [I e61.ID,I e61.Parent,I e61.Kind,Sx e61.Key,C5 e61.Attrs,C6 e61.Actions,C2 e61.Kids])) (foot := []) (by kernel_rfl) (by kernel_rfl) (by kernel_rfl) (fun hg => dU (enc := aE) (sz := 7) (l := p0.Nodes) (ix := y60) (bQ he hg) (by kernel_rfl) (by kernel_rfl) (by kernel_rfl)) rfl rfl (zq (zq (zq (zq (zq (zp (kS [1,5,6,7,8,9,122] (L2 := [H9,A7 5 y12,A7 6 v56,A7 7 v42,A1 8 1 0,A7 9 v57,B4 122 ((D4 y60 0) || (e61.Parent != e44.ID))]) (G2 := [G4 0 p0,K3 1 e44]) 28 (zi h (fun h => ?_) fun h => ?_))))))))))))))))))))
 refine za [2] ?_
 cases h
 exact aG zr
 refine aD (aR h (fun A j => ∀ u,j u = some r → A (mk [H9,A7 5 y12,A7 6 v56,A7 7 v42,A1 8 1 0,A7 9 v57] [G4 0 p0,K3 1 e44] 2)) (fun u h => ?_) (fun j62 Aj62 hj62 h => ?_))
 exact aV (zb (dI zI (hj58 _ h)))
 refine za [1,5,6,7,8,9,11] (aI (bB (fun n s => ∃ v65,iP v57 e44 j62 y12 v56 v42 p0 n v65 = some r ∧ s = mk [H9,A7 5 y12,A7 6 v56,A7 7 v42,A1 8 1 0,A7 9 v57,A7 11 v65] [G4 0 p0,K3 1 e44] 2) n _ zI ⟨_,h,rfl⟩ (fun s ⟨v65,h,_⟩ => nomatch h) ?_))
 rintro n s ⟨v65,h,rfl⟩
 rw [iP] at h
 refine aM (za [1,5,6,7,8,9,11,125] (zi h (fun h => ?_) fun h => ?_))
 refine aD (aM (aI (vK [[],[0],[],[1,2,0],[3,1,2,0],[],[5],[],[6,7,5],[8,6,7,5],[4,9,3,1,2,0,8,6,7,5]] fun _ => zk 3 (bK h fun e66 he h => zd aL he (zk 4 (bK h fun e67 he h => zd aL he (zk 2 (ze [1,5,6,7,8,9,11,138] (zi h (fun h => ?_) fun h => ?_)))))))))
 refine za [2] ?_
 cases h
 exact aG zr
 exact aD (aV (zb (dI zI (⟨_,h,rfl⟩))))
 exact aJ zI (bF (hj62 _ h))
 exact aJ zI (bF (hj43 _ h))
 exact aJ zI (bF (hj13 _ h))
 refine za [1,3,4] (aI (bB (fun n s => ∃ v5 v6,gK p0 j1 n v5 v6 = some r ∧ s = mk [H9,A7 3 v5,A7 4 v6] [G4 0 p0] 1) n _ zI ⟨_,_,h,rfl⟩ (fun s ⟨v5,v6,h,_⟩ => nomatch h) ?_))
 rintro n s ⟨v5,v6,h,rfl⟩
 rw [gK] at h
 refine aM (zx fun _ => zk 3 (zl aE p0.Nodes (zk 1 (ze [1,3,4,36] (zi h (fun h => ?_) fun h => ?_)))))
 refine aD (aM (aI (aM (vK [[],[0],[],[1,2,0],[3,1,2,0],[4,3,1,2,0],[],[5,6,4,3,1,2,0],[7,5,6,4,3,1,2,0],[8,7,5,6,4,3,1,2,0],[9,8,7,5,6,4,3,1,2,0],[8,7,5,6,4,3,1,2,0],[10,11,8,9,7,5,6,4,3,1,2,0],[12,8,10,11,9,7,5,6,4,3,1,2,0],[13,8,12,10,11,9,7,5,6,4,3,1,2,0],[8,7,5,6,4,3,1,2,0],[15,8,7,5,6,4,3,1,2,0],[14,16,8,13,12,10,11,9,7,5,6,4,3,1,2,0,15],[8,17,7,5,6,4,3,1,2,0,14,16,13,12,10,11,9,15]] fun _ => zk 3 (bK h fun e7 he h => zd aE he (zk 5 (zq (zq (zq (bK h fun e8 he h => kX (e := [!(Q0 e7.ID v5)]) [(49,P1 p0.Nodes,some 1),(50,C7 v6,some 1)] (v := .c (.imm [I e8.ID,I e8.Parent,I e8.Kind,Sx e8.Key,C5 e8.Attrs,C6 e8.Actions,C2 e8.Kids])) (foot := []) (by kernel_rfl) (by kernel_rfl) (by kernel_rfl) (fun hg => dU (enc := aE) (sz := 7) (l := p0.Nodes) (ix := v6) (bQ he hg) (by kernel_rfl) (by kernel_rfl) (by kernel_rfl)) rfl rfl (zq (zq (zq (zq (zq (zp (kS [1,4,57] (L2 := [H9,A7 4 v6,B4 57 ((Q0 e7.ID v5) || (P9 e8.ID p0.Next))]) (G2 := [G4 0 p0]) 25 (zi h (fun h => ?_) fun h => ?_))))))))))))))))))
 refine za [2] ?_
 cases h
 exact aG zr
 exact aD (zy fun _ => zk 3 (bK h fun e9 he h => zd aE he (zk 3 (bT (aV (zb (dI zI (⟨_,_,h,rfl⟩))))))))
 exact aJ zI (bF (hj1 _ h))
def fX (y1 : aU) (self_ref14_describe : bA → Int → Option aN) (p0 : bA) (j2 : List aN → Option aN) : Nat → Int → List aN → Option aN
 | 0,_,_ => none
 | n + 1,v7,v8 => (if (decide (v7 < (List.length y1.Kids : Int))) = true then (idx y1.Kids v7).bind fun e9 => (self_ref14_describe p0 e9).bind fun y10 => (pA 96 v8 [y10]).bind fun l11 => fX y1 self_ref14_describe p0 j2 n (w6 (v7 + 1)) l11 else j2 v8)
def kR (self_ref14_describe : bA → Int → Option aN) (n : Nat) (p0 : bA) (p1 : Int) : Option aN := (iL n p0 p1).bind fun y1 => (aS (fun (v15 : List aN) => some (aN.mk y1.Kind y1.Key y1.Attrs y1.Actions v15)) (fun (j2 : List aN → Option aN) => fX y1 self_ref14_describe p0 j2 n 0 ([] : List aN)))
theorem vQ (self_ref14_describe : bA → Int → Option aN) (ih_ref14_describe : ∀ (p0 : bA) (p1 : Int) (r : aN),self_ref14_describe p0 p1 = some r → dC E 88 0 [B5 p0,C7 p1] [] (A9 r) []) (n : Nat) (p0 : bA) (p1 : Int) (r : aN) (h : kR self_ref14_describe n p0 p1 = some r) : dC E 88 0 [B5 p0,C7 p1] [] (A9 r) [] := by
 refine eO Tryz.func88 rfl ?_
 unfold kR at h
 refine za [1,2,4] (zx fun _ => zk 2 (bK h fun y1 he h => zc Kv (mD n _ _ y1 he) (zk 2 (ze [2,4,5] (za [2,4,5,6] (aR h (fun A j => ∀ v15,j v15 = some r → A (mk [H5,J0] [(0,E3),R3 1 70 y1.Kind y1.Key y1.Attrs y1.Actions 2 v15,C1 2 70 5 v15] 3)) (fun v15 h => ?_) (fun j2 Aj2 hj2 h => ?_)))))))
 refine za [4] ?_
 cases h
 exact aG zr
 refine za [2,4,5,6,7] (aI (bB (fun n s => ∃ v7 v8,fX y1 self_ref14_describe p0 j2 n v7 v8 = some r ∧ s = mk [J2,H4,O9,A1 6 3 0,A7 7 v7] [G4 0 p0,(1,E3),K3 2 y1,R3 3 70 y1.Kind y1.Key y1.Attrs y1.Actions 4 v8,C1 4 70 5 v8] 5) n _ (dZ.trans (lZ (n := 16) (T0 := 70) (l := [I y1.Kind,Sx y1.Key,C5 y1.Attrs,C6 y1.Actions,bV]) (G2 := [G4 0 p0,(1,E3),K3 5 y1,(16,.blk 70 [I y1.Kind,Sx y1.Key,C5 y1.Attrs,C6 y1.Actions,.app 19 (List.map aQ ([] : List aN))]),(19,.tok 70 5 (List.length ([] : List aN)))]) (lim2 := 20) 4 70 5 (by kernel_rfl) (by kernel_rfl) (by kernel_rfl) (by kernel_rfl)) (zv [(0,0),(1,1),(5,2),(16,3),(19,4)] [2,4,5,6,7] 5)) ⟨_,_,h,rfl⟩ (fun s ⟨v7,v8,h,_⟩ => nomatch h) ?_))
 rintro n s ⟨v7,v8,h,rfl⟩
 rw [fX] at h
 refine aM (zx fun _ => zk 3 (zl aL y1.Kids (zk 1 (ze [2,4,5,6,7,24] (zi h (fun h => ?_) fun h => ?_)))))
 exact aD (aM (aI (Ov [[],[0],[],[],[3],[],[4,5,3],[6,4,5,3],[2,7,6,4,5,3],[8,2,7,6,4,5,3],[1,9,8,0,2,7,6,4,5,3],[0,1,2,3,4,5,6,7,8,9,10],[11,10,0,1,2,3,4,5,6,7,8,9]] fun _ => zk 6 (bK h fun e9 he h => zd aL he (zk 1 (bK h fun y10 he h => zc fok88 (ih_ref14_describe _ _ y10 he) (rF (e := 70) (sz := 5) (len := 1) (r := [I y10.Kind,Sx y10.Key,C5 y10.Attrs,C6 y10.Actions,E6 y10.Kids]) (l' := List.map aQ [y10]) (nm := 19) (by kernel_rfl) (by simp only [List.map_cons,List.map_nil,cB]; kernel_rfl) (by kernel_rfl) (by kernel_rfl) rfl rfl rfl (bK h fun l11 he h => cI (enc := aQ) (l := v8) (els := [y10]) (r := l11) (old := some 4) (e := 70) (sz := 5) (bytes := 96) (k := (H6 v8)) (nm := 20) he (by kernel_rfl) (by kernel_rfl) (fun x => by rw [cB]; rfl) (by kernel_rfl) (by kernel_rfl) rfl rfl rfl (zk 2 (bT (aV (zb (dI (zv [(0,0),(1,1),(2,2),(3,3),(20,4)] [2,4,5,6,7] 5) (⟨_,_,h,rfl⟩))))))))))))))
 exact aJ (zv [(1,0),(3,1),(4,2)] [4,6] 3) (bF (hj2 _ h))
def iC : Nat → bA → Int → Option aN
 | 0,_,_ => none
 | n + 1,p0,p1 => kR (fun a0 a1 => iC n a0 a1) n p0 p1
theorem Bl (n : Nat) : (∀ (p0 : bA) (p1 : Int) (r : aN),iC n p0 p1 = some r → dC E 88 0 [B5 p0,C7 p1] [] (A9 r) []) := by
 induction n with
 | zero => intro p0 p1 r h; rw [iC] at h; cases h
 | succ n ih => intro p0 p1 r h; rw [iC] at h; exact vQ _ ih n _ _ r h
def mJ (n : Nat) (p0 : bA) : Option Int := (rO n p0).bind fun y1 => (if (!y1) = true then some 12 else (iC n p0 p0.Root).bind fun y2 => (eY n y2).bind fun y3 => some y3)
theorem sL (n : Nat) (p0 : bA) (r : Int) (h : mJ n p0 = some r) : dC E 52 0 [B5 p0] [] (C7 r) [] := by
 refine eO Tryz.func52 rfl ?_
 unfold mJ at h
 refine za [1] (aM (zx fun _ => zk 1 (bK h fun y1 he h => zc fok87 (Fi n _ y1 he) (zk 1 (ze [1,5] (zi h (fun h => ?_) fun h => ?_))))))
 refine za [2] ?_
 cases h
 exact aG zr
 refine aD (zx fun _ => zk 3 (bK h fun y2 he h => zc fok88 (Bl n _ _ y2 he) (bK h fun y3 he h => zc Wg (mE n _ y3 he) (zk 1 (ze [2] ?_)))))
 cases h
 exact aG zr
def qK (n : Nat) (p0 : bM) (p1 : bS) (p2 : cX) (p3 : bA) : Option Int := (mX n p0).bind fun y1 => (if (y1 != 0) = true then some y1 else (nF n p1).bind fun y2 => (if (y2 != 0) = true then some y2 else (if ((decide (p2.Scale < 50)) || (decide (p2.Scale > 400))) = true then some 1 else (mJ n p3).bind fun y3 => some y3)))
theorem Dc (n : Nat) (p0 : bM) (p1 : bS) (p2 : cX) (p3 : bA) (r : Int) (h : qK n p0 p1 p2 p3 = some r) : dC E 43 0 [R0 p0.Rules,O8 p1.Tokens,F3 p2,B5 p3] [] (C7 r) [] := by
 refine eO Tryz.func43 rfl ?_
 unfold qK at h
 refine za [4,5,6,7] (aM (zx fun _ => zk 1 (bK h fun y1 he h => zc fok78 (Bw n _ y1 he) (zk 1 (ze [5,6,7,9] (za [5,6,7,9,14] (zi h (fun h => ?_) fun h => ?_)))))))
 refine za [8] ?_
 cases h
 exact aG zr
 refine aD (aM (zx fun _ => zk 1 (bK h fun y2 he h => zc fok79 (Co n _ y2 he) (zk 1 (ze [6,7,10] (za [6,7,10,19] (zi h (fun h => ?_) fun h => ?_)))))))
 refine za [8] ?_
 cases h
 exact aG zr
 refine aD (aM (zx fun _ => zk 4 (zq (zq (zq (zp (kS [7,28] (L2 := [A1 7 3 0,B4 28 (B0 p2.Scale 50 400)]) (G2 := [E5 p0.Rules,J5 p1.Tokens,J6 p2,G4 3 p3]) 23 (zi h (fun h => ?_) fun h => ?_))))))))
 refine za [8] ?_
 cases h
 exact aG zr
 refine aD (zx fun _ => zk 1 (bK h fun y3 he h => zc fok52 (sL n _ y3 he) (zk 1 (ze [8] ?_))))
 cases h
 exact aG zr
def oO (n : Nat) (p0 : bA) : Option (List Int) := (mJ n p0).bind fun y1 => (if (y1 != 0) = true then some ([] : List Int) else (jA n p0 p0.Root ([] : List Int)).bind fun y2 => some y2)
theorem xE (n : Nat) (p0 : bA) (r : (K4)) (h : oO n p0 = some r) : dC E 44 0 [B5 p0] [] (.c (C2 r)) [] := by
 refine eO Tryz.func44 rfl ?_
 unfold oO at h
 refine za [1] (aM (zx fun _ => zk 1 (bK h fun y1 he h => zc fok52 (sL n _ y1 he) (zk 1 (ze [1,5] (zi h (fun h => ?_) fun h => ?_))))))
 refine za [2] ?_
 cases h
 exact aG zr
 refine aD (zx fun _ => zk 3 (bK h fun y2 he h => uX (F := 80) (As := [B5 p0,C7 p0.Root,.c (bV)]) (Bs := [B5 p0,C7 p0.Root,.c (bV)]) (σ := [(1,8)]) (k := 0) (kn := 1) (nm := 8) (Gc := []) (Gf := [(1,E8 y2)]) (r := .c (.row 1)) (v := .c (.row 8)) (by kernel_rfl) Zy ⟨.inl (by kernel_rfl),⟨.inl (by kernel_rfl),⟨.inr ⟨(by kernel_rfl),(by kernel_rfl)⟩,trivial⟩⟩⟩ (dC.nil1 (xV n _ _ _ y2 he) rfl rfl) (by kernel_rfl) (by kernel_rfl) (by kernel_rfl) (by kernel_rfl) (by kernel_rfl) (by kernel_rfl) rfl rfl rfl (zk 1 (ze [2] (aJ (nM 8 (T := 3) (sz := 1) (l := List.map aL y2) (L2 := [F8 2 y2]) (G2 := [G4 0 p0]) (by kernel_rfl) (by kernel_rfl) (by kernel_rfl)) ?_)))))
 cases h
 exact aG zr
def kO (p0 : (List aZ)) (p1 : Int) (j1 : Unit → Option aB) : Nat → Int → Option aB
 | 0,_ => none
 | n + 1,v4 => (if (decide (v4 < (List.length p0 : Int))) = true then (idx p0 v4).bind fun e5 => (if (e5.ID == p1) = true then (idx p0 v4).bind fun e6 => some e6.Style else kO p0 p1 j1 n (w6 (v4 + 1))) else j1 ())
def sJ (n : Nat) (p0 : (List aZ)) (p1 : Int) : Option aB := (aS (fun (_ : Unit) => some (aB.mk 0 0 0 0 0 0 0 0 0 0 0 0 0 0 0 0 0 0 0 0 0 0)) (fun (j1 : Unit → Option aB) => kO p0 p1 j1 n 0))
theorem Jz (n : Nat) (p0 : (List aZ)) (p1 : Int) (r : aB) (h : sJ n p0 p1 = some r) : dC E 47 0 [C3 p0,C7 p1] [] (C8 r) [] := by
 refine eO Tryz.func47 rfl ?_
 unfold sJ at h
 refine za [0,1,4] (aR h (fun A j => ∀ u,j u = some r → A (mk [H5] [(0,B1)] 1)) (fun u h => ?_) (fun j1 Aj1 hj1 h => ?_))
 refine za [4] ?_
 cases h
 exact aG zr
 refine za [0,1,4,5] (aI (bB (fun n s => ∃ v4,kO p0 p1 j1 n v4 = some r ∧ s = mk [L9 0 p0,A7 1 p1,H5,A7 5 v4] [(0,B1)] 1) n _ zI ⟨_,h,rfl⟩ (fun s ⟨v4,h,_⟩ => nomatch h) ?_))
 rintro n s ⟨v4,h,rfl⟩
 rw [kO] at h
 refine aM (zx fun _ => zk 2 (zl aX p0 (zk 1 (ze [0,1,4,5,9] (zi h (fun h => ?_) fun h => ?_)))))
 refine aD (aM (aI (zx fun _ => zk 2 (bK h fun e5 he h => zd aX he (zk 4 (ze [0,1,4,5,18] (zi h (fun h => ?_) fun h => ?_)))))))
 refine zx fun _ => zk 2 (bK h fun e6 he h => zd aX he (zk 3 (ze [4] ?_)))
 cases h
 exact aG zr
 exact aD (aV (zb (dI zI (⟨_,h,rfl⟩))))
 exact aJ zI (bF (hj1 _ h))
def lY (n : Nat)  : Option aB := some (aB.mk 0 (-1 : Int) 16 0 0 1 3 0 0 0 0 1 (-1 : Int) 0 1048576 0 1048576 0 0 0 0 0)
theorem tW (n : Nat)  (r : aB) (h : lY n  = some r) : dC E 81 0 [] [] (C8 r) [] := by
 refine eO Tryz.func81 rfl ?_
 unfold lY at h
 refine za [0] (za [0,1] (za [0,1] (za [0,1] (za [0,1] (za [0,1] (za [0,1] (za [0,1] (za [0,1] (za [0,1] (za [0] ?_))))))))))
 cases h
 exact aG zr
def jQ (n : Nat) (p0 : Int) : Option Bool := (aS (fun (v2 : Bool) => (if v2 = true then some true else some false)) (fun (j1 : Bool → Option Bool) => (if (p0 == 0) = true then j1 (p0 == 0) else (if (p0 == 2) = true then j1 (p0 == 2) else (if (p0 == 3) = true then j1 (p0 == 3) else (if (p0 == 4) = true then j1 (p0 == 4) else (if (p0 == 8) = true then j1 (p0 == 8) else j1 (p0 == 21))))))))
theorem Ac (n : Nat) (p0 : Int) (r : Bool) (h : jQ n p0 = some r) : dC E 82 0 [C7 p0] [] (D7 r) [] := by
 refine eO Tryz.func82 rfl ?_
 unfold jQ at h
 refine za [0] (aM (za [3] (aI (aR h (fun A j => ∀ v2,j v2 = some r → A (mk [B4 4 v2] [] 0)) (fun v2 h => ?_) (fun j1 Aj1 hj1 h => ?_)))))
 refine zi h (fun h => ?_) fun h => ?_
 refine za [2] ?_
 cases h
 exact aG zr
 refine aD (za [2] ?_)
 cases h
 exact aG zr
 refine za [3,4] (zi h (fun h => ?_) fun h => ?_)
 exact aJ zI (aD (hj1 _ h))
 refine za [3,4] (zi h (fun h => ?_) fun h => ?_)
 exact aJ zI (aD (hj1 _ h))
 refine za [3,4] (zi h (fun h => ?_) fun h => ?_)
 exact aJ zI (aD (hj1 _ h))
 refine za [3,4] (zi h (fun h => ?_) fun h => ?_)
 exact aJ zI (aD (hj1 _ h))
 refine za [3,4] (zi h (fun h => ?_) fun h => ?_)
 exact aJ zI (aD (hj1 _ h))
 exact aV (zb (dI zI (hj1 _ h)))
def fF (p0 : cM) (j5 : Int → Option (Int × Int)) : Nat → Int → Int → Option (Int × Int)
 | 0,_,_ => none
 | n + 1,v8,v9 => (if (decide (v9 ≤ 16)) = true then (aS (fun (v11 : Int) => fF p0 j5 n v11 (w6 (v9 * 2))) (fun (j10 : Int → Option (Int × Int)) => (if ((oU .i64 p0.States v9) != 0) = true then j10 (w6 (v8 + 1)) else j10 v8))) else j5 v8)
def lL (n : Nat) (p0 : cM) : Option (Int × Int) := (aS (fun (v2 : Int) => (aS (fun (v4 : Int) => (aS (fun (v14 : Int) => (aS (fun (v16 : Int) => (aS (fun (v18 : Int) => some (v14,v18)) (fun (j17 : Int → Option (Int × Int)) => (if (p0.UnderKind != 0) = true then j17 (w6 (v16 + 1)) else j17 v16)))) (fun (j15 : Int → Option (Int × Int)) => (if (p0.Kind != 0) = true then j15 (w6 (0 + 1)) else j15 0)))) (fun (j5 : Int → Option (Int × Int)) => fF p0 j5 n v4 1))) (fun (j3 : Int → Option (Int × Int)) => (if (!(bP p0.UnderClass nB)) = true then j3 (w6 (v2 + 1)) else j3 v2)))) (fun (j1 : Int → Option (Int × Int)) => (if (!(bP p0.Class nB)) = true then j1 (w6 (0 + 1)) else j1 0)))
theorem Fj (n : Nat) (p0 : cM) (r : (O3)) (h : lL n p0 = some r) : dC E 83 0 [E0 p0] [] (.tup [C7 r.1,C7 r.2]) [] := by
 refine eO Tryz.func83 rfl ?_
 unfold lL at h
 refine za [1] (za [1,4,5] (aR h (fun A j => ∀ v2,j v2 = some r → A (mk [H9,A7 4 v2,I4 5] [K7 0 p0] 1)) (fun v2 h => ?_) (fun j1 Aj1 hj1 h => ?_)))
 refine aR h (fun A j => ∀ v4,j v4 = some r → A (mk [H9,A7 4 v4,I4 5] [K7 0 p0] 1)) (fun v4 h => ?_) (fun j3 Aj3 hj3 h => ?_)
 refine aR h (fun A j => ∀ v14,j v14 = some r → A (mk [H9,A7 4 v14,I4 5] [K7 0 p0] 1)) (fun v14 h => ?_) (fun j5 Aj5 hj5 h => ?_)
 refine aR h (fun A j => ∀ v16,j v16 = some r → A (mk [H9,A7 4 v14,A7 5 v16] [K7 0 p0] 1)) (fun v16 h => ?_) (fun j15 Aj15 hj15 h => ?_)
 refine aR h (fun A j => ∀ v18,j v18 = some r → A (mk [A7 4 v14,A7 5 v18] [] 0)) (fun v18 h => ?_) (fun j17 Aj17 hj17 h => ?_)
 refine za [2,3] ?_
 cases h
 exact aG zr
 refine za [4,5,35] (zi h (fun h => ?_) fun h => ?_)
 exact aV (zb (dI zI (hj17 _ h)))
 exact aJ zI (aD (hj17 _ h))
 refine za [1,4,5,30] (zi h (fun h => ?_) fun h => ?_)
 exact aV (zb (dI zI (hj15 _ h)))
 exact aJ zI (aD (hj15 _ h))
 refine za [1,4,5,6] (aI (bB (fun n s => ∃ v8 v9,fF p0 j5 n v8 v9 = some r ∧ s = mk [H9,A7 4 v8,I4 5,A7 6 v9] [K7 0 p0] 1) n _ zI ⟨_,_,h,rfl⟩ (fun s ⟨v8,v9,h,_⟩ => nomatch h) ?_))
 rintro n s ⟨v8,v9,h,rfl⟩
 rw [fF] at h
 refine aM (za [1,4,5,6,18] (zi h (fun h => ?_) fun h => ?_))
 refine aD (aR h (fun A j => ∀ v11,j v11 = some r → A (mk [H9,A7 4 v11,I4 5,A7 6 v9] [K7 0 p0] 1)) (fun v11 h => ?_) (fun j10 Aj10 hj10 h => ?_))
 exact aV (zb (dI zI (⟨_,_,h,rfl⟩)))
 refine aI (za [1,4,5,6,25] (zi h (fun h => ?_) fun h => ?_))
 exact aV (zb (dI zI (hj10 _ h)))
 exact aJ zI (aD (hj10 _ h))
 exact aJ zI (bF (hj5 _ h))
 refine za [1,4,5,14] (zi h (fun h => ?_) fun h => ?_)
 exact aV (zb (dI zI (hj3 _ h)))
 exact aJ zI (aD (hj3 _ h))
 refine za [1,4,5,9] (zi h (fun h => ?_) fun h => ?_)
 exact aV (zb (dI zI (hj1 _ h)))
 exact aJ zI (aD (hj1 _ h))
def iZ (p0 : (List bJ)) (p1 : ByteArray) (j1 : Unit → Option (aP × Bool)) : Nat → Int → Option (aP × Bool)
 | 0,_ => none
 | n + 1,v4 => (if (decide (v4 < (List.length p0 : Int))) = true then (idx p0 v4).bind fun e5 => (if (bP e5.Name p1) = true then (idx p0 v4).bind fun e6 => some (e6.Value,true) else iZ p0 p1 j1 n (w6 (v4 + 1))) else j1 ())
def vZ (n : Nat) (p0 : (List bJ)) (p1 : ByteArray) : Option (aP × Bool) := (aS (fun (_ : Unit) => some ((aP.mk 0 0 nB ([] : List aP)),false)) (fun (j1 : Unit → Option (aP × Bool)) => iZ p0 p1 j1 n 0))
theorem Jv (n : Nat) (p0 : (List bJ)) (p1 : ByteArray) (r : (aP × Bool)) (h : vZ n p0 p1 = some r) : dC E 92 0 [R5 p0,G0 p1] [] (.tup [C0 r.1,D7 r.2]) [] := by
 refine eO Tryz.func92 rfl ?_
 unfold vZ at h
 refine za [0,1,4] (aR h (fun A j => ∀ u,j u = some r → A (mk [H5] [(0,G5)] 1)) (fun u h => ?_) (fun j1 Aj1 hj1 h => ?_))
 refine za [4,5] ?_
 cases h
 exact aG zr
 refine za [0,1,4,6] (aI (bB (fun n s => ∃ v4,iZ p0 p1 j1 n v4 = some r ∧ s = mk [(0,R5 p0),(1,G0 p1),H5,A7 6 v4] [(0,G5)] 1) n _ zI ⟨_,h,rfl⟩ (fun s ⟨v4,h,_⟩ => nomatch h) ?_))
 rintro n s ⟨v4,h,rfl⟩
 rw [iZ] at h
 refine aM (zx fun _ => zk 2 (zl aF p0 (zk 1 (ze [0,1,4,6,10] (zi h (fun h => ?_) fun h => ?_)))))
 refine aD (aM (aI (zx fun _ => zk 2 (bK h fun e5 he h => zd aF he (zk 4 (ze [0,1,4,6,19] (zi h (fun h => ?_) fun h => ?_)))))))
 refine zx fun _ => zk 2 (bK h fun e6 he h => zd aF he (zk 4 (ze [4,5] ?_)))
 cases h
 exact aG zr
 exact aD (aV (zb (dI zI (⟨_,h,rfl⟩))))
 exact aJ zI (bF (hj1 _ h))
def wC (n : Nat) (p0 : (List bJ)) (p1 : ByteArray) : Option ByteArray := (vZ n p0 p1).bind fun y1 => (if (y1.1.Kind != 3) = true then some nB else some y1.1.S)
theorem Kt (n : Nat) (p0 : (List bJ)) (p1 : ByteArray) (r : ByteArray) (h : wC n p0 p1 = some r) : dC E 113 0 [R5 p0,G0 p1] [] (G0 r) [] := by
 refine eO Tryz.func113 rfl ?_
 unfold wC at h
 refine za [0,1] (zx fun _ => zk 2 (bK h fun y1 he h => zc fok92 (Jv n _ _ y1 he) (zk 6 (ze [5] (aM (za [5,15] (zi h (fun h => ?_) fun h => ?_)))))))
 refine za [4] ?_
 cases h
 exact aG zr
 refine aD (za [4] ?_)
 cases h
 exact aG zr
def kY (n : Nat) (p0 : aU) : Option ByteArray := (wC n p0.Attrs (⟨#[99,108,97,115,115]⟩ : ByteArray)).bind fun y1 => some y1
theorem pL (n : Nat) (p0 : aU) (r : ByteArray) (h : kY n p0 = some r) : dC E 89 0 [B2 p0] [] (G0 r) [] := by
 refine eO Tryz.func89 rfl ?_
 unfold kY at h
 refine za [1] (zx fun _ => zk 2 (bK h fun y1 he h => zc fok113 (Kt n _ _ y1 he) (zk 1 (ze [2] ?_))))
 cases h
 exact aG zr
def iJ (p0 : (List aO)) (p1 : Int) (j1 : Unit → Option Int) : Nat → Int → Option Int
 | 0,_ => none
 | n + 1,v4 => (if (decide (v4 < (List.length p0 : Int))) = true then (idx p0 v4).bind fun e5 => (if (e5.ID == p1) = true then (idx p0 v4).bind fun e6 => some e6.States else iJ p0 p1 j1 n (w6 (v4 + 1))) else j1 ())
def lD (n : Nat) (p0 : (List aO)) (p1 : Int) : Option Int := (aS (fun (_ : Unit) => some 0) (fun (j1 : Unit → Option Int) => iJ p0 p1 j1 n 0))
theorem rA (n : Nat) (p0 : (List aO)) (p1 : Int) (r : Int) (h : lD n p0 p1 = some r) : dC E 90 0 [B7 p0,C7 p1] [] (C7 r) [] := by
 refine eO Tryz.func90 rfl ?_
 unfold lD at h
 refine za [0,1] (aR h (fun A j => ∀ u,j u = some r → A (M5)) (fun u h => ?_) (fun j1 Aj1 hj1 h => ?_))
 refine za [4] ?_
 cases h
 exact aG zr
 refine za [0,1,5] (aI (bB (fun n s => ∃ v4,iJ p0 p1 j1 n v4 = some r ∧ s = mk [I5 0 p0,A7 1 p1,A7 5 v4] [] 0) n _ zI ⟨_,h,rfl⟩ (fun s ⟨v4,h,_⟩ => nomatch h) ?_))
 rintro n s ⟨v4,h,rfl⟩
 rw [iJ] at h
 refine aM (zx fun _ => zk 2 (zl aH p0 (zk 1 (ze [0,1,5,9] (zi h (fun h => ?_) fun h => ?_)))))
 refine aD (aM (aI (zx fun _ => zk 2 (bK h fun e5 he h => zd aH he (zk 4 (ze [0,1,5,18] (zi h (fun h => ?_) fun h => ?_)))))))
 refine zx fun _ => zk 2 (bK h fun e6 he h => zd aH he (zk 3 (ze [4] ?_)))
 cases h
 exact aG zr
 exact aD (aV (zb (dI zI (⟨_,h,rfl⟩))))
 exact aJ zI (bF (hj1 _ h))
end Go.Proofs.YtojkihhnioeggaaGreatDoor.S
