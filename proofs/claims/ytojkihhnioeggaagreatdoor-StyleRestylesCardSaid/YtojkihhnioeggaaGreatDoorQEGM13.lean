import Derived.Test.YtojkihhnioeggaaGreatDoorQEGM12
set_option linter.all false
set_option maxRecDepth 100000
set_option maxHeartbeats 4000000
namespace Go.Proofs.YtojkihhnioeggaaGreatDoor.S
open Go Go.Bm
def jE (v13 : Int) (p0 : (List aZ)) (j14 : Unit → Option (List aZ)) : Nat → Unit → Option (List aZ)
 | 0,_ => none
 | n + 1,_ => (gd [(decide (v13 > 0))] (idx p0 (w6 (v13 - 1)))).bind fun e20 => (gd [(decide (v13 > 0))] (idx p0 v13)).bind fun e21 => (if ((decide (v13 > 0)) && (decide (e20.ID > e21.ID))) = true then (idx p0 v13).bind fun e22 => none else j14 ())
def fI (p0 : (List aZ)) (j1 : Unit → Option (List aZ)) : Nat → Int → Option (List aZ)
 | 0,_ => none
 | n + 1,v13 => (if (decide (v13 < (List.length p0 : Int))) = true then (aS (fun (_ : Unit) => fI p0 j1 n (w6 (v13 + 1))) (fun (j14 : Unit → Option (List aZ)) => jE v13 p0 j14 n ())) else j1 ())
def lT (n : Nat) (p0 : (List aZ)) : Option (List aZ) := (aS (fun (_ : Unit) => some p0) (fun (j1 : Unit → Option (List aZ)) => fI p0 j1 n 0))
theorem Aa (n : Nat) (p0 : (List aZ)) (r : (List aZ)) (h : lT n p0 = some r) : dC E 48 0 [C3 p0] [] (C3 r) [] := by
 refine eO Tryz.func48 rfl ?_
 unfold lT at h
 refine za [0] (aR h (fun A j => ∀ u,j u = some r → A (mk [L9 0 p0] [] 0)) (fun u h => ?_) (fun j1 Aj1 hj1 h => ?_))
 refine za [2] ?_
 cases h
 exact aG zr
 refine za [0,3] (aI (bB (fun n s => ∃ v13,fI p0 j1 n v13 = some r ∧ s = mk [L9 0 p0,A7 3 v13] [] 0) n _ zI ⟨_,h,rfl⟩ (fun s ⟨v13,h,_⟩ => nomatch h) ?_))
 rintro n s ⟨v13,h,rfl⟩
 rw [fI] at h
 refine aM (zx fun _ => zk 2 (zl aX p0 (zk 1 (ze [0,3,9] (zi h (fun h => ?_) fun h => ?_)))))
 refine aD (aR h (fun A j => ∀ u,j u = some r → A (mk [L9 0 p0,A7 3 v13] [] 0)) (fun u h => ?_) (fun j14 Aj14 hj14 h => ?_))
 exact aV (zb (dI zI (⟨_,h,rfl⟩)))
 refine aI (za [0,3,4] (aI (bB (fun n s => ∃ u,jE v13 p0 j14 n u = some r ∧ s = mk [L9 0 p0,A7 3 v13,A7 4 v13] [] 0) n _ zI ⟨(),h,rfl⟩ (fun s ⟨u,h,_⟩ => nomatch h) ?_)))
 rintro n s ⟨u,h,rfl⟩
 rw [jE] at h
 refine aM (vK [[],[0],[1,0],[2,1,0],[2,1,0],[4,2,1,0],[3,5,2,1,0,4],[6,2,3,5,1,0,4],[7,2,6,3,5,1,0,4],[2,1,0],[2,1,0],[9,10,2,1,0],[11,2,9,10,1,0],[12,2,11,9,10,1,0],[8,13,2,7,6,3,5,1,0,4,12,11,9,10],[2,14,1,0,8,13,7,6,3,5,4,12,11,9,10]] fun _ => zk 3 (zq (zq (zq (bK h fun e20 he h => kX (e := [F2 v13 0]) [(16,C3 p0,some 1),(18,C7 (w6 (v13 - 1)),some 1)] (v := .c (B8 e20.ID e20.Style)) (foot := []) (by kernel_rfl) (by kernel_rfl) (by kernel_rfl) (fun hg => dU (enc := aX) (sz := 23) (l := p0) (ix := (w6 (v13 - 1))) (bQ he hg) (by kernel_rfl) (by kernel_rfl) (by kernel_rfl)) rfl rfl (zq (zq (zq (zq (bK h fun e21 he h => kX (e := [F2 v13 0]) [(22,C3 p0,some 1),(23,C7 v13,some 1)] (v := .c (B8 e21.ID e21.Style)) (foot := []) (by kernel_rfl) (by kernel_rfl) (by kernel_rfl) (fun hg => dU (enc := aX) (sz := 23) (l := p0) (ix := v13) (bQ he hg) (by kernel_rfl) (by kernel_rfl) (by kernel_rfl)) rfl rfl (zq (zq (zq (zp (kS [0,3,4,28] (L2 := [L9 0 p0,A7 3 v13,A7 4 v13,B4 28 ((F2 v13 0) && (F2 e20.ID e21.ID))]) (G2 := []) 16 (zi h (fun h => ?_) fun h => ?_))))))))))))))))
 refine aD (aM (aI (zx fun _ => zk 2 (bK h fun e22 he h => zd aX he (zk 3 (ze [0,3,4,5] ?_))))))
 cases h
 exact aJ zI (bF (hj14 _ h))
 exact aJ zI (bF (hj1 _ h))
def gZ (y2 : (List Int)) (p3 : bA) (p0 : bM) (p1 : bS) (p2 : cX) (p4 : (List aO)) (j3 : List aZ → Option ((List aZ) × Int)) : Nat → List aZ → Int → Option ((List aZ) × Int)
 | 0,_,_ => none
 | n + 1,v9,v10 => (if (decide (v10 < (List.length y2 : Int))) = true then (idx y2 v10).bind fun e11 => (iL n p3 e11).bind fun y12 => (sJ n v9 y12.Parent).bind fun y13 => (nT n p0 p1 p2 p3 p4 y12.ID y13 (y12.Parent == 0)).bind fun y14 => (pA 184 v9 [(aZ.mk y12.ID y14)]).bind fun l15 => gZ y2 p3 p0 p1 p2 p4 j3 n l15 (w6 (v10 + 1)) else j3 v9)
def mC (n : Nat) (p0 : bM) (p1 : bS) (p2 : cX) (p3 : bA) (p4 : (List aO)) : Option ((List aZ) × Int) := (qK n p0 p1 p2 p3).bind fun y1 => (if (y1 != 0) = true then some (([] : List aZ),y1) else (oO n p3).bind fun y2 => (aS (fun (v18 : List aZ) => (lT n v18).bind fun y19 => some (y19,0)) (fun (j3 : List aZ → Option ((List aZ) × Int)) => gZ y2 p3 p0 p1 p2 p4 j3 n ([] : List aZ) 0)))
theorem uS (n : Nat) (p0 : bM) (p1 : bS) (p2 : cX) (p3 : bA) (p4 : (List aO)) (r : ((List aZ) × Int)) (h : mC n p0 p1 p2 p3 p4 = some r) : dC E 18 0 [R0 p0.Rules,O8 p1.Tokens,F3 p2,B5 p3,B7 p4] [] (.tup [C3 r.1,C7 r.2]) [] := by
 refine eO Tryz.func18 rfl ?_
 unfold mC at h
 refine za [4,5,6,7,8] (aM (zx fun _ => zk 4 (bK h fun y1 he h => zc fok43 (Dc n _ _ _ _ y1 he) (zk 1 (ze [4,5,6,7,8,12] (za [4,5,6,7,8,12,23] (zi h (fun h => ?_) fun h => ?_)))))))
 refine za [10,11] ?_
 cases h
 exact aG zr
 refine aD (za [4,5,6,7,8,13] (zx fun _ => zk 1 (bK h fun y2 he h => zc fok44 (xE n _ y2 he) (zk 1 (ze [4,5,6,7,8,13,14] (aR h (fun A j => ∀ v18,j v18 = some r → A (mk [(13,.c (.app 0 (List.map aX v18)))] [C1 0 54 23 v18] 1)) (fun v18 h => ?_) (fun j3 Aj3 hj3 h => ?_)))))))
 refine zx fun _ => zk 1 (bK h fun y19 he h => zc fok48 (Aa n _ y19 he) (zk 2 (ze [10,11] ?_)))
 cases h
 exact aG zr
 refine za [4,5,6,7,8,13,14,15] (aI (bB (fun n s => ∃ v9 v10,gZ y2 p3 p0 p1 p2 p4 j3 n v9 v10 = some r ∧ s = mk [I5 4 p4,A1 5 0 0,J0,A1 7 2 0,A1 8 3 0,(13,.c (.app 4 (List.map aX v9))),F8 14 y2,A7 15 v10] [E5 p0.Rules,J5 p1.Tokens,J6 p2,G4 3 p3,C1 4 54 23 v9] 5) n _ (dZ.trans (mB (L2 := [I5 4 p4,A1 5 0 0,J0,A1 7 2 0,A1 8 3 0,(13,.c (.app 19 (List.map aX ([] : List aZ)))),F8 14 y2,I4 15]) (G2 := [E5 p0.Rules,J5 p1.Tokens,J6 p2,G4 3 p3,(19,.tok 54 23 (List.length ([] : List aZ)))]) (lim2 := 20) 13 54 23 (by kernel_rfl) (by kernel_rfl) (by kernel_rfl) (by kernel_rfl)) (zv [(0,0),(1,1),(2,2),(3,3),(19,4)] [4,5,6,7,8,13,14,15] 5)) ⟨_,_,h,rfl⟩ (fun s ⟨v9,v10,h,_⟩ => nomatch h) ?_))
 rintro n s ⟨v9,v10,h,rfl⟩
 rw [gZ] at h
 refine aM (zx fun _ => zk 2 (zl aL y2 (zk 1 (ze [4,5,6,7,8,13,14,15,30] (zi h (fun h => ?_) fun h => ?_)))))
 exact aD (aM (aI (vK [[],[],[],[1,2],[3,1,2],[0,4,3,1,2],[],[6,5,0,1,2,3,4]] fun _ => zk 3 (bK h fun e11 he h => zd aL he (zk 1 (bK h fun y12 he h => zc Kv (mD n _ _ y12 he) (zk 2 (ze [4,5,6,7,8,13,14,15,16] (Ov [[],[],[1],[],[],[],[],[],[],[8],[],[],[11],[10,12,11],[],[14],[15,14],[3,4,5,6,7,9,13,16,8,10,12,11,15,14],[2,17,1,3,4,5,6,7,9,13,16,8,10,12,11,15,14],[18,2,17,1,3,4,5,6,7,9,13,16,8,10,12,11,15,14],[0,19,17,18,2,1,3,4,5,6,7,9,13,16,8,10,12,11,15,14],[20,0,1,2,3,4,5,6,7,8,9,10,11,12,13,14,15,16,17,18,19]] fun _ => zk 13 (bK h fun y13 he h => zc fok47 (Jz n _ _ y13 he) (zk 3 (bK h fun y14 he h => zc fok46 (Cw n _ _ _ _ _ _ _ _ y14 he) (zk 2 (bK h fun l15 he h => cI (enc := aX) (l := v9) (els := [aZ.mk y12.ID y14]) (r := l15) (old := some 4) (e := 54) (sz := 23) (bytes := 184) (k := (H6 v9)) (nm := 37) he (by kernel_rfl) (by kernel_rfl) (fun x => by kernel_rfl) (by kernel_rfl) (by kernel_rfl) rfl rfl rfl (zk 1 (bT (aV (zb (dI (zv [(0,0),(1,1),(2,2),(3,3),(37,4)] [4,5,6,7,8,13,14,15] 5) (⟨_,_,h,rfl⟩))))))))))))))))))))
 exact aJ (zv [(4,0)] [13] 1) (bF (hj3 _ h))
def kK (p0 : (List aZ)) (p1 : (List aZ)) (j1 : Unit → Option Bool) : Nat → Int → Option Bool
 | 0,_ => none
 | n + 1,v4 => (if (decide (v4 < (List.length p0 : Int))) = true then (idx p0 v4).bind fun e5 => (idx p1 v4).bind fun e6 => (if (!(([e5.ID,e5.Style.x0,e5.Style.x1,e5.Style.x2,e5.Style.x3,e5.Style.x4,e5.Style.x5,e5.Style.x6,e5.Style.x7,e5.Style.x8,e5.Style.x9,e5.Style.x10,e5.Style.x11,e5.Style.x12,e5.Style.x13,e5.Style.x14,e5.Style.x15,e5.Style.x16,e5.Style.x17,e5.Style.x18,e5.Style.x19,e5.Style.x20,e5.Style.x21] : List Int) == [e6.ID,e6.Style.x0,e6.Style.x1,e6.Style.x2,e6.Style.x3,e6.Style.x4,e6.Style.x5,e6.Style.x6,e6.Style.x7,e6.Style.x8,e6.Style.x9,e6.Style.x10,e6.Style.x11,e6.Style.x12,e6.Style.x13,e6.Style.x14,e6.Style.x15,e6.Style.x16,e6.Style.x17,e6.Style.x18,e6.Style.x19,e6.Style.x20,e6.Style.x21])) = true then some false else kK p0 p1 j1 n (w6 (v4 + 1))) else j1 ())
def tB (n : Nat) (p0 : (List aZ)) (p1 : (List aZ)) : Option Bool := (if ((List.length p0 : Int) != (List.length p1 : Int)) = true then some false else (aS (fun (_ : Unit) => some true) (fun (j1 : Unit → Option Bool) => kK p0 p1 j1 n 0)))
theorem Ks (n : Nat) (p0 : (List aZ)) (p1 : (List aZ)) (r : Bool) (h : tB n p0 p1 = some r) : dC E 19 0 [C3 p0,C3 p1] [] (D7 r) [] := by
 refine eO Tryz.func19 rfl ?_
 unfold tB at h
 refine za [0,1] (aM (zx fun _ => zk 1 (zl aX p0 (zk 1 (zl aX p1 (zk 1 (ze [0,1,10] (zi h (fun h => ?_) fun h => ?_))))))))
 refine za [4] ?_
 cases h
 exact aG zr
 refine aD (aR h (fun A j => ∀ u,j u = some r → A (M5)) (fun u h => ?_) (fun j1 Aj1 hj1 h => ?_))
 refine za [4] ?_
 cases h
 exact aG zr
 refine za [0,1,5] (aI (bB (fun n s => ∃ v4,kK p0 p1 j1 n v4 = some r ∧ s = mk [L9 0 p0,L9 1 p1,A7 5 v4] [] 0) n _ zI ⟨_,h,rfl⟩ (fun s ⟨v4,h,_⟩ => nomatch h) ?_))
 rintro n s ⟨v4,h,rfl⟩
 rw [kK] at h
 refine aM (zx fun _ => zk 2 (zl aX p0 (zk 1 (ze [0,1,5,14] (zi h (fun h => ?_) fun h => ?_)))))
 refine aD (aM (aI (vK [[],[],[0,1],[2,0,1],[],[],[4,5],[6,4,5],[3,7,2,0,1,6,4,5]] fun _ => zk 2 (bK h fun e5 he h => zd aX he (zk 3 (bK h fun e6 he h => zd aX he (zk 1 (zw (v := .c (Bo (!(([e5.ID,e5.Style.x0,e5.Style.x1,e5.Style.x2,e5.Style.x3,e5.Style.x4,e5.Style.x5,e5.Style.x6,e5.Style.x7,e5.Style.x8,e5.Style.x9,e5.Style.x10,e5.Style.x11,e5.Style.x12,e5.Style.x13,e5.Style.x14,e5.Style.x15,e5.Style.x16,e5.Style.x17,e5.Style.x18,e5.Style.x19,e5.Style.x20,e5.Style.x21] : List Int) == [e6.ID,e6.Style.x0,e6.Style.x1,e6.Style.x2,e6.Style.x3,e6.Style.x4,e6.Style.x5,e6.Style.x6,e6.Style.x7,e6.Style.x8,e6.Style.x9,e6.Style.x10,e6.Style.x11,e6.Style.x12,e6.Style.x13,e6.Style.x14,e6.Style.x15,e6.Style.x16,e6.Style.x17,e6.Style.x18,e6.Style.x19,e6.Style.x20,e6.Style.x21])))) [] (rdW_eqS (w := false) (xs := [e5.ID,e5.Style.x0,e5.Style.x1,e5.Style.x2,e5.Style.x3,e5.Style.x4,e5.Style.x5,e5.Style.x6,e5.Style.x7,e5.Style.x8,e5.Style.x9,e5.Style.x10,e5.Style.x11,e5.Style.x12,e5.Style.x13,e5.Style.x14,e5.Style.x15,e5.Style.x16,e5.Style.x17,e5.Style.x18,e5.Style.x19,e5.Style.x20,e5.Style.x21]) (ys := [e6.ID,e6.Style.x0,e6.Style.x1,e6.Style.x2,e6.Style.x3,e6.Style.x4,e6.Style.x5,e6.Style.x6,e6.Style.x7,e6.Style.x8,e6.Style.x9,e6.Style.x10,e6.Style.x11,e6.Style.x12,e6.Style.x13,e6.Style.x14,e6.Style.x15,e6.Style.x16,e6.Style.x17,e6.Style.x18,e6.Style.x19,e6.Style.x20,e6.Style.x21]) (T := 54) (r := (!(([e5.ID,e5.Style.x0,e5.Style.x1,e5.Style.x2,e5.Style.x3,e5.Style.x4,e5.Style.x5,e5.Style.x6,e5.Style.x7,e5.Style.x8,e5.Style.x9,e5.Style.x10,e5.Style.x11,e5.Style.x12,e5.Style.x13,e5.Style.x14,e5.Style.x15,e5.Style.x16,e5.Style.x17,e5.Style.x18,e5.Style.x19,e5.Style.x20,e5.Style.x21] : List Int) == [e6.ID,e6.Style.x0,e6.Style.x1,e6.Style.x2,e6.Style.x3,e6.Style.x4,e6.Style.x5,e6.Style.x6,e6.Style.x7,e6.Style.x8,e6.Style.x9,e6.Style.x10,e6.Style.x11,e6.Style.x12,e6.Style.x13,e6.Style.x14,e6.Style.x15,e6.Style.x16,e6.Style.x17,e6.Style.x18,e6.Style.x19,e6.Style.x20,e6.Style.x21]))) (by kernel_rfl) rfl (by kernel_rfl) (by kernel_rfl) (by kernel_rfl) rfl rfl rfl) (ze [0,1,5,25] (zi h (fun h => ?_) fun h => ?_))))))))))
 refine za [4] ?_
 cases h
 exact aG zr
 exact aD (aV (zb (dI zI (⟨_,h,rfl⟩))))
 exact aJ zI (bF (hj1 _ h))
def nI (j1 : aB → Option aB) : Nat → Int → aB → Option aB
 | 0,_,_ => none
 | n + 1,v2,v3 => (if (decide (v2 < 22)) = true then (idx bE v2).bind fun e4 => (rL v2 22).bind fun k5 => nI j1 n (w6 (v2 + 1)) (aB.set v3 k5 e4.start) else j1 v3)
def tS (n : Nat)  : Option aB := (aS (fun (v8 : aB) => some v8) (fun (j1 : aB → Option aB) => nI j1 n 0 (aB.mk 0 0 0 0 0 0 0 0 0 0 0 0 0 0 0 0 0 0 0 0 0 0)))
theorem Dz (n : Nat)  (r : aB) (h : tS n  = some r) : dC E 49 0 [] [] (C8 r) [] := by
 refine eO Tryz.func49 rfl ?_
 unfold tS at h
 refine za [0] (za [0,1] (aR h (fun A j => ∀ v8,j v8 = some r → A (mk [G7,A1 1 1 0] [(0,B1),K6 1 v8] 2)) (fun v8 h => ?_) (fun j1 Aj1 hj1 h => ?_)))
 refine za [0] ?_
 cases h
 exact aG zr
 refine za [0,1,4,5] (aI (bB (fun n s => ∃ v2 v3,nI j1 n v2 v3 = some r ∧ s = mk [G7,A1 1 1 0,(4,.agg (List.flatten (List.map kF bE))),A7 5 v2] [(0,B1),K6 1 v3] 2) n _ zI ⟨_,_,h,rfl⟩ (fun s ⟨v2,v3,h,_⟩ => nomatch h) ?_))
 rintro n s ⟨v2,v3,h,rfl⟩
 rw [nI] at h
 refine za [0,1,4,5,6] (aM (zi h (fun h => ?_) fun h => ?_))
 refine aD (aM (aI (zx fun _ => zk 1 (bK h fun e4 he h => cY (v := .agg [Bo e4.inherited,I e4.low,I e4.high,I e4.start]) (foot := []) (yN (enc := kF) (xs := bE) (ix := v2) (e := e4) (len := 22) (j := ⟨.st [(4,0,1),(3,1,1),(3,2,1),(3,3,1)],4,32,[.bool false,.int .i64 0,.int .i64 0,.int .i64 0]⟩) (v := .agg [Bo e4.inherited,I e4.low,I e4.high,I e4.start]) he (by kernel_rfl) (by kernel_rfl) (fun x => by kernel_rfl) (by decide) (by kernel_rfl)) (by kernel_rfl) rfl rfl (zk 3 (ze [0,1,2,3,4,5] (zy fun _ => zk 3 (bK h fun k5 he h => cY (v := .c (.ptr 1 (0 + k5 * 1))) (foot := []) (zH (n := 1) (q := 0) (len := 22) (sz := 1) (k := k5) (ix := v2) he (by kernel_rfl)) (by kernel_rfl) rfl rfl ?_))))))))
 have hb_k5 := iD he
 exact sB (n := 1) (off := (0 + k5 * 1)) (T0 := 52) (sz := 1) (lx := [I e4.start]) (l := [I v3.x0,I v3.x1,I v3.x2,I v3.x3,I v3.x4,I v3.x5,I v3.x6,I v3.x7,I v3.x8,I v3.x9,I v3.x10,I v3.x11,I v3.x12,I v3.x13,I v3.x14,I v3.x15,I v3.x16,I v3.x17,I v3.x18,I v3.x19,I v3.x20,I v3.x21]) (l2 := [I ((E9 v3 k5 e4.start).x0),I ((E9 v3 k5 e4.start).x1),I ((E9 v3 k5 e4.start).x2),I ((E9 v3 k5 e4.start).x3),I ((E9 v3 k5 e4.start).x4),I ((E9 v3 k5 e4.start).x5),I ((E9 v3 k5 e4.start).x6),I ((E9 v3 k5 e4.start).x7),I ((E9 v3 k5 e4.start).x8),I ((E9 v3 k5 e4.start).x9),I ((E9 v3 k5 e4.start).x10),I ((E9 v3 k5 e4.start).x11),I ((E9 v3 k5 e4.start).x12),I ((E9 v3 k5 e4.start).x13),I ((E9 v3 k5 e4.start).x14),I ((E9 v3 k5 e4.start).x15),I ((E9 v3 k5 e4.start).x16),I ((E9 v3 k5 e4.start).x17),I ((E9 v3 k5 e4.start).x18),I ((E9 v3 k5 e4.start).x19),I ((E9 v3 k5 e4.start).x20),I ((E9 v3 k5 e4.start).x21)]) (by kernel_rfl) (by kernel_rfl) (by simp only [List.length_cons,List.length_nil]; omega) (by rw [Nat.zero_add]; exact aB.splice_eq v3 k5 e4.start hb_k5) (by kernel_rfl) rfl rfl (bT (aV (zb (dI zI (⟨_,_,h,rfl⟩)))))
 exact aJ zI (bF (hj1 _ h))
def qQ (n : Nat)  : Option Bool := (nC n (aN.mk 1 nB ([] : List bJ) ([] : List cS) [(aN.mk 2 nB ([] : List bJ) ([] : List cS) ([] : List aN))]) 1).bind fun y1 => (kH n (bM.mk [(cM.mk 2 nB 0 0 nB [(bW.mk 9 0 7 nB)])]) (bS.mk ([] : List fJ)) (cX.mk false false 100) y1.1 ([] : List aO)).bind fun y2 => (gd [((y2.2 == 0) && ((List.length y2.1 : Int) == 2))] (idx y2.1 0)).bind fun e3 => (gd [(((y2.2 == 0) && ((List.length y2.1 : Int) == 2)) && (e3.Style.x9 == 0))] (idx y2.1 1)).bind fun e4 => (gd [((((y2.2 == 0) && ((List.length y2.1 : Int) == 2)) && (e3.Style.x9 == 0)) && (e4.Style.x9 == 7))] (idx y2.1 1)).bind fun e5 => (gd [(((((y2.2 == 0) && ((List.length y2.1 : Int) == 2)) && (e3.Style.x9 == 0)) && (e4.Style.x9 == 7)) && (e5.Style.x2 == 16))] (tS n)).bind fun y6 => some ((((((y2.2 == 0) && ((List.length y2.1 : Int) == 2)) && (e3.Style.x9 == 0)) && (e4.Style.x9 == 7)) && (e5.Style.x2 == 16)) && (y6.x14 == 1048576))
theorem Gl (n : Nat)  (r : Bool) (h : qQ n  = some r) : dC E 20 0 [] [] (D7 r) [] := by
 refine eO Tryz.func20 rfl ?_
 unfold qQ at h
 refine za [] (zx fun _ => zk 1 (rF (e := 70) (sz := 5) (len := 1) (r := [I 2,Sx nB,.lit [],.lit [],.lit []]) (l' := List.map aQ [(aN.mk 2 nB ([] : List bJ) ([] : List cS) ([] : List aN))]) (nm := 2) (by kernel_rfl) (by simp only [List.map_cons,List.map_nil,cB]; kernel_rfl) (by kernel_rfl) (by kernel_rfl) rfl rfl rfl (zk 1 (bK h fun y1 he h => zc fok28 (sI n _ _ y1 he) (zk 6 (ze [1] (za [1,3] (zx fun _ => zk 4 (bK h fun y2 he h => zc aA2 (qC n _ _ _ _ _ y2 he) (zk 5 (kS [4,5] (L2 := [L9 4 y2.1,A7 5 y2.2]) (G2 := [(2,.tok 70 5 (List.length [(aN.mk 2 nB ([] : List bJ) ([] : List cS) ([] : List aN))])),G4 8 y1.1,C1 12 81 4 [bW.mk 9 0 7 nB],C1 14 63 6 [K8],R7 [K8]]) 28 (zx fun _ => zk 3 (zq (kX (e := [y2.2 == 0]) [(29,C3 y2.1,some 1)] (v := .c (I (List.length y2.1 : Int))) (foot := []) (by kernel_rfl) (by kernel_rfl) (by kernel_rfl) (fun hg => mO (enc := aX) (l := y2.1) (by kernel_rfl)) rfl rfl (zq (zp (zk 1 (zq (bK h fun e3 he h => kX (e := [((y2.2 == 0) && ((List.length y2.1 : Int) == 2))]) [(34,C3 y2.1,some 1)] (v := .c (B8 e3.ID e3.Style)) (foot := []) (by kernel_rfl) (by kernel_rfl) (by kernel_rfl) (fun hg => dU (enc := aX) (sz := 23) (l := y2.1) (ix := 0) (bQ he hg) (by kernel_rfl) (by kernel_rfl) (by kernel_rfl)) rfl rfl (zq (zq (zq (zq (zp (zk 1 (zq (bK h fun e4 he h => kX (e := [(((y2.2 == 0) && ((List.length y2.1 : Int) == 2)) && (e3.Style.x9 == 0))]) [(42,C3 y2.1,some 1)] (v := .c (B8 e4.ID e4.Style)) (foot := []) (by kernel_rfl) (by kernel_rfl) (by kernel_rfl) (fun hg => dU (enc := aX) (sz := 23) (l := y2.1) (ix := 1) (bQ he hg) (by kernel_rfl) (by kernel_rfl) (by kernel_rfl)) rfl rfl ?_)))))))))))))))))))))))))))
 refine zq (zq (zq (zq (zp (Ry 1 (L' := [L9 4 y2.1,A7 5 y2.2,R9 y2.2,B4 27 (y2.2 == 0),B4 28 (y2.2 == 0),(29,.cnd [y2.2 == 0] (C3 y2.1)),(30,.cnd [y2.2 == 0] (.c (I (List.length y2.1 : Int)))),(31,.cnd [y2.2 == 0] (.c (Bo ((List.length y2.1 : Int) == 2)))),(32,.c (Bo ((y2.2 == 0) && ((List.length y2.1 : Int) == 2)))),(33,.c (Bo ((y2.2 == 0) && ((List.length y2.1 : Int) == 2)))),(34,.cnd [((y2.2 == 0) && ((List.length y2.1 : Int) == 2))] (C3 y2.1)),(35,.cnd [((y2.2 == 0) && ((List.length y2.1 : Int) == 2))] (.c (B8 e3.ID e3.Style))),(36,.cnd [((y2.2 == 0) && ((List.length y2.1 : Int) == 2))] (.c (.imm [I e3.Style.x0,I e3.Style.x1,I e3.Style.x2,I e3.Style.x3,I e3.Style.x4,I e3.Style.x5,I e3.Style.x6,I e3.Style.x7,I e3.Style.x8,I e3.Style.x9,I e3.Style.x10,I e3.Style.x11,I e3.Style.x12,I e3.Style.x13,I e3.Style.x14,I e3.Style.x15,I e3.Style.x16,I e3.Style.x17,I e3.Style.x18,I e3.Style.x19,I e3.Style.x20,I e3.Style.x21]))),(37,.cnd [((y2.2 == 0) && ((List.length y2.1 : Int) == 2))] (.c (.imm [I e3.Style.x9,I e3.Style.x10,I e3.Style.x11,I e3.Style.x12,I e3.Style.x13,I e3.Style.x14,I e3.Style.x15,I e3.Style.x16,I e3.Style.x17,I e3.Style.x18,I e3.Style.x19,I e3.Style.x20,I e3.Style.x21]))),(38,.cnd [((y2.2 == 0) && ((List.length y2.1 : Int) == 2))] (C7 e3.Style.x9)),(39,.cnd [((y2.2 == 0) && ((List.length y2.1 : Int) == 2))] (D7 (e3.Style.x9 == 0))),(40,.c (Bo (((y2.2 == 0) && ((List.length y2.1 : Int) == 2)) && (e3.Style.x9 == 0)))),(41,.c (Bo (((y2.2 == 0) && ((List.length y2.1 : Int) == 2)) && (e3.Style.x9 == 0)))),(42,.cnd [(((y2.2 == 0) && ((List.length y2.1 : Int) == 2)) && (e3.Style.x9 == 0))] (C3 y2.1)),(43,.cnd [(((y2.2 == 0) && ((List.length y2.1 : Int) == 2)) && (e3.Style.x9 == 0))] (.c (B8 e4.ID e4.Style))),(44,.cnd [(((y2.2 == 0) && ((List.length y2.1 : Int) == 2)) && (e3.Style.x9 == 0))] (.c (.imm [I e4.Style.x0,I e4.Style.x1,I e4.Style.x2,I e4.Style.x3,I e4.Style.x4,I e4.Style.x5,I e4.Style.x6,I e4.Style.x7,I e4.Style.x8,I e4.Style.x9,I e4.Style.x10,I e4.Style.x11,I e4.Style.x12,I e4.Style.x13,I e4.Style.x14,I e4.Style.x15,I e4.Style.x16,I e4.Style.x17,I e4.Style.x18,I e4.Style.x19,I e4.Style.x20,I e4.Style.x21]))),(45,.cnd [(((y2.2 == 0) && ((List.length y2.1 : Int) == 2)) && (e3.Style.x9 == 0))] (.c (.imm [I e4.Style.x9,I e4.Style.x10,I e4.Style.x11,I e4.Style.x12,I e4.Style.x13,I e4.Style.x14,I e4.Style.x15,I e4.Style.x16,I e4.Style.x17,I e4.Style.x18,I e4.Style.x19,I e4.Style.x20,I e4.Style.x21]))),(46,.cnd [(((y2.2 == 0) && ((List.length y2.1 : Int) == 2)) && (e3.Style.x9 == 0))] (C7 e4.Style.x9)),(47,.cnd [(((y2.2 == 0) && ((List.length y2.1 : Int) == 2)) && (e3.Style.x9 == 0))] (D7 (e4.Style.x9 == 7))),(48,.c (Bo ((((y2.2 == 0) && ((List.length y2.1 : Int) == 2)) && (e3.Style.x9 == 0)) && (e4.Style.x9 == 7)))),(49,.c (Bo ((((y2.2 == 0) && ((List.length y2.1 : Int) == 2)) && (e3.Style.x9 == 0)) && (e4.Style.x9 == 7))))]) (G' := [(2,.tok 70 5 (List.length [(aN.mk 2 nB ([] : List bJ) ([] : List cS) ([] : List aN))])),G4 8 y1.1,C1 12 81 4 [bW.mk 9 0 7 nB],C1 14 63 6 [K8],R7 [K8]]) (X' := []) (zq (bK h fun e5 he h => kX (e := [((((y2.2 == 0) && ((List.length y2.1 : Int) == 2)) && (e3.Style.x9 == 0)) && (e4.Style.x9 == 7))]) [(50,C3 y2.1,some 1)] (v := .c (B8 e5.ID e5.Style)) (foot := []) (by kernel_rfl) (by kernel_rfl) (by kernel_rfl) (fun hg => dU (enc := aX) (sz := 23) (l := y2.1) (ix := 1) (bQ he hg) (by kernel_rfl) (by kernel_rfl) (by kernel_rfl)) rfl rfl (zq (zq (zq (zq (zp (zk 1 (bK h fun y6 he h => yW [(((((y2.2 == 0) && ((List.length y2.1 : Int) == 2)) && (e3.Style.x9 == 0)) && (e4.Style.x9 == 7)) && (e5.Style.x2 == 16))] fok49 (fun hg => Dz n  y6 (bQ he hg)) (zq (zq (zP (.bool ((((((y2.2 == 0) && ((List.length y2.1 : Int) == 2)) && (e3.Style.x9 == 0)) && (e4.Style.x9 == 7)) && (e5.Style.x2 == 16)) && (y6.x14 == 1048576))) (zk 1 (kS [0] (L2 := [(0,.c (Bo ((((((y2.2 == 0) && ((List.length y2.1 : Int) == 2)) && (e3.Style.x9 == 0)) && (e4.Style.x9 == 7)) && (e5.Style.x2 == 16)) && (y6.x14 == 1048576))))]) (G2 := [(2,.tok 70 5 (List.length [(aN.mk 2 nB ([] : List bJ) ([] : List cS) ([] : List aN))])),G4 8 y1.1,C1 12 81 4 [bW.mk 9 0 7 nB],C1 14 63 6 [K8],R7 [K8]]) 65 ?_)))))))))))))))))))
 cases h
 exact aG zr
end Go.Proofs.YtojkihhnioeggaaGreatDoor.S
