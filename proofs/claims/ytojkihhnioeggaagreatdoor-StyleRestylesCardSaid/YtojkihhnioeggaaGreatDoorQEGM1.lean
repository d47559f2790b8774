import Derived.Test.YtojkihhnioeggaaGreatDoorQEGM0
set_option linter.all false
set_option maxRecDepth 100000
set_option maxHeartbeats 4000000
namespace Go.Proofs.YtojkihhnioeggaaGreatDoor.S
open Go Go.Bm
def nA (y1 : (Int × aW)) (j3 : List Int → List Int → Int → Option (ByteArray × aW)) : Nat → Int → List Int → Int → List Int → Option (ByteArray × aW)
 | 0,_,_,_,_ => none
 | n + 1,v7,v8,v9,v10 => (if (decide (v7 < y1.1)) = true then (cF n (aW.mk v8 v9) 4).bind fun y11 => (rL v7 (List.length v10)).bind fun k12 => (v10[k12]?).bind fun e13 => nA y1 j3 n (w6 (v7 + 1)) y11.2.L y11.2.At (List.set v10 k12 (IntKind.wrap .u8 (w6 (97 + y11.1)))) else j3 v10 v8 v9)
def vC (n : Nat) (p0 : aW) (p1 : Int) : Option (ByteArray × aW) := (cF n p0 (w6 (p1 + 1))).bind fun y1 => (mkO 1 y1.1).bind fun k2 => (aS (fun (v18 : List Int) (v19 : List Int) (v20 : Int) => some ((dQ v18),(aW.mk v19 v20))) (fun (j3 : List Int → List Int → Int → Option (ByteArray × aW)) => nA y1 j3 n 0 y1.2.L y1.2.At (List.replicate k2 (0 : Int))))
theorem Et (n : Nat) (p0 : aW) (p1 : Int) (r : (ByteArray × aW)) (h : vC n p0 p1 = some r) : dC E 121 1 (Q6 p1) [D9 p0] (G0 r.1) [D9 r.2] := by
 refine eO Tryz.func121 rfl ?_
 unfold vC at h
 refine za [0,1] (zx fun _ => zk 3 (bK h fun y1 he h => zo [(0,0)] cK (bI n _ _ y1 he) (zk 1 (ze [0,5] (zx fun _ => zk 1 (bK h fun k2 he h => rx_make (enc := Ye) (e := 5) (sz := 1) (bytes := 1) (nm := 8) (q := k2) (l := y1.1) (0 : Int) he (by kernel_rfl) (by kernel_rfl) (by kernel_rfl) rfl rfl rfl (zk 1 (ze [0,5,6] (aR h (fun A j => ∀ v18 v19 v20,j v18 v19 v20 = some r → A (mk [(6,J9 1)] [A6 v19 v20,(1,.vec 5 1 (List.map Ye v18))] 2)) (fun v18 v19 v20 h => ?_) (fun j3 Aj3 hj3 h => ?_))))))))))
 refine aJ (nM 1 (T := 5) (sz := 1) (l := List.map Ye v18) (L2 := [(6,.c (.lit (List.map Ye v18)))]) (G2 := [A6 v19 v20]) (by kernel_rfl) (by kernel_rfl) (by kernel_rfl)) (zx fun _ => zk 1 (zw (v := .c (Sx (dQ v18))) [] (nV (ns := v18) (by kernel_rfl)) (zk 1 (ze [4] ?_))))
 cases h
 exact aG zr
 refine za [0,5,6,7] (aI (bB (fun n s => ∃ v7 v8 v9 v10,nA y1 j3 n v7 v8 v9 v10 = some r ∧ s = mk [G7,A7 5 y1.1,(6,J9 1),A7 7 v7] [A6 v8 v9,(1,.vec 5 1 (List.map Ye v10))] 2) n _ (zv [(0,0),(8,1)] [0,5,6,7] 2) ⟨_,_,_,_,h,rfl⟩ (fun s ⟨v7,v8,v9,v10,h,_⟩ => nomatch h) ?_))
 rintro n s ⟨v7,v8,v9,v10,h,rfl⟩
 rw [nA] at h
 refine aM (za [0,5,6,7,16] (zi h (fun h => ?_) fun h => ?_))
 refine aD (aM (aI (zy fun _ => zk 3 (bK h fun y11 he h => zo [(0,0)] cK (bI n _ _ y11 he) (zk 2 (bK h fun k12 he h => cY (v := .c (.ptr 1 (k12 * 1))) (foot := [1]) (jL (enc := Ye) (l := v10) (n := 1) (sz := 1) (k := k12) (ix := v7) he (by kernel_rfl)) (by kernel_rfl) rfl rfl ?_))))))
 have hb_k12 := iD he
 exact bK h fun e13 he h => nJ (enc := Ye) (n := 1) (q := k12) (f := 0) (sz := 1) (T0 := 5) (lp := [U8 (IntKind.wrap .u8 (w6 (97 + y11.1)))]) (l := v10) (e := e13) (e2 := (IntKind.wrap .u8 (w6 (97 + y11.1)))) he (by kernel_rfl) (by simp only [List.length_cons,List.length_nil]; omega) (by kernel_rfl) (by kernel_rfl) rfl rfl (bT (aV (zb (dI zI (⟨_,_,_,_,h,rfl⟩)))))
 exact aJ zI (bF (hj3 _ _ _ h))
def tN (p1 : aP) (self_Src_Like : aW → aP → Option (aP × aW)) (j4 : List aP → List Int → Int → Option (aP × aW)) : Nat → Int → List Int → Int → List aP → Option (aP × aW)
 | 0,_,_,_,_ => none
 | n + 1,v18,v19,v20,v21 => (if (decide (v18 < (List.length p1.L : Int))) = true then (aS (fun (v27 : List Int) (v28 : Int) (v29 : List aP) => tN p1 self_Src_Like j4 n (w6 (v18 + 1)) v27 v28 v29) (fun (j22 : List Int → Int → List aP → Option (aP × aW)) => (cF n (aW.mk v19 v20) 3).bind fun y23 => (if (decide (y23.1 > 0)) = true then (idx p1.L v18).bind fun e24 => (self_Src_Like y23.2 e24).bind fun y25 => (pA 56 v21 [y25.1]).bind fun l26 => j22 y25.2.L y25.2.At l26 else j22 y23.2.L y23.2.At v21))) else j4 v21 v19 v20)
def tT (self_Src_Like : aW → aP → Option (aP × aW)) (n : Nat) (p0 : aW) (p1 : aP) : Option (aP × aW) := (if (p1.Kind == 1) = true then (oR n p0 (-3 : Int) 9).bind fun y1 => some ((aP.mk 1 y1.1 nB ([] : List aP)),y1.2) else (if (p1.Kind == 2) = true then (cF n p0 2).bind fun y2 => some ((aP.mk 2 y2.1 nB ([] : List aP)),y2.2) else (if (p1.Kind == 3) = true then (vC n p0 4).bind fun y3 => some ((aP.mk 3 0 y3.1 ([] : List aP)),y3.2) else (aS (fun (v37 : List aP) (v38 : List Int) (v39 : Int) => some ((aP.mk 4 0 nB v37),(aW.mk v38 v39))) (fun (j4 : List aP → List Int → Int → Option (aP × aW)) => tN p1 self_Src_Like j4 n 0 p0.L p0.At ([] : List aP))))))
theorem Ct (self_Src_Like : aW → aP → Option (aP × aW)) (ih_Src_Like : ∀ (p0 : aW) (p1 : aP) (r : (aP × aW)),self_Src_Like p0 p1 = some r → dC E 122 1 [D6 0 0,C0 p1] [D9 p0] (C0 r.1) [D9 r.2]) (n : Nat) (p0 : aW) (p1 : aP) (r : (aP × aW)) (h : tT self_Src_Like n p0 p1 = some r) : dC E 122 1 [D6 0 0,C0 p1] [D9 p0] (C0 r.1) [D9 r.2] := by
 refine eO Tryz.func122 rfl ?_
 unfold tT at h
 refine za [0,3,4] (aM (za [0,3,4,8] (aI (za [0,3,4,8,9] (zi h (fun h => ?_) fun h => ?_)))))
 refine zx fun _ => zk 1 (bK h fun y1 he h => zo [(0,0)] Vy (rK n _ _ _ y1 he) (zk 2 (ze [4] ?_)))
 cases h
 exact aG zr
 refine za [0,3,4,8,14] (zi h (fun h => ?_) fun h => ?_)
 refine zx fun _ => zk 1 (bK h fun y2 he h => zo [(0,0)] cK (bI n _ _ y2 he) (zk 2 (ze [4] ?_)))
 cases h
 exact aG zr
 refine za [0,3,4,19] (zi h (fun h => ?_) fun h => ?_)
 refine zx fun _ => zk 1 (bK h fun y3 he h => zo [(0,0)] Zp (Et n _ _ y3 he) (zk 2 (ze [4] ?_)))
 cases h
 exact aG zr
 refine aD (za [0,3,4,5] (aR h (fun A j => ∀ v37 v38 v39,j v37 v38 v39 = some r → A (mk [H4,O9] [A6 v38 v39,(1,G5),I9 2 152 3 v37,C1 3 152 4 v37] 4)) (fun v37 v38 v39 h => ?_) (fun j4 Aj4 hj4 h => ?_)))
 refine za [4] ?_
 cases h
 exact aG zr
 refine za [0,3,4,5,6] (aI (bB (fun n s => ∃ v18 v19 v20 v21,tN p1 self_Src_Like j4 n v18 v19 v20 v21 = some r ∧ s = mk [G7,N0,A1 4 2 0,A1 5 3 0,A7 6 v18] [A6 v19 v20,(1,E7 p1),(2,G5),I9 3 152 4 v21,C1 4 152 4 v21] 5) n _ (dZ.trans (lZ (n := 12) (T0 := 152) (l := [I 4,I 0,Sx nB,bV]) (G2 := [D9 p0,(1,E7 p1),(2,G5),(12,.blk 152 [I 4,I 0,Sx nB,.app 15 (List.map aT ([] : List aP))]),(15,.tok 152 4 (List.length ([] : List aP)))]) (lim2 := 16) 3 152 4 (by kernel_rfl) (by kernel_rfl) (by kernel_rfl) (by kernel_rfl)) (zv [(0,0),(1,1),(2,2),(12,3),(15,4)] [0,3,4,5,6] 5)) ⟨_,_,_,_,h,rfl⟩ (fun s ⟨v18,v19,v20,v21,h,_⟩ => nomatch h) ?_))
 rintro n s ⟨v18,v19,v20,v21,h,rfl⟩
 rw [tN] at h
 refine aM (zx fun _ => zk 3 (zl aT p1.L (zk 1 (ze [0,3,4,5,6,29] (zi h (fun h => ?_) fun h => ?_)))))
 refine aD (aR h (fun A j => ∀ v27 v28 v29,j v27 v28 v29 = some r → A (mk [G7,N0,A1 4 2 0,A1 5 3 0,A7 6 v18] [A6 v27 v28,(1,E7 p1),(2,G5),I9 3 152 4 v29,C1 4 152 4 v29] 5)) (fun v27 v28 v29 h => ?_) (fun j22 Aj22 hj22 h => ?_))
 exact aV (zb (dI zI (⟨_,_,_,_,h,rfl⟩)))
 refine aI (zx fun _ => zk 1 (bK h fun y23 he h => zo [(0,0)] cK (bI n _ _ y23 he) (zk 1 (ze [0,3,4,5,6,34] (zi h (fun h => ?_) fun h => ?_)))))
 exact aV (Ov [[],[0],[],[],[3],[],[4,5,3],[6,4,5,3],[2,7,6,4,5,3],[8,2,7,6,4,5,3],[1,9,8,0,2,7,6,4,5,3],[0,1,2,3,4,5,6,7,8,9,10],[11,10,0,1,2,3,4,5,6,7,8,9]] fun _ => zk 6 (bK h fun e24 he h => cY (v := .c (K1 e24)) (foot := []) (dU (enc := aT) (sz := 4) (l := p1.L) (ix := v18) he (by kernel_rfl) (eE e24) (by kernel_rfl)) (by kernel_rfl) rfl rfl (zk 1 (bK h fun y25 he h => zo [(0,0)] fok122 (ih_Src_Like _ _ y25 he) (rF (e := 152) (sz := 4) (len := 1) (r := [I y25.1.Kind,I y25.1.N,Sx y25.1.S,D8 y25.1.L]) (l' := List.map aT [y25.1]) (nm := 22) (by kernel_rfl) (by simp only [List.map_cons,List.map_nil,eE]; kernel_rfl) (by kernel_rfl) (by kernel_rfl) rfl rfl rfl (bK h fun l26 he h => cI (enc := aT) (l := v21) (els := [y25.1]) (r := l26) (old := some 4) (e := 152) (sz := 4) (bytes := 56) (k := (H6 v21)) (nm := 23) he (by kernel_rfl) (by kernel_rfl) (fun x => by rw [eE]; rfl) (by kernel_rfl) (by kernel_rfl) rfl rfl rfl (zk 2 (bT (dI (zv [(0,0),(1,1),(2,2),(3,3),(23,4)] [0,3,4,5,6] 5) (hj22 _ _ _ h))))))))))
 exact aJ zI (aD (hj22 _ _ _ h))
 exact aJ (zv [(0,0),(2,1),(3,2),(4,3)] [4,5] 4) (bF (hj4 _ _ _ h))
def xR : Nat → aW → aP → Option (aP × aW)
 | 0,_,_ => none
 | n + 1,p0,p1 => tT (fun a0 a1 => xR n a0 a1) n p0 p1
theorem Rq (n : Nat) : (∀ (p0 : aW) (p1 : aP) (r : (aP × aW)),xR n p0 p1 = some r → dC E 122 1 [D6 0 0,C0 p1] [D9 p0] (C0 r.1) [D9 r.2]) := by
 induction n with
 | zero => intro p0 p1 r h; rw [xR] at h; cases h
 | succ n ih => intro p0 p1 r h; rw [xR] at h; exact Ct _ ih n _ _ r h
def rS (y8 : (Int × aW)) (y9 : (aP × aW)) (j7 : List aP → List Int → Int → Option (aP × aW)) : Nat → Int → List Int → Int → List aP → Option (aP × aW)
 | 0,_,_,_,_ => none
 | n + 1,v13,v14,v15,v16 => (if (decide (v13 < y8.1)) = true then (xR n (aW.mk v14 v15) y9.1).bind fun y17 => (pA 56 v16 [y17.1]).bind fun l18 => rS y8 y9 j7 n (w6 (v13 + 1)) y17.2.L y17.2.At l18 else j7 v16 v14 v15)
def pF (self_Src_Value : aW → Int → Option (aP × aW)) (n : Nat) (p0 : aW) (p1 : Int) : Option (aP × aW) := (aS (fun (v26 : List Int) (v27 : Int) => (cF n (aW.mk v26 v27) (List.length [0,1,2,3,(-1 : Int),7,10,1099511627776,(-1099511627776 : Int),1099511627775] : Int)).bind fun y28 => (idx [0,1,2,3,(-1 : Int),7,10,1099511627776,(-1099511627776 : Int),1099511627775] y28.1).bind fun e29 => some ((aP.mk 1 e29 nB ([] : List aP)),y28.2)) (fun (j1 : List Int → Int → Option (aP × aW)) => (cF n p0 5).bind fun y2 => (if (y2.1 == 0) = true then (cF n y2.2 2).bind fun y3 => some ((aP.mk 2 y3.1 nB ([] : List aP)),y3.2) else (aS (fun (v5 : Bool) => (if v5 = true then (vC n y2.2 4).bind fun y6 => some ((aP.mk 3 0 y6.1 ([] : List aP)),y6.2) else (if (y2.1 == 3) = true then (if (decide (p1 > 0)) = true then (aS (fun (v23 : List aP) (v24 : List Int) (v25 : Int) => some ((aP.mk 4 0 nB v23),(aW.mk v24 v25))) (fun (j7 : List aP → List Int → Int → Option (aP × aW)) => (cF n y2.2 4).bind fun y8 => (if (decide (y8.1 > 0)) = true then (self_Src_Value y8.2 (w6 (p1 - 1))).bind fun y9 => (pA 56 ([] : List aP) [y9.1]).bind fun l10 => rS y8 y9 j7 n 1 y9.2.L y9.2.At l10 else j7 ([] : List aP) y8.2.L y8.2.At))) else j1 y2.2.L y2.2.At) else j1 y2.2.L y2.2.At))) (fun (j4 : Bool → Option (aP × aW)) => (if (y2.1 == 1) = true then j4 (y2.1 == 1) else j4 (y2.1 == 2)))))))
theorem Cl (self_Src_Value : aW → Int → Option (aP × aW)) (ih_Src_Value : ∀ (p0 : aW) (p1 : Int) (r : (aP × aW)),self_Src_Value p0 p1 = some r → dC E 97 1 (Q6 p1) [D9 p0] (C0 r.1) [D9 r.2]) (n : Nat) (p0 : aW) (p1 : Int) (r : (aP × aW)) (h : pF self_Src_Value n p0 p1 = some r) : dC E 97 1 (Q6 p1) [D9 p0] (C0 r.1) [D9 r.2] := by
 refine eO Tryz.func97 rfl ?_
 unfold pF at h
 refine za [0,1,4] (aR h (fun A j => ∀ v26 v27,j v26 v27 = some r → A (mk [G7,H4] [A6 v26 v27,(1,G5)] 2)) (fun v26 v27 h => ?_) (fun j1 Aj1 hj1 h => ?_))
 refine za [0,4,9] (zx fun _ => zk 3 (zl aL [0,1,2,3,(-1 : Int),7,10,1099511627776,(-1099511627776 : Int),1099511627775] (bK h fun y28 he h => zo [(0,0)] cK (bI n _ _ y28 he) (bK h fun e29 he h => zd aL he (zk 3 (ze [4] ?_))))))
 cases h
 exact aG zr
 refine zx fun _ => zk 1 (bK h fun y2 he h => zo [(0,0)] cK (bI n _ _ y2 he) (ze [0,1,4,11] (aI (za [0,1,4,11,12] (zi h (fun h => ?_) fun h => ?_)))))
 refine zx fun _ => zk 1 (bK h fun y3 he h => zo [(0,0)] cK (bI n _ _ y3 he) (zk 2 (ze [4] ?_)))
 cases h
 exact aG zr
 refine aR h (fun A j => ∀ v5,j v5 = some r → A (mk [G7,A7 1 p1,H4,A7 11 y2.1,B4 17 v5] [D9 y2.2,(1,G5)] 2)) (fun v5 h => ?_) (fun j4 Aj4 hj4 h => ?_)
 refine zi h (fun h => ?_) fun h => ?_
 refine zx fun _ => zk 1 (bK h fun y6 he h => zo [(0,0)] Zp (Et n _ _ y6 he) (zk 2 (ze [4] ?_)))
 cases h
 exact aG zr
 refine za [0,1,4,23] (zi h (fun h => ?_) fun h => ?_)
 refine za [0,1,4,26] (zi h (fun h => ?_) fun h => ?_)
 refine za [0,1,4,5] (aR h (fun A j => ∀ v23 v24 v25,j v23 v24 v25 = some r → A (mk [H4,O9] [A6 v24 v25,(1,G5),I9 2 152 3 v23,C1 3 152 4 v23] 4)) (fun v23 v24 v25 h => ?_) (fun j7 Aj7 hj7 h => ?_))
 refine za [4] ?_
 cases h
 exact aG zr
 refine zx fun _ => zk 1 (bK h fun y8 he h => zo [(0,0)] cK (bI n _ _ y8 he) (zk 1 (ze [0,1,4,5,6] (za [0,1,4,5,6,31] (zi h (fun h => ?_) fun h => ?_)))))
 refine zx fun _ => zk 3 (bK h fun y9 he h => zo [(0,0)] fok97 (ih_Src_Value _ _ y9 he) (zk 2 (kS [0,4,5,6,7] (L2 := [G7,H4,A1 5 7 0,A7 6 y8.1,A1 7 18 0]) (G2 := [D9 y9.2,(1,G5),(7,.blk 152 [I 4,I 0,Sx nB,bV]),(18,E7 y9.1)]) 20 (zx fun _ => zk 3 (rF (e := 152) (sz := 4) (len := 1) (r := [I y9.1.Kind,I y9.1.N,Sx y9.1.S,D8 y9.1.L]) (l' := List.map aT [y9.1]) (nm := 23) (by kernel_rfl) (by simp only [List.map_cons,List.map_nil,eE]; kernel_rfl) (by kernel_rfl) (by kernel_rfl) rfl rfl rfl (bK h fun l10 he h => cI (enc := aT) (l := ([] : List aP)) (els := [y9.1]) (r := l10) (old := none) (e := 152) (sz := 4) (bytes := 56) (k := 0) (nm := 24) he (by kernel_rfl) (by kernel_rfl) (fun x => by rw [eE]; rfl) (by kernel_rfl) (by kernel_rfl) rfl rfl rfl (zk 2 (ze [0,4,5,6,7] (za [0,4,5,6,7,8] (aI (bB (fun n s => ∃ v13 v14 v15 v16,rS y8 y9 j7 n v13 v14 v15 v16 = some r ∧ s = mk [G7,H4,O9,A7 6 y8.1,A1 7 3 0,A7 8 v13] [A6 v14 v15,(1,G5),I9 2 152 4 v16,(3,E7 y9.1),C1 4 152 4 v16] 5) n _ (zv [(0,0),(1,1),(7,2),(18,3),(24,4)] [0,4,5,6,7,8] 5) ⟨_,_,_,_,h,rfl⟩ (fun s ⟨v13,v14,v15,v16,h,_⟩ => nomatch h) ?_)))))))))))
 rintro n s ⟨v13,v14,v15,v16,h,rfl⟩
 rw [rS] at h
 refine aM (za [0,4,5,6,7,8,44] (zi h (fun h => ?_) fun h => ?_))
 exact aD (aM (aI (Ov [[],[0],[],[],[2,3],[4,2,3],[1,5,4,0,2,3],[0,1,2,3,4,5,6],[7,6,0,1,2,3,4,5]] fun _ => zk 4 (bK h fun y17 he h => zo [(0,0)] fok122 (Rq n _ _ y17 he) (rF (e := 152) (sz := 4) (len := 1) (r := [I y17.1.Kind,I y17.1.N,Sx y17.1.S,D8 y17.1.L]) (l' := List.map aT [y17.1]) (nm := 13) (by kernel_rfl) (by simp only [List.map_cons,List.map_nil,eE]; kernel_rfl) (by kernel_rfl) (by kernel_rfl) rfl rfl rfl (bK h fun l18 he h => cI (enc := aT) (l := v16) (els := [y17.1]) (r := l18) (old := some 4) (e := 152) (sz := 4) (bytes := 56) (k := (H6 v16)) (nm := 14) he (by kernel_rfl) (by kernel_rfl) (fun x => by rw [eE]; rfl) (by kernel_rfl) (by kernel_rfl) rfl rfl rfl (zk 2 (bT (aV (zb (dI (zv [(0,0),(1,1),(2,2),(3,3),(14,4)] [0,4,5,6,7,8] 5) (⟨_,_,_,_,h,rfl⟩))))))))))))
 exact aJ (zv [(0,0),(1,1),(2,2),(4,3)] [4,5] 4) (bF (hj7 _ _ _ h))
 exact aJ (dZ.trans (lZ (n := 7) (T0 := 152) (l := [I 4,I 0,Sx nB,bV]) (G2 := [D9 y8.2,(1,G5),(7,.blk 152 [I 4,I 0,Sx nB,.app 14 (List.map aT ([] : List aP))]),(14,.tok 152 4 (List.length ([] : List aP)))]) (lim2 := 15) 3 152 4 (by kernel_rfl) (by kernel_rfl) (by kernel_rfl) (by kernel_rfl)) (zv [(0,0),(1,1),(7,2),(14,3)] [4,5] 4)) (aD (hj7 _ _ _ h))
 exact aJ zI (aD (hj1 _ _ h))
 exact aJ zI (aD (hj1 _ _ h))
 refine za [0,1,4,11,17] (zi h (fun h => ?_) fun h => ?_)
 exact aJ zI (aD (hj4 _ h))
 exact aV (zb (dI zI (hj4 _ h)))
def pZ : Nat → aW → Int → Option (aP × aW)
 | 0,_,_ => none
 | n + 1,p0,p1 => pF (fun a0 a1 => pZ n a0 a1) n p0 p1
theorem Oj (n : Nat) : (∀ (p0 : aW) (p1 : Int) (r : (aP × aW)),pZ n p0 p1 = some r → dC E 97 1 (Q6 p1) [D9 p0] (C0 r.1) [D9 r.2]) := by
 induction n with
 | zero => intro p0 p1 r h; rw [pZ] at h; cases h
 | succ n ih => intro p0 p1 r h; rw [pZ] at h; exact Cl _ ih n _ _ r h
def mR (v45 : List aN) (v53 : ByteArray) (j54 : Bool → Option (aN × aW)) (p1 : Int) (y14 : (Int × aW)) (y15 : (Int × aW)) (v42 : Int) (v51 : List Int) (v52 : Int) (v4 : Int) (y5 : ((List bJ) × aW)) (v13 : List cS) (y47 : (aN × aW)) : Nat → Bool → Int → Option (aN × aW)
 | 0,_,_ => none
 | n + 1,v56,v57 => (if (decide (v57 < (List.length v45 : Int))) = true then (gd [(!v56),(!(bP v53 nB))] (idx v45 v57)).bind fun e58 => mR v45 v53 j54 p1 y14 y15 v42 v51 v52 v4 y5 v13 y47 n (v56 || ((!(bP v53 nB)) && (bP e58.Key v53))) (w6 (v57 + 1)) else j54 v56)
def mY (y14 : (Int × aW)) (self_Src_view : aW → Int → Option (aN × aW)) (p1 : Int) (y15 : (Int × aW)) (v4 : Int) (y5 : ((List bJ) × aW)) (v13 : List cS) (j16 : List aN → List Int → Int → Option (aN × aW)) : Nat → Int → List Int → Int → List aN → Option (aN × aW)
 | 0,_,_,_,_ => none
 | n + 1,v42,v43,v44,v45 => (if (decide (v42 < y14.1)) = true then (aS (fun (v63 : List Int) (v64 : Int) (v65 : List aN) => mY y14 self_Src_view p1 y15 v4 y5 v13 j16 n (w6 (v42 + 1)) v63 v64 v65) (fun (j46 : List Int → Int → List aN → Option (aN × aW)) => (self_Src_view (aW.mk v43 v44) (w6 (p1 - 1))).bind fun y47 => (aS (fun (v51 : List Int) (v52 : Int) (v53 : ByteArray) => (aS (fun (v61 : Bool) => (if (!v61) = true then (pA 96 v45 [(aN.mk y47.1.Kind v53 y47.1.Attrs y47.1.Actions y47.1.Kids)]).bind fun l62 => j46 v51 v52 l62 else j46 v51 v52 v45)) (fun (j54 : Bool → Option (aN × aW)) => mR v45 v53 j54 p1 y14 y15 v42 v51 v52 v4 y5 v13 y47 n false 0))) (fun (j48 : List Int → Int → ByteArray → Option (aN × aW)) => (ifO [(!(y15.1 == 0))] (cF n y47.2 3) ((default : Int),y47.2)).bind fun y49 => (if ((y15.1 == 0) || (y49.1 == 0)) = true then (cF n y49.2 6).bind fun y50 => j48 y50.2.L y50.2.At (dQ [107,(IntKind.wrap .u8 (w6 (97 + y50.1)))]) else j48 y49.2.L y49.2.At y47.1.Key))))) else j16 v45 v43 v44)
def qJ (self_Src_view : aW → Int → Option (aN × aW)) (n : Nat) (p0 : aW) (p1 : Int) : Option (aN × aW) := (cF n p0 (List.length [1,1,2,3,4,5,6,7,8,9,10,11,12,13] : Int)).bind fun y1 => (idx [1,1,2,3,4,5,6,7,8,9,10,11,12,13] y1.1).bind fun e2 => (aS (fun (v4 : Int) => (rX n y1.2 v4).bind fun y5 => (aS (fun (v11 : List Int) (v12 : Int) (v13 : List cS) => (if (decide (p1 ≤ 0)) = true then some ((aN.mk v4 nB y5.1 v13 ([] : List aN)),(aW.mk v11 v12)) else (cF n (aW.mk v11 v12) 5).bind fun y14 => (cF n y14.2 2).bind fun y15 => (aS (fun (v73 : List aN) (v74 : List Int) (v75 : Int) => some ((aN.mk v4 nB y5.1 v13 v73),(aW.mk v74 v75))) (fun (j16 : List aN → List Int → Int → Option (aN × aW)) => mY y14 self_Src_view p1 y15 v4 y5 v13 j16 n 0 y15.2.L y15.2.At ([] : List aN))))) (fun (j6 : List Int → Int → List cS → Option (aN × aW)) => (cF n y5.2 3).bind fun y7 => (if (y7.1 == 0) = true then (pZ n y7.2 0).bind fun y8 => j6 y8.2.L y8.2.At [(cS.mk (⟨#[112,114,101,115,115]⟩ : ByteArray) (⟨#[47]⟩ : ByteArray) (⟨#[103,111]⟩ : ByteArray) [y8.1])] else j6 y7.2.L y7.2.At ([] : List cS))))) (fun (j3 : Int → Option (aN × aW)) => (if (decide (p1 > 2)) = true then j3 1 else j3 e2)))
theorem De (self_Src_view : aW → Int → Option (aN × aW)) (ih_Src_view : ∀ (p0 : aW) (p1 : Int) (r : (aN × aW)),self_Src_view p0 p1 = some r → dC E 58 1 (Q6 p1) [D9 p0] (A9 r.1) [D9 r.2]) (n : Nat) (p0 : aW) (p1 : Int) (r : (aN × aW)) (h : qJ self_Src_view n p0 p1 = some r) : dC E 58 1 (Q6 p1) [D9 p0] (A9 r.1) [D9 r.2] := by
 refine eO Tryz.func58 rfl ?_
 unfold qJ at h
 refine za [0,1,4] (za [0,1,4,5] (zx fun _ => zk 3 (zl aL [1,1,2,3,4,5,6,7,8,9,10,11,12,13] (bK h fun y1 he h => zo [(0,0)] cK (bI n _ _ y1 he) (bK h fun e2 he h => zd aL he (zk 4 (ze [0,1,4,6] (aR h (fun A j => ∀ v4,j v4 = some r → A (mk [G7,A7 1 p1,H4,O5] [D9 y1.2,(1,E3),(2,.blk 70 [I v4,Sx nB,bV,bV,bV])] 3)) (fun v4 h => ?_) (fun j3 Aj3 hj3 h => ?_)))))))))
 refine zx fun _ => zk 3 (bK h fun y5 he h => zo [(0,0)] fok96 (Aw n _ _ y5 he) (zk 2 (ze [0,1,4,6] (aR h (fun A j => ∀ v11 v12 v13,j v11 v12 v13 = some r → A (mk [G7,A7 1 p1,H4,O5] [A6 v11 v12,(1,E3),(2,.blk 70 [I v4,Sx nB,C5 y5.1,.app 3 (List.map aC v13),bV]),C1 3 159 4 v13] 4)) (fun v11 v12 v13 h => ?_) (fun j6 Aj6 hj6 h => ?_)))))
 refine aM (za [0,1,4,6,40] (zi h (fun h => ?_) fun h => ?_))
 refine za [4] ?_
 cases h
 exact aG zr
 refine aD (zx fun _ => zk 1 (bK h fun y14 he h => zo [(0,0)] cK (bI n _ _ y14 he) (zk 1 (ze [0,1,4,6,7] (zx fun _ => zk 1 (bK h fun y15 he h => zo [(0,0)] cK (bI n _ _ y15 he) (zk 2 (ze [0,1,4,6,7,8] (aR h (fun A j => ∀ v73 v74 v75,j v73 v74 v75 = some r → A (mk [H4,O5] [A6 v74 v75,(1,E3),I6 2 70 v4 y5.1 3 v13 4 v73,C1 3 159 4 v13,C1 4 70 5 v73] 5)) (fun v73 v74 v75 h => ?_) (fun j16 Aj16 hj16 h => ?_))))))))))
 refine za [4] ?_
 cases h
 exact aG zr
 refine za [0,1,4,6,7,8,9] (aI (bB (fun n s => ∃ v42 v43 v44 v45,mY y14 self_Src_view p1 y15 v4 y5 v13 j16 n v42 v43 v44 v45 = some r ∧ s = mk [G7,A7 1 p1,H4,O5,A7 7 y14.1,B4 8 (y15.1 == 0),A7 9 v42] [A6 v43 v44,(1,E3),I6 2 70 v4 y5.1 3 v13 4 v45,C1 3 159 4 v13,C1 4 70 5 v45] 5) n _ (dZ.trans (lZ (n := 2) (T0 := 70) (l := [I v4,Sx nB,C5 y5.1,.app 3 (List.map aC v13),bV]) (G2 := [D9 y15.2,(1,E3),(2,.blk 70 [I v4,Sx nB,C5 y5.1,.app 3 (List.map aC v13),.app 14 (List.map aQ ([] : List aN))]),C1 3 159 4 v13,(14,.tok 70 5 (List.length ([] : List aN)))]) (lim2 := 15) 4 70 5 (by kernel_rfl) (by kernel_rfl) (by kernel_rfl) (by kernel_rfl)) (zv [(0,0),(1,1),(2,2),(3,3),(14,4)] [0,1,4,6,7,8,9] 5)) ⟨_,_,_,_,h,rfl⟩ (fun s ⟨v42,v43,v44,v45,h,_⟩ => nomatch h) ?_))
 rintro n s ⟨v42,v43,v44,v45,h,rfl⟩
 rw [mY] at h
 refine aM (za [0,1,4,6,7,8,9,49] (zi h (fun h => ?_) fun h => ?_))
 refine aD (aR h (fun A j => ∀ v63 v64 v65,j v63 v64 v65 = some r → A (mk [G7,A7 1 p1,H4,O5,A7 7 y14.1,B4 8 (y15.1 == 0),A7 9 v42] [A6 v63 v64,(1,E3),I6 2 70 v4 y5.1 3 v13 4 v65,C1 3 159 4 v13,C1 4 70 5 v65] 5)) (fun v63 v64 v65 h => ?_) (fun j46 Aj46 hj46 h => ?_))
 exact aV (zb (dI zI (⟨_,_,_,_,h,rfl⟩)))
 refine aI (zx fun _ => zk 3 (bK h fun y47 he h => zo [(0,0)] fok58 (ih_Src_view _ _ y47 he) (zk 2 (ze [0,1,4,6,7,8,9,10] (aR h (fun A j => ∀ v51 v52 v53,j v51 v52 v53 = some r → A (mk [G7,A7 1 p1,H4,O5,A7 7 y14.1,B4 8 (y15.1 == 0),A7 9 v42,A1 10 3 0] [A6 v51 v52,(1,E3),I6 2 70 v4 y5.1 4 v13 5 v45,(3,J7 y47.1.Kind v53 y47.1.Attrs y47.1.Actions y47.1.Kids),C1 4 159 4 v13,C1 5 70 5 v45] 6)) (fun v51 v52 v53 h => ?_) (fun j48 Aj48 hj48 h => ?_))))))
 refine za [0,1,4,6,7,8,9,10,11] (aR h (fun A j => ∀ v61,j v61 = some r → A (mk [G7,A7 1 p1,H4,O5,A7 7 y14.1,B4 8 (y15.1 == 0),A7 9 v42,A1 10 3 0,B4 11 v61] [A6 v51 v52,(1,E3),I6 2 70 v4 y5.1 4 v13 5 v45,(3,J7 y47.1.Kind v53 y47.1.Attrs y47.1.Actions y47.1.Kids),C1 4 159 4 v13,C1 5 70 5 v45] 6)) (fun v61 h => ?_) (fun j54 Aj54 hj54 h => ?_))
 refine za [0,1,4,6,7,8,9,10,94] (zi h (fun h => ?_) fun h => ?_)
 exact aV (zy fun _ => zk 3 (rF (e := 70) (sz := 5) (len := 1) (r := [I y47.1.Kind,Sx v53,C5 y47.1.Attrs,C6 y47.1.Actions,E6 y47.1.Kids]) (l' := List.map aQ [aN.mk y47.1.Kind v53 y47.1.Attrs y47.1.Actions y47.1.Kids]) (nm := 11) (by kernel_rfl) (by simp only [List.map_cons,List.map_nil,cB]; kernel_rfl) (by kernel_rfl) (by kernel_rfl) rfl rfl rfl (bK h fun l62 he h => cI (enc := aQ) (l := v45) (els := [aN.mk y47.1.Kind v53 y47.1.Attrs y47.1.Actions y47.1.Kids]) (r := l62) (old := some 5) (e := 70) (sz := 5) (bytes := 96) (k := (H6 v45)) (nm := 12) he (by kernel_rfl) (by kernel_rfl) (fun x => by rw [cB]; rfl) (by kernel_rfl) (by kernel_rfl) rfl rfl rfl (zk 2 (bT (dI (zv [(0,0),(1,1),(2,2),(4,3),(12,4)] [0,1,4,6,7,8,9] 5) (hj46 _ _ _ h)))))))
 exact aJ (zv [(0,0),(1,1),(2,2),(4,3),(5,4)] [0,1,4,6,7,8,9] 5) (aD (hj46 _ _ _ h))
 refine za [0,1,4,6,7,8,9,10,11,12] (aI (bB (fun n s => ∃ v56 v57,mR v45 v53 j54 p1 y14 y15 v42 v51 v52 v4 y5 v13 y47 n v56 v57 = some r ∧ s = mk [G7,A7 1 p1,H4,O5,A7 7 y14.1,B4 8 (y15.1 == 0),A7 9 v42,A1 10 3 0,B4 11 v56,A7 12 v57] [A6 v51 v52,(1,E3),I6 2 70 v4 y5.1 4 v13 5 v45,(3,J7 y47.1.Kind v53 y47.1.Attrs y47.1.Actions y47.1.Kids),C1 4 159 4 v13,C1 5 70 5 v45] 6) n _ zI ⟨_,_,h,rfl⟩ (fun s ⟨v56,v57,h,_⟩ => nomatch h) ?_))
 rintro n s ⟨v56,v57,h,rfl⟩
 rw [mR] at h
 refine aM (zx fun _ => zk 3 (zl aQ v45 (zk 1 (ze [0,1,4,6,7,8,9,10,11,12,73] (zi h (fun h => ?_) fun h => ?_)))))
 exact aD (aM (aI (Ov [[],[0],[1,0],[2,1,0],[3,1,2,0],[4,1,3,2,0],[5,4,1,3,2,0],[6,5,4,1,3,2,0],[5,4,1,3,2,0],[7,8,5,6,4,1,3,2,0],[9,5,7,8,6,4,1,3,2,0],[10,5,9,7,8,6,4,1,3,2,0],[5,4,1,3,2,0],[12,5,4,1,3,2,0],[11,13,5,10,9,7,8,6,4,1,3,2,0,12],[5,14,1,4,3,2,0,11,13,10,9,7,8,6,12],[1,15,0,5,14,4,3,2,11,13,10,9,7,8,6,12],[16,5,0,1,2,3,4,6,7,8,9,10,11,12,13,14,15]] fun _ => zk 2 (zq (zq (zq (zF [!v56] (D7 (!(G9 v53))) (zq (zq (zq (bK h fun e58 he h => kX (e := [!v56,!(G9 v53)]) [(83,.c (.app 5 (List.map aQ v45)),some 2),(84,C7 v57,some 2)] (v := .c (F6 e58)) (foot := []) (by kernel_rfl) (by kernel_rfl) (by kernel_rfl) (fun hg => dU (enc := aQ) (sz := 5) (l := v45) (ix := v57) (bQ he hg) (by kernel_rfl) (cB e58) (by kernel_rfl)) rfl rfl (zq (zq (zq (zq (zq (zp (zp (zk 1 (bT (aV (zb (dI zI (⟨_,_,h,rfl⟩))))))))))))))))))))))))
 exact aJ zI (bF (hj54 _ h))
 refine zx fun _ => zk 2 (zq (bK h fun y49 he h => yQ (e := [!(y15.1 == 0)]) [(58,D6 0 0,some 1)] (F := 15) (As := [D6 0 0,.c (I 3)]) (Bs := [D6 0 0,.c (I 3)]) (σ := [(0,0)]) (k := 1) (Gc := [D9 y47.2]) (Gf := [D9 y49.2]) (r := .c (I y49.1)) (v := .c (I y49.1)) (by kernel_rfl) (by kernel_rfl) (by kernel_rfl) (by kernel_rfl) (by kernel_rfl) (by kernel_rfl) cK ⟨.inr ⟨(by kernel_rfl),(by kernel_rfl)⟩,⟨.inl (by kernel_rfl),trivial⟩⟩ (fun hg => bI n _ _ y49 (Vw he hg)) (by kernel_rfl) (by kernel_rfl) (by kernel_rfl) (fun hg => by rw [Vg he hg]; kernel_rfl) (by kernel_rfl) rfl rfl rfl (zq (zp (ze [0,1,4,6,7,8,9,10,61] (zi h (fun h => ?_) fun h => ?_))))))
 exact aV (zy fun _ => zk 1 (bK h fun y50 he h => zo [(0,0)] cK (bI n _ _ y50 he) (zk 3 (zw (v := .c (Sx (dQ [107,IntKind.wrap .u8 (w6 (97 + y50.1))]))) [] (nV (ns := [107,IntKind.wrap .u8 (w6 (97 + y50.1))]) (by kernel_rfl)) (zk 2 (bT (dI (zv [(0,0),(1,1),(2,2),(12,3),(3,4),(4,5)] [0,1,4,6,7,8,9,10] 6) (hj48 _ _ _ h))))))))
 exact aJ (zv [(0,0),(1,1),(2,2),(12,3),(3,4),(4,5)] [0,1,4,6,7,8,9,10] 6) (aD (hj48 _ _ _ h))
 exact aJ zI (bF (hj16 _ _ _ h))
 refine zx fun _ => zk 1 (bK h fun y7 he h => zo [(0,0)] cK (bI n _ _ y7 he) (zk 1 (ze [0,1,4,6,32] (zi h (fun h => ?_) fun h => ?_))))
 exact aV (zy fun _ => zk 1 (bK h fun y8 he h => zo [(0,0)] fok97 (Oj n _ _ y8 he) (rF (e := 152) (sz := 4) (len := 1) (r := [I y8.1.Kind,I y8.1.N,Sx y8.1.S,D8 y8.1.L]) (l' := List.map aT [y8.1]) (nm := 14) (by kernel_rfl) (by simp only [List.map_cons,List.map_nil,eE]; kernel_rfl) (by kernel_rfl) (by kernel_rfl) rfl rfl rfl (zk 4 (bT (dI (zv [(0,0),(1,1),(2,2),(16,3)] [0,1,4,6] 4) (hj6 _ _ _ h)))))))
 exact aJ (dZ.trans (lZ (n := 2) (T0 := 70) (l := [I v4,Sx nB,C5 y5.1,bV,bV]) (G2 := [D9 y7.2,(1,E3),(2,.blk 70 [I v4,Sx nB,C5 y5.1,.app 12 (List.map aC ([] : List cS)),bV]),(12,.tok 159 4 (List.length ([] : List cS)))]) (lim2 := 13) 3 159 4 (by kernel_rfl) (by kernel_rfl) (by kernel_rfl) (by kernel_rfl)) (zv [(0,0),(1,1),(2,2),(12,3)] [0,1,4,6] 4)) (aD (hj6 _ _ _ h))
 refine za [0,1,4,6,23] (zi h (fun h => ?_) fun h => ?_)
 exact aV (zb (dI (zv [(0,0),(1,1),(12,2)] [0,1,4,6] 3) (hj3 _ h)))
 exact aJ (zv [(0,0),(1,1),(12,2)] [0,1,4,6] 3) (aD (hj3 _ h))
def pR : Nat → aW → Int → Option (aN × aW)
 | 0,_,_ => none
 | n + 1,p0,p1 => qJ (fun a0 a1 => pR n a0 a1) n p0 p1
theorem Ej (n : Nat) : (∀ (p0 : aW) (p1 : Int) (r : (aN × aW)),pR n p0 p1 = some r → dC E 58 1 (Q6 p1) [D9 p0] (A9 r.1) [D9 r.2]) := by
 induction n with
 | zero => intro p0 p1 r h; rw [pR] at h; cases h
 | succ n ih => intro p0 p1 r h; rw [pR] at h; exact De _ ih n _ _ r h
def rV (p0 : ByteArray) (j1 : Unit → Option Bool) : Nat → Int → Option Bool
 | 0,_ => none
 | n + 1,v3 => (if (decide (v3 < (ByteArray.size p0 : Int))) = true then (Ae p0 v3).bind fun u4 => (if ((((((decide (u4 < 97)) || (decide (u4 > 122))) && ((decide (u4 < 65)) || (decide (u4 > 90)))) && ((decide (u4 < 48)) || (decide (u4 > 57)))) && (u4 != 45)) && (u4 != 95)) = true then some false else rV p0 j1 n (w6 (v3 + 1))) else j1 ())
def Cv (n : Nat) (p0 : ByteArray) : Option Bool := (aS (fun (_ : Unit) => some (decide ((ByteArray.size p0 : Int) ≤ 24))) (fun (j1 : Unit → Option Bool) => rV p0 j1 n 0))
theorem Oi (n : Nat) (p0 : ByteArray) (r : Bool) (h : Cv n p0 = some r) : dC E 134 0 [G0 p0] [] (D7 r) [] := by
 refine eO Tryz.func134 rfl ?_
 unfold Cv at h
 refine za [0] (aR h (fun A j => ∀ u,j u = some r → A (mk [(0,G0 p0)] [] 0)) (fun u h => ?_) (fun j1 Aj1 hj1 h => ?_))
 refine za [2] ?_
 cases h
 exact aG zr
 refine za [0,3] (aI (bB (fun n s => ∃ v3,rV p0 j1 n v3 = some r ∧ s = mk [(0,G0 p0),A7 3 v3] [] 0) n _ zI ⟨_,h,rfl⟩ (fun s ⟨v3,h,_⟩ => nomatch h) ?_))
 rintro n s ⟨v3,h,rfl⟩
 rw [rV] at h
 refine aM (za [0,3,8] (zi h (fun h => ?_) fun h => ?_))
 refine aD (aM (aI (zx fun _ => zk 2 (bK h fun u4 he h => zs he (zk 1 (ze [0,3,4] (zx fun _ => zk 3 (zq (zq (zp (zk 1 (zq (zq (zF [H7 u4] (D7 (D4 u4 65)) (zq (zq (zp (zp (zk 1 (zq (zq (zF [(H7 u4) && (L8 u4)] (D7 (Q2 u4)) (zq (zq (zp (zp (Ry 1 (L' := [(0,G0 p0),A7 3 v3,(4,P0 u4),(14,P0 u4),B4 15 (D4 u4 97),B4 16 (D4 u4 97),(17,.cnd [!(D4 u4 97)] (P0 u4)),(18,.cnd [!(D4 u4 97)] (D7 (F2 u4 122))),B4 19 (H7 u4),B4 20 (H7 u4),(21,.cnd [H7 u4] (P0 u4)),(22,.cnd [H7 u4] (D7 (D4 u4 65))),(23,.cnd [H7 u4] (D7 (D4 u4 65))),(24,.cnd [H7 u4,!(D4 u4 65)] (P0 u4)),(25,.cnd [H7 u4,!(D4 u4 65)] (D7 (F2 u4 90))),(26,.cnd [H7 u4] (D7 (L8 u4))),B4 27 ((H7 u4) && (L8 u4)),B4 28 ((H7 u4) && (L8 u4)),(29,.cnd [(H7 u4) && (L8 u4)] (P0 u4)),(30,.cnd [(H7 u4) && (L8 u4)] (D7 (Q2 u4))),(31,.cnd [(H7 u4) && (L8 u4)] (D7 (Q2 u4))),(32,.cnd [(H7 u4) && (L8 u4),!(Q2 u4)] (P0 u4)),(33,.cnd [(H7 u4) && (L8 u4),!(Q2 u4)] (D7 (F2 u4 57))),(34,.cnd [(H7 u4) && (L8 u4)] (D7 (B0 u4 48 57))),B4 35 (((H7 u4) && (L8 u4)) && (B0 u4 48 57)),B4 36 (((H7 u4) && (L8 u4)) && (B0 u4 48 57))]) (G' := []) (X' := []) (zq ?_))))))))))))))))))))))))))))
 refine zq (zp (zk 1 (zq (zq (zP (.bool (((((H7 u4) && (L8 u4)) && (B0 u4 48 57)) && (u4 != 45)) && (u4 != 95))) (ze [0,3,43] (zi h (fun h => ?_) fun h => ?_)))))))
 refine za [2] ?_
 cases h
 exact aG zr
 exact aD (aV (zb (dI zI (⟨_,h,rfl⟩))))
 exact aJ zI (bF (hj1 _ h))
def yR (n : Nat) (p0 : ByteArray) : Option Bool := (Cv n p0).bind fun y1 => some y1
theorem Nw (n : Nat) (p0 : ByteArray) (r : Bool) (h : yR n p0 = some r) : dC E 123 0 [G0 p0] [] (D7 r) [] := by
 refine eO Tryz.func123 rfl ?_
 unfold yR at h
 refine za [0] (zx fun _ => zk 1 (bK h fun y1 he h => zc fok134 (Oi n _ y1 he) (zk 1 (ze [2] ?_))))
 cases h
 exact aG zr
def nN (n : Nat) (p0 : Int) : Option Bool := some (((decide (p0 ≥ 97)) && (decide (p0 ≤ 122))) || ((decide (p0 ≥ 65)) && (decide (p0 ≤ 90))))
theorem wG (n : Nat) (p0 : Int) (r : Bool) (h : nN n p0 = some r) : dC E 127 0 [P0 p0] [] (D7 r) [] := by
 refine eO Tryz.func127 rfl ?_
 unfold nN at h
 refine za [0] (zx fun _ => zk 3 (zq (zq (zp (zk 1 (zq (zq (zF [!((P9 p0 97) && (Q0 p0 122))] (D7 (P9 p0 65)) (zq (zq (zp (zp (zk 1 (kS [2] (L2 := [B4 2 (F0 p0)]) (G2 := []) 16 ?_))))))))))))))
 cases h
 exact aG zr
def hZ (p0 : ByteArray) (j3 : Unit → Option Bool) : Nat → Int → Option Bool
 | 0,_ => none
 | n + 1,v10 => (if (decide (v10 < (ByteArray.size p0 : Int))) = true then (Ae p0 v10).bind fun u11 => (nN n u11).bind fun y12 => (gd [(!y12)] (Ae p0 v10)).bind fun u13 => (gd [(!y12),(!(decide (u13 < 48)))] (Ae p0 v10)).bind fun u14 => (gd [((!y12) && ((decide (u13 < 48)) || (decide (u14 > 57))))] (Ae p0 v10)).bind fun u15 => (gd [(((!y12) && ((decide (u13 < 48)) || (decide (u14 > 57)))) && (u15 != 45))] (Ae p0 v10)).bind fun u16 => (if ((((!y12) && ((decide (u13 < 48)) || (decide (u14 > 57)))) && (u15 != 45)) && (u16 != 95)) = true then some false else hZ p0 j3 n (w6 (v10 + 1))) else j3 ())
def eD (n : Nat) (p0 : ByteArray) : Option Bool := (gd [(!((decide ((ByteArray.size p0 : Int) < 1)) || (decide ((ByteArray.size p0 : Int) > 24))))] (Ae p0 0)).bind fun u1 => (gd [(!((decide ((ByteArray.size p0 : Int) < 1)) || (decide ((ByteArray.size p0 : Int) > 24))))] (nN n u1)).bind fun y2 => (if (((decide ((ByteArray.size p0 : Int) < 1)) || (decide ((ByteArray.size p0 : Int) > 24))) || (!y2)) = true then some false else (aS (fun (_ : Unit) => some true) (fun (j3 : Unit → Option Bool) => hZ p0 j3 n 1)))
theorem kP (n : Nat) (p0 : ByteArray) (r : Bool) (h : eD n p0 = some r) : dC E 108 0 [G0 p0] [] (D7 r) [] := by
 refine eO Tryz.func108 rfl ?_
 unfold eD at h
 refine za [0] (aM (zx fun _ => zk 4 (zq (zq (zq (zp (zk 1 (zq (bK h fun u1 he h => kX (e := [(!((decide ((ByteArray.size p0 : Int) < 1)) || (decide ((ByteArray.size p0 : Int) > 24))))]) [(13,G0 p0,some 1)] (v := .c (U8 u1)) (foot := []) (by kernel_rfl) (by kernel_rfl) (by kernel_rfl) (fun hg => yO (s := p0) (ix := 0) (bQ he hg) (by kernel_rfl)) rfl rfl (bK h fun y2 he h => yW [(!((decide ((ByteArray.size p0 : Int) < 1)) || (decide ((ByteArray.size p0 : Int) > 24))))] Zc (fun hg => wG n _ y2 (bQ he hg)) (zq (zp (kS [0,17] (L2 := [(0,G0 p0),(17,.c (Bo (((decide ((ByteArray.size p0 : Int) < 1)) || (decide ((ByteArray.size p0 : Int) > 24))) || (!y2))))]) (G2 := []) 15 (zi h (fun h => ?_) fun h => ?_))))))))))))))
 refine za [2] ?_
 cases h
 exact aG zr
 refine aD (aR h (fun A j => ∀ u,j u = some r → A (M5)) (fun u h => ?_) (fun j3 Aj3 hj3 h => ?_))
 refine za [2] ?_
 cases h
 exact aG zr
 refine za [0,3] (aI (bB (fun n s => ∃ v10,hZ p0 j3 n v10 = some r ∧ s = mk [(0,G0 p0),A7 3 v10] [] 0) n _ zI ⟨_,h,rfl⟩ (fun s ⟨v10,h,_⟩ => nomatch h) ?_))
 rintro n s ⟨v10,h,rfl⟩
 rw [hZ] at h
 refine aM (za [0,3,21] (zi h (fun h => ?_) fun h => ?_))
 refine aD (aM (aI (zx fun _ => zk 2 (bK h fun u11 he h => zs he (bK h fun y12 he h => zc Zc (wG n _ y12 he) (zk 2 (zq (zq (bK h fun u13 he h => kX (e := [!y12]) [(30,G0 p0,some 1),(31,C7 v10,some 1)] (v := .c (U8 u13)) (foot := []) (by kernel_rfl) (by kernel_rfl) (by kernel_rfl) (fun hg => yO (s := p0) (ix := v10) (bQ he hg) (by kernel_rfl)) rfl rfl (zq (zF [!y12] (D7 (Q2 u13)) (zq (zq (bK h fun u14 he h => kX (e := [!y12,!(Q2 u13)]) [(35,G0 p0,some 2),(36,C7 v10,some 2)] (v := .c (U8 u14)) (foot := []) (by kernel_rfl) (by kernel_rfl) (by kernel_rfl) (fun hg => yO (s := p0) (ix := v10) (bQ he hg) (by kernel_rfl)) rfl rfl (zq (zp (zp (zk 1 (zq (zq (bK h fun u15 he h => kX (e := [(!y12) && ((Q2 u13) || (F2 u14 57))]) [(42,G0 p0,some 1),(43,C7 v10,some 1)] (v := .c (U8 u15)) (foot := []) (by kernel_rfl) (by kernel_rfl) (by kernel_rfl) (fun hg => yO (s := p0) (ix := v10) (bQ he hg) (by kernel_rfl)) rfl rfl (zq (zp (Ry 1 (L' := [(0,G0 p0),A7 3 v10,(21,.c (Bo (decide (v10 < (ByteArray.size p0 : Int))))),(24,G0 p0),A7 25 v10,(26,P0 u11),B4 27 y12,B4 28 (!y12),B4 29 (!y12),(30,.cnd [!y12] (G0 p0)),(31,.cnd [!y12] (C7 v10)),(32,.cnd [!y12] (P0 u13)),(33,.cnd [!y12] (D7 (Q2 u13))),(34,.cnd [!y12] (D7 (Q2 u13))),(35,.cnd [!y12,!(Q2 u13)] (G0 p0)),(36,.cnd [!y12,!(Q2 u13)] (C7 v10)),(37,.cnd [!y12,!(Q2 u13)] (P0 u14)),(38,.cnd [!y12,!(Q2 u13)] (D7 (F2 u14 57))),(39,.cnd [!y12] (D7 ((Q2 u13) || (F2 u14 57)))),B4 40 ((!y12) && ((Q2 u13) || (F2 u14 57))),B4 41 ((!y12) && ((Q2 u13) || (F2 u14 57))),(42,.cnd [(!y12) && ((Q2 u13) || (F2 u14 57))] (G0 p0)),(43,.cnd [(!y12) && ((Q2 u13) || (F2 u14 57))] (C7 v10)),(44,.cnd [(!y12) && ((Q2 u13) || (F2 u14 57))] (P0 u15)),(45,.cnd [(!y12) && ((Q2 u13) || (F2 u14 57))] (D7 (u15 != 45))),B4 46 (((!y12) && ((Q2 u13) || (F2 u14 57))) && (u15 != 45)),B4 47 (((!y12) && ((Q2 u13) || (F2 u14 57))) && (u15 != 45))]) (G' := []) (X' := []) (zq (zq (bK h fun u16 he h => kX (e := [((!y12) && ((Q2 u13) || (F2 u14 57))) && (u15 != 45)]) [(48,G0 p0,some 1),(49,C7 v10,some 1)] (v := .c (U8 u16)) (foot := []) (by kernel_rfl) (by kernel_rfl) (by kernel_rfl) (fun hg => yO (s := p0) (ix := v10) (bQ he hg) (by kernel_rfl)) rfl rfl (zq (zp ?_)))))))))))))))))))))))))))))
 refine ze [0,3,52] (zi h (fun h => ?_) fun h => ?_)
 refine za [2] ?_
 cases h
 exact aG zr
 exact aD (aV (zb (dI zI (⟨_,h,rfl⟩))))
 exact aJ zI (bF (hj3 _ h))
def sM (n : Nat) (p0 : ByteArray) : Option Bool := (Da p0).bind fun l1 => some (bP (runesBytes l1) p0)
theorem Ke (n : Nat) (p0 : ByteArray) (r : Bool) (h : sM n p0 = some r) : dC E 145 0 [G0 p0] [] (D7 r) [] := by
 refine eO Tryz.func145 rfl ?_
 unfold sM at h
 refine za [0] (zx fun _ => zk 1 (bK h fun l1 he h => rx_O (v := .c (Q7 l1)) (foot := []) (Mg (s := p0) he (by kernel_rfl)) (by kernel_rfl) rfl rfl (zw (v := .c (Sx (runesBytes l1))) [] (tU (ns := l1) (by kernel_rfl)) (zk 3 (ze [2] ?_)))))
 cases h
 exact aG zr
end Go.Proofs.YtojkihhnioeggaaGreatDoor.S
