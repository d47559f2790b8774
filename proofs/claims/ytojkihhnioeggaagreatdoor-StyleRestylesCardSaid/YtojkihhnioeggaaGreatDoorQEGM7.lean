import Derived.Test.YtojkihhnioeggaaGreatDoorQEGM6
set_option linter.all false
set_option maxRecDepth 100000
set_option maxHeartbeats 4000000
namespace Go.Proofs.YtojkihhnioeggaaGreatDoor.S
open Go Go.Bm
def cH (p1 : Int) (p3 : bM) (j35 : List Int → Option (List Int)) (p2 : Int) (v33 : Int) : Nat → Int → List Int → Option (List Int)
 | 0,_,_ => none
 | n + 1,v49,v50 => (gd [(decide (v49 > p1))] (rL v49 (List.length v50))).bind fun k51 => (gd [(decide (v49 > p1))] (v50[k51]?)).bind fun e52 => (gd [(decide (v49 > p1))] (rL (w6 (v49 - 1)) (List.length v50))).bind fun k53 => (gd [(decide (v49 > p1))] (v50[k53]?)).bind fun e54 => (gd [(decide (v49 > p1))] (lU n e52 e54 p3)).bind fun y55 => (if ((decide (v49 > p1)) && (decide (y55 < 0))) = true then (rL (w6 (v49 - 1)) (List.length v50)).bind fun k56 => (v50[k56]?).bind fun e57 => (rL v49 (List.length v50)).bind fun k58 => (v50[k58]?).bind fun e59 => (rL v49 (List.length v50)).bind fun k60 => (v50[k60]?).bind fun e61 => (rL (w6 (v49 - 1)) (List.length (List.set v50 k60 e57))).bind fun k62 => ((List.set v50 k60 e57)[k62]?).bind fun e63 => cH p1 p3 j35 p2 v33 n (w6 (v49 - 1)) (List.set (List.set v50 k60 e57) k62 e59) else j35 v50)
def cG (p2 : Int) (p1 : Int) (p3 : bM) : Nat → Int → List Int → Option (List Int)
 | 0,_,_ => none
 | n + 1,v33,v34 => (if (decide (v33 < p2)) = true then (aS (fun (v66 : List Int) => cG p2 p1 p3 n (w6 (v33 + 1)) v66) (fun (j35 : List Int → Option (List Int)) => cH p1 p3 j35 p2 v33 n v33 v34)) else some v34)
def cP (n : Nat) (p0 : (List Int)) (p1 : Int) (p2 : Int) (p3 : bM) : Option (List Int) := cG p2 p1 p3 n (w6 (p1 + 1)) p0
theorem jG (n : Nat) (p0 : (K4)) (p1 : Int) (p2 : Int) (p3 : bM) (r : (K4)) (h : cP n p0 p1 p2 p3 = some r) : dC E 102 1 [J9 0,C7 p1,C7 p2,I3 p3.Rules] [P3 p0] (.tup []) [P3 r] := by
 refine eO Tryz.func102 rfl ?_
 unfold cP at h
 refine za [0,1,2,3,8] (aI (bB (fun n s => ∃ v33 v34,cG p2 p1 p3 n v33 v34 = some r ∧ s = mk [R6,A7 1 p1,A7 2 p2,(3,I3 p3.Rules),A7 8 v33] [P3 v34] 1) n _ zI ⟨_,_,h,rfl⟩ (fun s ⟨v33,v34,h,_⟩ => nomatch h) ?_))
 rintro n s ⟨v33,v34,h,rfl⟩
 rw [cG] at h
 refine aM (za [0,1,2,3,8,14] (zi h (fun h => ?_) fun h => ?_))
 refine aD (aR h (fun A j => ∀ v66,j v66 = some r → A (mk [R6,A7 1 p1,A7 2 p2,(3,I3 p3.Rules),A7 8 v33] [P3 v66] 1)) (fun v66 h => ?_) (fun j35 Aj35 hj35 h => ?_))
 exact aV (zb (dI zI (⟨_,_,h,rfl⟩)))
 refine aI (za [0,1,2,3,8,9] (aI (bB (fun n s => ∃ v49 v50,cH p1 p3 j35 p2 v33 n v49 v50 = some r ∧ s = mk [R6,A7 1 p1,A7 2 p2,(3,I3 p3.Rules),A7 8 v33,A7 9 v49] [P3 v50] 1) n _ zI ⟨_,_,h,rfl⟩ (fun s ⟨v49,v50,h,_⟩ => nomatch h) ?_)))
 rintro n s ⟨v49,v50,h,rfl⟩
 rw [cH] at h
 refine aM (vK [[],[],[0,1],[2,0,1],[3,2,0,1],[3,2,0,1],[3,2,0,1],[5,6,3,2,0,1],[7,3,5,6,2,0,1],[3,2,0,1],[3,2,0,1],[10,3,2,0,1],[9,11,3,2,0,1,10],[12,3,9,11,2,0,1,10],[4,8,13,3,2,0,1,7,5,6,12,9,11,10],[14,3,4,8,13,2,0,1,7,5,6,12,9,11,10],[3,15,2,0,1,14,4,8,13,7,5,6,12,9,11,10]] fun _ => zk 4 (zq (zq (zq (bK h fun k51 he h => kX (e := [F2 v49 p1]) [(23,J9 0,some 1),(24,C7 v49,some 1)] (v := .c (.ptr 0 (k51 * 1))) (foot := [0]) (by kernel_rfl) (by kernel_rfl) (by kernel_rfl) (fun hg => jL (enc := aL) (l := v50) (n := 0) (sz := 1) (k := k51) (ix := v49) (bQ he hg) (by kernel_rfl)) rfl rfl (bK h fun e52 he h => wH (e := [F2 v49 p1]) [(25,.c (.ptr 0 (k51 * 1)),some 1)] (v := .c (I e52)) (foot := [0]) (by kernel_rfl) (by kernel_rfl) (by kernel_rfl) (fun hg => rW (enc := aL) (l := v50) (n := 0) (q := k51) (f := 0) (sz := 1) (e := e52) (j := ⟨.int .i64,1,8,[.int .i64 0]⟩) (bQ he hg) (by kernel_rfl) (by kernel_rfl)) rfl rfl (zq (zq (zq (bK h fun k53 he h => kX (e := [F2 v49 p1]) [(27,J9 0,some 1),(29,C7 (w6 (v49 - 1)),some 1)] (v := .c (.ptr 0 (k53 * 1))) (foot := [0]) (by kernel_rfl) (by kernel_rfl) (by kernel_rfl) (fun hg => jL (enc := aL) (l := v50) (n := 0) (sz := 1) (k := k53) (ix := (w6 (v49 - 1))) (bQ he hg) (by kernel_rfl)) rfl rfl (bK h fun e54 he h => wH (e := [F2 v49 p1]) [(30,.c (.ptr 0 (k53 * 1)),some 1)] (v := .c (I e54)) (foot := [0]) (by kernel_rfl) (by kernel_rfl) (by kernel_rfl) (fun hg => rW (enc := aL) (l := v50) (n := 0) (q := k53) (f := 0) (sz := 1) (e := e54) (j := ⟨.int .i64,1,8,[.int .i64 0]⟩) (bQ he hg) (by kernel_rfl) (by kernel_rfl)) rfl rfl (bK h fun y55 he h => rx_EO (e := [F2 v49 p1]) [(22,I3 p3.Rules,some 1),(26,C7 e52,some 1),(31,C7 e54,some 1)] (v := .c (I y55)) (foot := []) (by kernel_rfl) (by kernel_rfl) (by kernel_rfl) (fun hg => Lk (F := 38) (As := [C7 e52,C7 e54,.c (.imm [C4 p3.Rules])]) (Bs := [C7 e52,C7 e54,.c (.imm [C4 p3.Rules])]) (r := .c (I y55)) (v := .c (I y55)) (by kernel_rfl) fok38 (by kernel_rfl) (zT n _ _ _ y55 (bQ he hg)) (by kernel_rfl)) rfl rfl (zq (zp (kS [0,1,2,3,8,9,34] (L2 := [R6,A7 1 p1,A7 2 p2,(3,I3 p3.Rules),A7 8 v33,A7 9 v49,B4 34 ((F2 v49 p1) && (D4 y55 0))]) (G2 := [P3 v50]) 18 (zi h (fun h => ?_) fun h => ?_))))))))))))))))
 refine aD (aM (aI (Ov [[],[],[],[],[3],[],[],[6],[5,7,6],[8,5,7,6],[],[],[10,11],[12,10,11],[0,1,5,6,7,8,9,13,12,10,11],[14,9,0,1,5,6,7,8,13,12,10,11],[2,4,0,1,3,5,6,7,8,9,10,11,12,13,14,15],[16,13,15,0,1,2,3,4,5,6,7,8,9,10,11,12,14]] fun _ => zk 8 (bK h fun k56 he h => cY (v := .c (.ptr 0 (k56 * 1))) (foot := [0]) (jL (enc := aL) (l := v50) (n := 0) (sz := 1) (k := k56) (ix := (w6 (v49 - 1))) he (by kernel_rfl)) (by kernel_rfl) rfl rfl ?_))))
 have hb_k56 := iD he
 refine bK h fun e57 he h => zw (v := .c (I e57)) [0] (rW (enc := aL) (l := v50) (n := 0) (q := k56) (f := 0) (sz := 1) (e := e57) (j := ⟨.int .i64,1,8,[.int .i64 0]⟩) he (by kernel_rfl) (by kernel_rfl)) (zk 2 (bK h fun k58 he h => cY (v := .c (.ptr 0 (k58 * 1))) (foot := [0]) (jL (enc := aL) (l := v50) (n := 0) (sz := 1) (k := k58) (ix := v49) he (by kernel_rfl)) (by kernel_rfl) rfl rfl ?_))
 have hb_k58 := iD he
 refine bK h fun e59 he h => zw (v := .c (I e59)) [0] (rW (enc := aL) (l := v50) (n := 0) (q := k58) (f := 0) (sz := 1) (e := e59) (j := ⟨.int .i64,1,8,[.int .i64 0]⟩) he (by kernel_rfl) (by kernel_rfl)) (bK h fun k60 he h => cY (v := .c (.ptr 0 (k60 * 1))) (foot := [0]) (jL (enc := aL) (l := v50) (n := 0) (sz := 1) (k := k60) (ix := v49) he (by kernel_rfl)) (by kernel_rfl) rfl rfl ?_)
 have hb_k60 := iD he
 refine bK h fun e61 he h => nJ (enc := aL) (n := 0) (q := k60) (f := 0) (sz := 1) (T0 := 3) (lp := [I e57]) (l := v50) (e := e61) (e2 := e57) he (by kernel_rfl) (by simp only [List.length_cons,List.length_nil]; omega) (by kernel_rfl) (by kernel_rfl) rfl rfl (bK h fun k62 he h => cY (v := .c (.ptr 0 (k62 * 1))) (foot := [0]) (jL (enc := aL) (l := (List.set v50 k60 e57)) (n := 0) (sz := 1) (k := k62) (ix := (w6 (v49 - 1))) he (by kernel_rfl)) (by kernel_rfl) rfl rfl ?_)
 have hb_k62 := iD he
 exact bK h fun e63 he h => nJ (enc := aL) (n := 0) (q := k62) (f := 0) (sz := 1) (T0 := 3) (lp := [I e59]) (l := (List.set v50 k60 e57)) (e := e63) (e2 := e59) he (by kernel_rfl) (by simp only [List.length_cons,List.length_nil]; omega) (by kernel_rfl) (by kernel_rfl) rfl rfl (bT (aV (zb (dI zI (⟨_,_,h,rfl⟩)))))
 exact aJ zI (bF (hj35 _ h))
 cases h
 exact bF zr
def iX (v15 : Int) (p1 : Int) (j16 : Unit → Option (List Int)) (p2 : bM) (y12 : (List Int)) : Nat → Unit → Option (List Int)
 | 0,_ => none
 | n + 1,_ => (if (decide ((w6 (2 * v15)) ≤ p1)) = true then none else j16 ())
def dB (p1 : Int) (p2 : bM) (y12 : (List Int)) : Nat → Int → Option (List Int)
 | 0,_ => none
 | n + 1,v15 => (if (decide (v15 < p1)) = true then (aS (fun (_ : Unit) => (aS (fun (_ : Unit) => dB p1 p2 y12 n (w6 (v15 * 2))) (fun (j17 : Unit → Option (List Int)) => (if (decide ((w6 (0 + v15)) < p1)) = true then none else j17 ())))) (fun (j16 : Unit → Option (List Int)) => iX v15 p1 j16 p2 y12 n ())) else some y12)
def cT (p1 : Int) (p2 : bM) (j1 : Int → List Int → Option (List Int)) : Nat → Int → Int → List Int → Option (List Int)
 | 0,_,_,_ => none
 | n + 1,v3,v4,v5 => (if (decide (v4 ≤ p1)) = true then (cP n v5 v3 v4 p2).bind fun y6 => cT p1 p2 j1 n v4 (w6 (v4 + 20)) y6 else j1 v3 v5)
def hO (n : Nat) (p0 : (List Int)) (p1 : Int) (p2 : bM) : Option (List Int) := (aS (fun (v10 : Int) (v11 : List Int) => (cP n v11 v10 p1 p2).bind fun y12 => dB p1 p2 y12 n 20) (fun (j1 : Int → List Int → Option (List Int)) => cT p1 p2 j1 n 0 20 p0))
theorem rI (n : Nat) (p0 : (K4)) (p1 : Int) (p2 : bM) (r : (K4)) (h : hO n p0 p1 p2 = some r) : dC E 71 1 [J9 0,C7 p1,I3 p2.Rules] [P3 p0] (.tup []) [P3 r] := by
 refine eO Tryz.func71 rfl ?_
 unfold hO at h
 refine za [0,1,2,6] (za [0,1,2,6,7,8] (aR h (fun A j => ∀ v10 v11,j v10 v11 = some r → A (mk [R6,A7 1 p1,(2,I3 p2.Rules),(6,.c (I 20)),A7 7 v10] [P3 v11] 1)) (fun v10 v11 h => ?_) (fun j1 Aj1 hj1 h => ?_)))
 refine zx fun _ => zk 4 (bK h fun y12 he h => zo [(0,0)] Zf (jG n _ _ _ _ y12 he) (ze [0,1,2,6] (aI (bB (fun n s => ∃ v15,dB p1 p2 y12 n v15 = some r ∧ s = mk [R6,A7 1 p1,(2,I3 p2.Rules),A7 6 v15] [P3 y12] 1) n _ zI ⟨_,h,rfl⟩ (fun s ⟨v15,h,_⟩ => nomatch h) ?_))))
 rintro n s ⟨v15,h,rfl⟩
 rw [dB] at h
 refine aM (za [0,1,2,6,30] (zi h (fun h => ?_) fun h => ?_))
 refine aD (aI (za [0,1,2,6,7,8] (aR h (fun A j => ∀ u,j u = some r → A (mk [R6,A7 1 p1,(2,I3 p2.Rules),A7 6 v15,I4 7] [P3 y12] 1)) (fun u h => ?_) (fun j16 Aj16 hj16 h => ?_))))
 refine aR h (fun A j => ∀ u,j u = some r → A (mk [R6,A7 1 p1,(2,I3 p2.Rules),A7 6 v15] [P3 y12] 1)) (fun u h => ?_) (fun j17 Aj17 hj17 h => ?_)
 exact aV (zb (dI zI (⟨_,h,rfl⟩)))
 refine za [0,1,2,6,7,9] (za [0,1,2,6,7,9,54] (zi h (fun h => ?_) fun h => ?_))
 cases h
 exact aJ zI (aD (hj17 _ h))
 refine aI (bB (fun n s => ∃ u,iX v15 p1 j16 p2 y12 n u = some r ∧ s = mk [R6,A7 1 p1,(2,I3 p2.Rules),A7 6 v15,I4 7,A7 8 (w6 (2 * v15))] [P3 y12] 1) n _ zI ⟨(),h,rfl⟩ (fun s ⟨u,h,_⟩ => nomatch h) ?_)
 rintro n s ⟨u,h,rfl⟩
 rw [iX] at h
 refine aM (za [0,1,2,6,7,8,35] (zi h (fun h => ?_) fun h => ?_))
 refine aD (aI ?_)
 cases h
 exact aJ zI (bF (hj16 _ h))
 cases h
 exact bF zr
 refine aI (bB (fun n s => ∃ v3 v4 v5,cT p1 p2 j1 n v3 v4 v5 = some r ∧ s = mk [R6,A7 1 p1,(2,I3 p2.Rules),(6,.c (I 20)),A7 7 v3,A7 8 v4] [P3 v5] 1) n _ zI ⟨_,_,_,h,rfl⟩ (fun s ⟨v3,v4,v5,h,_⟩ => nomatch h) ?_)
 rintro n s ⟨v3,v4,v5,h,rfl⟩
 rw [cT] at h
 refine aM (za [0,1,2,6,7,8,13] (zi h (fun h => ?_) fun h => ?_))
 exact aD (aI (zx fun _ => zk 4 (bK h fun y6 he h => zo [(0,0)] Zf (jG n _ _ _ _ y6 he) (ze [0,1,2,6,8] (za [0,1,2,6,7,8] (aV (zb (dI zI (⟨_,_,_,h,rfl⟩)))))))))
 exact aJ zI (bF (hj1 _ _ h))
def dP (n : Nat) (p0 : (List Int)) (p1 : bM) : Option (List Int) := (hO n p0 (List.length p0 : Int) p1).bind fun y1 => some y1
theorem pO (n : Nat) (p0 : (K4)) (p1 : bM) (r : (K4)) (h : dP n p0 p1 = some r) : dC E 37 1 [J9 0,I3 p1.Rules] [P3 p0] (.tup []) [P3 r] := by
 refine eO Tryz.func37 rfl ?_
 unfold dP at h
 refine zy fun _ => zk 2 (cY (v := .c (I (List.length p0 : Int))) (foot := [0]) (Fu (enc := aL) (l := p0) (n := 0) (by kernel_rfl)) (by kernel_rfl) rfl rfl (zk 1 (bK h fun y1 he h => zo [(0,0)] fok71 (rI n _ _ _ y1 he) (bT ?_))))
 cases h
 exact zr
def vG (n : Nat) (p0 : bA) : Option ((List (Int × aU)) × Bool) := (nG n p0).bind fun y1 => some (y1.1,(y1.2.2 == 0))
theorem Kr (n : Nat) (p0 : bA) (r : ((M3) × Bool)) (h : vG n p0 = some r) : dC E 73 0 [B5 p0] [] (.tup [O4 r.1,D7 r.2]) [] := by
 refine eO Tryz.func73 rfl ?_
 unfold vG at h
 refine za [1] (zx fun _ => zk 1 (bK h fun y1 he h => zc fok57 (wM n _ y1 he) (zk 8 (ze [4,6] (za [2,3] ?_)))))
 cases h
 exact aG zr
def qD (n : Nat) (p0 : bA) : Option (List Int) := (vG n p0).bind fun y1 => (if (!y1.2) = true then some ([] : List Int) else (fN n y1.1 p0.Root).bind fun y2 => some y2)
theorem zD (n : Nat) (p0 : bA) (r : (K4)) (h : qD n p0 = some r) : dC E 41 0 [B5 p0] [] (.c (C2 r)) [] := by
 refine eO Tryz.func41 rfl ?_
 unfold qD at h
 refine za [1] (zx fun _ => zk 1 (bK h fun y1 he h => zc fok73 (Kr n _ y1 he) (zk 5 (ze [1,3,4] (aM (za [1,3,11] (zi h (fun h => ?_) fun h => ?_)))))))
 refine za [2] ?_
 cases h
 exact aG zr
 refine aD (zx fun _ => zk 3 (bK h fun y2 he h => zc fok74 (uP n _ _ y2 he) (zk 1 (ze [2] ?_))))
 cases h
 exact aG zr
def jI (p1 : cM) (p0 : fO) (j1 : Unit → Option Bool) : Nat → Bool → Int → Int → Int → ByteArray → List bJ → List cS → List Int → Option Bool
 | 0,_,_,_,_,_,_,_,_ => none
 | n + 1,v6,v7,v8,v9,v10,v11,v12,v13 => (if v6 = true then (gd [((p1.UnderKind == 0) || (v9 == p1.UnderKind)),(!(bP p1.UnderClass nB))] (some (cZ v7 p0.class_,iG v7 p0.class_))).bind fun y14 => (if (((p1.UnderKind == 0) || (v9 == p1.UnderKind)) && ((bP p1.UnderClass nB) || (bP y14.1 p1.UnderClass))) = true then some true else (some (cZ v8 p0.nodes,iG v8 p0.nodes)).bind fun y15 => jI p1 p0 j1 n y15.2 y15.1.ID y15.1.Parent y15.1.Kind y15.1.Key y15.1.Attrs y15.1.Actions y15.1.Kids) else j1 ())
def oM (n : Nat) (p0 : fO) (p1 : cM) (p2 : Int) : Option Bool := (if ((p1.UnderKind == 0) && (bP p1.UnderClass nB)) = true then some true else (aS (fun (_ : Unit) => some false) (fun (j1 : Unit → Option Bool) => (some (cZ p2 p0.nodes,iG p2 p0.nodes)).bind fun y2 => (some (cZ y2.1.Parent p0.nodes,iG y2.1.Parent p0.nodes)).bind fun y3 => jI p1 p0 j1 n y3.2 y3.1.ID y3.1.Parent y3.1.Kind y3.1.Key y3.1.Attrs y3.1.Actions y3.1.Kids)))
theorem He (n : Nat) (p0 : fO) (p1 : cM) (p2 : Int) (r : Bool) (h : oM n p0 p1 p2 = some r) : dC E 86 0 [K0 p0,E0 p1,C7 p2] [] (D7 r) [] := by
 refine eO Tryz.func86 rfl ?_
 unfold oM at h
 refine za [2,3,4] (aM (zx fun _ => zk 4 (zq (zq (zq (zn (L2 := [A7 2 p2,I8,H4,A1 9 1 3,A7 10 p1.UnderKind,B4 11 (p1.UnderKind == 0),B4 12 (p1.UnderKind == 0),(13,.cnd [p1.UnderKind == 0] (D6 1 4)),(14,.cnd [p1.UnderKind == 0] (G0 p1.UnderClass)),(15,.cnd [p1.UnderKind == 0] (D7 (G9 p1.UnderClass)))]) (G2 := [M8 p0,K7 1 p1]) (X2 := []) (zp (ze [2,3,4,16] (zi h (fun h => ?_) fun h => ?_)))))))))
 refine za [6] ?_
 cases h
 exact aG zr
 refine aD (aR h (fun A j => ∀ u,j u = some r → A (M5)) (fun u h => ?_) (fun j1 Aj1 hj1 h => ?_))
 refine za [6] ?_
 cases h
 exact aG zr
 refine zx fun _ => zk 5 (bK h fun y2 he h => zw (v := .agg [I y2.1.ID,I y2.1.Parent,I y2.1.Kind,Sx y2.1.Key,C5 y2.1.Attrs,C6 y2.1.Actions,C2 y2.1.Kids]) [] (cW (kf := (B6)) (enc := aE) (l := p0.nodes) (k := p2) (ok := false) (kk := .int .i64) (j := ⟨.st [(3,0,1),(3,1,1),(3,2,1),(9,3,1),(55,4,1),(56,5,1),(22,6,1)],7,112,[.int .i64 0,.int .i64 0,.int .i64 0,.string ⟨#[]⟩,.slice none 0 0,.slice none 0 0,.slice none 0 0]⟩) (p := y2) (v := .agg [I y2.1.ID,I y2.1.Parent,I y2.1.Kind,Sx y2.1.Key,C5 y2.1.Attrs,C6 y2.1.Actions,C2 y2.1.Kids]) he (by kernel_rfl) eQ (by kernel_rfl) (by kernel_rfl) (by kernel_rfl)) (zk 1 (bK h fun y3 he h => zw (v := .tup [B2 y3.1,D7 y3.2]) [] (cW (kf := (B6)) (enc := aE) (l := p0.nodes) (k := y2.1.Parent) (ok := true) (kk := .int .i64) (j := ⟨.st [(3,0,1),(3,1,1),(3,2,1),(9,3,1),(55,4,1),(56,5,1),(22,6,1)],7,112,[.int .i64 0,.int .i64 0,.int .i64 0,.string ⟨#[]⟩,.slice none 0 0,.slice none 0 0,.slice none 0 0]⟩) (p := y3) (v := .agg [I y3.1.ID,I y3.1.Parent,I y3.1.Kind,Sx y3.1.Key,C5 y3.1.Attrs,C6 y3.1.Actions,C2 y3.1.Kids]) he (by kernel_rfl) eQ (by kernel_rfl) (by kernel_rfl) (by kernel_rfl)) (zn (L2 := [A7 2 p2,I8,H4,B4 16 ((p1.UnderKind == 0) && (G9 p1.UnderClass)),A1 18 0 0,(19,O4 p0.nodes),A1 20 0 0,(21,O4 p0.nodes),A7 22 p2,(23,B2 y2.1),A7 24 y2.1.Parent,(25,.tup [B2 y3.1,D7 y3.2])]) (G2 := [M8 p0,K7 1 p1]) (X2 := []) (zk 6 (ze [3,4,7,8] (aI (bB (fun n s => ∃ v6 v7 v8 v9 v10 v11 v12 v13,jI p1 p0 j1 n v6 v7 v8 v9 v10 v11 v12 v13 = some r ∧ s = mk [I8,H4,A1 7 2 0,B4 8 v6] [M8 p0,K7 1 p1,(2,K5 v7 v8 v9 v10 v11 v12 v13)] 3) n _ (zv [(0,0),(1,1),(22,2)] [3,4,7,8] 3) ⟨_,_,_,_,_,_,_,_,h,rfl⟩ (fun s ⟨v6,v7,v8,v9,v10,v11,v12,v13,h,_⟩ => nomatch h) ?_))))))))
 rintro n s ⟨v6,v7,v8,v9,v10,v11,v12,v13,h,rfl⟩
 rw [jI] at h
 refine aM (za [3,4,7,28] (zi h (fun h => ?_) fun h => ?_))
 refine aD (aM (aI (zx fun _ => zk 4 (zq (zq (zq (zn (L2 := [I8,H4,A1 7 2 0,B4 28 v6,A1 37 1 3,A7 38 p1.UnderKind,B4 39 (p1.UnderKind == 0),B4 40 (p1.UnderKind == 0),(41,.cnd [!(p1.UnderKind == 0)] (D6 2 2)),(42,.cnd [!(p1.UnderKind == 0)] (C7 v9)),(43,.cnd [!(p1.UnderKind == 0)] (D6 1 3))]) (G2 := [M8 p0,K7 1 p1,(2,K5 v7 v8 v9 v10 v11 v12 v13)]) (X2 := []) (zq (zq (zp (zk 1 (zq (zn (L2 := [I8,H4,A1 7 2 0,B4 28 v6,A1 37 1 3,A7 38 p1.UnderKind,B4 39 (p1.UnderKind == 0),B4 40 (p1.UnderKind == 0),(41,.cnd [!(p1.UnderKind == 0)] (D6 2 2)),(42,.cnd [!(p1.UnderKind == 0)] (C7 v9)),(43,.cnd [!(p1.UnderKind == 0)] (D6 1 3)),(44,.cnd [!(p1.UnderKind == 0)] (C7 p1.UnderKind)),(45,.cnd [!(p1.UnderKind == 0)] (D7 (v9 == p1.UnderKind))),B4 46 ((p1.UnderKind == 0) || (v9 == p1.UnderKind)),B4 47 ((p1.UnderKind == 0) || (v9 == p1.UnderKind)),(48,.cnd [(p1.UnderKind == 0) || (v9 == p1.UnderKind)] (D6 1 4))]) (G2 := [M8 p0,K7 1 p1,(2,K5 v7 v8 v9 v10 v11 v12 v13)]) (X2 := []) (zq (zq (zF [(p1.UnderKind == 0) || (v9 == p1.UnderKind)] (D7 (G9 p1.UnderClass)) (zq (zq (zn (L2 := [I8,H4,A1 7 2 0,B4 28 v6,A1 37 1 3,A7 38 p1.UnderKind,B4 39 (p1.UnderKind == 0),B4 40 (p1.UnderKind == 0),(41,.cnd [!(p1.UnderKind == 0)] (D6 2 2)),(42,.cnd [!(p1.UnderKind == 0)] (C7 v9)),(43,.cnd [!(p1.UnderKind == 0)] (D6 1 3)),(44,.cnd [!(p1.UnderKind == 0)] (C7 p1.UnderKind)),(45,.cnd [!(p1.UnderKind == 0)] (D7 (v9 == p1.UnderKind))),B4 46 ((p1.UnderKind == 0) || (v9 == p1.UnderKind)),B4 47 ((p1.UnderKind == 0) || (v9 == p1.UnderKind)),(48,.cnd [(p1.UnderKind == 0) || (v9 == p1.UnderKind)] (D6 1 4)),(49,.cnd [(p1.UnderKind == 0) || (v9 == p1.UnderKind)] (G0 p1.UnderClass)),(50,.cnd [(p1.UnderKind == 0) || (v9 == p1.UnderKind)] (D7 (G9 p1.UnderClass))),(51,.cnd [(p1.UnderKind == 0) || (v9 == p1.UnderKind)] (D7 (G9 p1.UnderClass))),(52,.cnd [(p1.UnderKind == 0) || (v9 == p1.UnderKind),!(G9 p1.UnderClass)] (D6 0 1)),(53,.cnd [(p1.UnderKind == 0) || (v9 == p1.UnderKind),!(G9 p1.UnderClass)] (R2 p0.class_))]) (G2 := [M8 p0,K7 1 p1,(2,K5 v7 v8 v9 v10 v11 v12 v13)]) (X2 := []) (zq (zq (bK h fun y14 he h => wH (e := [(p1.UnderKind == 0) || (v9 == p1.UnderKind),!(G9 p1.UnderClass)]) [(53,R2 p0.class_,some 2),(55,C7 v7,some 2)] (v := .c (Sx y14.1)) (foot := []) (by kernel_rfl) (by kernel_rfl) (by kernel_rfl) (fun hg => cW (kf := (B6)) (enc := eS) (l := p0.class_) (k := v7) (ok := false) (kk := .int .i64) (j := ⟨.str,1,16,[.string ⟨#[]⟩]⟩) (p := y14) (v := .c (Sx y14.1)) (bQ he hg) (by kernel_rfl) eQ (by kernel_rfl) (by kernel_rfl) (by kernel_rfl)) rfl rfl (zq (zq (zn (L2 := [I8,H4,A1 7 2 0,B4 28 v6,A1 37 1 3,A7 38 p1.UnderKind,B4 39 (p1.UnderKind == 0),B4 40 (p1.UnderKind == 0),(41,.cnd [!(p1.UnderKind == 0)] (D6 2 2)),(42,.cnd [!(p1.UnderKind == 0)] (C7 v9)),(43,.cnd [!(p1.UnderKind == 0)] (D6 1 3)),(44,.cnd [!(p1.UnderKind == 0)] (C7 p1.UnderKind)),(45,.cnd [!(p1.UnderKind == 0)] (D7 (v9 == p1.UnderKind))),B4 46 ((p1.UnderKind == 0) || (v9 == p1.UnderKind)),B4 47 ((p1.UnderKind == 0) || (v9 == p1.UnderKind)),(48,.cnd [(p1.UnderKind == 0) || (v9 == p1.UnderKind)] (D6 1 4)),(49,.cnd [(p1.UnderKind == 0) || (v9 == p1.UnderKind)] (G0 p1.UnderClass)),(50,.cnd [(p1.UnderKind == 0) || (v9 == p1.UnderKind)] (D7 (G9 p1.UnderClass))),(51,.cnd [(p1.UnderKind == 0) || (v9 == p1.UnderKind)] (D7 (G9 p1.UnderClass))),(52,.cnd [(p1.UnderKind == 0) || (v9 == p1.UnderKind),!(G9 p1.UnderClass)] (D6 0 1)),(53,.cnd [(p1.UnderKind == 0) || (v9 == p1.UnderKind),!(G9 p1.UnderClass)] (R2 p0.class_)),(54,.cnd [(p1.UnderKind == 0) || (v9 == p1.UnderKind),!(G9 p1.UnderClass)] (D6 2 0)),(55,.cnd [(p1.UnderKind == 0) || (v9 == p1.UnderKind),!(G9 p1.UnderClass)] (C7 v7)),(56,.cnd [(p1.UnderKind == 0) || (v9 == p1.UnderKind),!(G9 p1.UnderClass)] (G0 y14.1)),(57,.cnd [(p1.UnderKind == 0) || (v9 == p1.UnderKind),!(G9 p1.UnderClass)] (D6 1 4)),(58,.cnd [(p1.UnderKind == 0) || (v9 == p1.UnderKind),!(G9 p1.UnderClass)] (G0 p1.UnderClass))]) (G2 := [M8 p0,K7 1 p1,(2,K5 v7 v8 v9 v10 v11 v12 v13)]) (X2 := []) (zq (zp (zp (ze [3,4,7,61] ?_)))))))))))))))))))))))))))))
 refine zi h (fun h => ?_) fun h => ?_
 refine za [6] ?_
 cases h
 exact aG zr
 exact aD (aM (za [3,4,62] (zb (aV (zy fun _ => zk 4 (bK h fun y15 he h => zw (v := .tup [B2 y15.1,D7 y15.2]) [] (cW (kf := (B6)) (enc := aE) (l := p0.nodes) (k := v8) (ok := true) (kk := .int .i64) (j := ⟨.st [(3,0,1),(3,1,1),(3,2,1),(9,3,1),(55,4,1),(56,5,1),(22,6,1)],7,112,[.int .i64 0,.int .i64 0,.int .i64 0,.string ⟨#[]⟩,.slice none 0 0,.slice none 0 0,.slice none 0 0]⟩) (p := y15) (v := .agg [I y15.1.ID,I y15.1.Parent,I y15.1.Kind,Sx y15.1.Key,C5 y15.1.Attrs,C6 y15.1.Actions,C2 y15.1.Kids]) he (by kernel_rfl) eQ (by kernel_rfl) (by kernel_rfl) (by kernel_rfl)) (zn (L2 := [I8,H4,(62,.agg [I v7,I v8,I v9,Sx v10,C5 v11,C6 v12,C2 v13]),A1 7 30 0,A1 30 0 0,(31,O4 p0.nodes),A1 32 30 1,A7 33 v8,(34,.tup [B2 y15.1,D7 y15.2])]) (G2 := [M8 p0,K7 1 p1,(2,K5 v7 v8 v9 v10 v11 v12 v13),(30,K5 v7 v8 v9 v10 v11 v12 v13)]) (X2 := []) (zk 5 (bT (dI (zv [(0,0),(1,1),(30,2)] [3,4,7,8] 3) (⟨_,_,_,_,_,_,_,_,h,rfl⟩)))))))))))
 exact aJ zI (bF (hj1 _ h))
def lV (n : Nat) (p0 : fO) (p1 : cM) (p2 : Int) : Option Bool := (gd [(p1.Kind != 0)] (some (cZ p2 p0.nodes,iG p2 p0.nodes))).bind fun y1 => (gd [(!((p1.Kind != 0) && (p1.Kind != y1.1.Kind))),(!(bP p1.Class nB))] (some (cZ p2 p0.class_,iG p2 p0.class_))).bind fun y2 => (if (((p1.Kind != 0) && (p1.Kind != y1.1.Kind)) || ((!(bP p1.Class nB)) && (!(bP p1.Class y2.1)))) = true then some false else (some (cZ p2 p0.states,iG p2 p0.states)).bind fun y3 => (gd [((oU .i64 y3.1 p1.States) == p1.States)] (oM n p0 p1 p2)).bind fun y4 => some (((oU .i64 y3.1 p1.States) == p1.States) && y4))
theorem Ed (n : Nat) (p0 : fO) (p1 : cM) (p2 : Int) (r : Bool) (h : lV n p0 p1 p2 = some r) : dC E 51 0 [K0 p0,E0 p1,C7 p2] [] (D7 r) [] := by
 refine eO Tryz.func51 rfl ?_
 unfold lV at h
 refine za [2,3,4] (aM (zx fun _ => zk 4 (zq (zq (zq (zn (L2 := [A7 2 p2,I8,H4,A1 7 1 0,A7 8 p1.Kind,B4 9 (p1.Kind != 0),B4 10 (p1.Kind != 0),(11,.cnd [p1.Kind != 0] (D6 1 0)),(12,.cnd [p1.Kind != 0] (C7 p1.Kind)),(13,.cnd [p1.Kind != 0] (D6 0 0))]) (G2 := [M8 p0,K7 1 p1]) (X2 := []) (zq (zq (bK h fun y1 he h => wH (e := [p1.Kind != 0]) [(14,O4 p0.nodes,some 1),(15,C7 p2,some 1)] (v := .agg [I y1.1.ID,I y1.1.Parent,I y1.1.Kind,Sx y1.1.Key,C5 y1.1.Attrs,C6 y1.1.Actions,C2 y1.1.Kids]) (foot := []) (by kernel_rfl) (by kernel_rfl) (by kernel_rfl) (fun hg => cW (kf := (B6)) (enc := aE) (l := p0.nodes) (k := p2) (ok := false) (kk := .int .i64) (j := ⟨.st [(3,0,1),(3,1,1),(3,2,1),(9,3,1),(55,4,1),(56,5,1),(22,6,1)],7,112,[.int .i64 0,.int .i64 0,.int .i64 0,.string ⟨#[]⟩,.slice none 0 0,.slice none 0 0,.slice none 0 0]⟩) (p := y1) (v := .agg [I y1.1.ID,I y1.1.Parent,I y1.1.Kind,Sx y1.1.Key,C5 y1.1.Attrs,C6 y1.1.Actions,C2 y1.1.Kids]) (bQ he hg) (by kernel_rfl) eQ (by kernel_rfl) (by kernel_rfl) (by kernel_rfl)) rfl rfl (zq (zq (zn (L2 := [A7 2 p2,I8,H4,A1 7 1 0,A7 8 p1.Kind,B4 9 (p1.Kind != 0),B4 10 (p1.Kind != 0),(11,.cnd [p1.Kind != 0] (D6 1 0)),(12,.cnd [p1.Kind != 0] (C7 p1.Kind)),(13,.cnd [p1.Kind != 0] (D6 0 0)),(14,.cnd [p1.Kind != 0] (O4 p0.nodes)),(15,.cnd [p1.Kind != 0] (C7 p2)),(16,.cnd [p1.Kind != 0] (B2 y1.1)),(17,.cnd [p1.Kind != 0] (C7 y1.1.Kind)),(18,.cnd [p1.Kind != 0] (D7 (p1.Kind != y1.1.Kind)))]) (G2 := [M8 p0,K7 1 p1]) (X2 := []) (zp (zk 1 (zq (zq (zq (zn (L2 := [A7 2 p2,I8,H4,A1 7 1 0,A7 8 p1.Kind,B4 9 (p1.Kind != 0),B4 10 (p1.Kind != 0),(11,.cnd [p1.Kind != 0] (D6 1 0)),(12,.cnd [p1.Kind != 0] (C7 p1.Kind)),(13,.cnd [p1.Kind != 0] (D6 0 0)),(14,.cnd [p1.Kind != 0] (O4 p0.nodes)),(15,.cnd [p1.Kind != 0] (C7 p2)),(16,.cnd [p1.Kind != 0] (B2 y1.1)),(17,.cnd [p1.Kind != 0] (C7 y1.1.Kind)),(18,.cnd [p1.Kind != 0] (D7 (p1.Kind != y1.1.Kind))),B4 19 ((p1.Kind != 0) && (p1.Kind != y1.1.Kind)),B4 20 ((p1.Kind != 0) && (p1.Kind != y1.1.Kind)),(21,.cnd [!((p1.Kind != 0) && (p1.Kind != y1.1.Kind))] (D6 1 1)),(22,.cnd [!((p1.Kind != 0) && (p1.Kind != y1.1.Kind))] (G0 p1.Class)),(23,.cnd [!((p1.Kind != 0) && (p1.Kind != y1.1.Kind))] (D7 (!(G9 p1.Class))))]) (G2 := [M8 p0,K7 1 p1]) (X2 := []) (zF [!((p1.Kind != 0) && (p1.Kind != y1.1.Kind))] (D7 (!(G9 p1.Class))) (zq (zq (zq (zq (zn (L2 := [A7 2 p2,I8,H4,A1 7 1 0,A7 8 p1.Kind,B4 9 (p1.Kind != 0),B4 10 (p1.Kind != 0),(11,.cnd [p1.Kind != 0] (D6 1 0)),(12,.cnd [p1.Kind != 0] (C7 p1.Kind)),(13,.cnd [p1.Kind != 0] (D6 0 0)),(14,.cnd [p1.Kind != 0] (O4 p0.nodes)),(15,.cnd [p1.Kind != 0] (C7 p2)),(16,.cnd [p1.Kind != 0] (B2 y1.1)),(17,.cnd [p1.Kind != 0] (C7 y1.1.Kind)),(18,.cnd [p1.Kind != 0] (D7 (p1.Kind != y1.1.Kind))),B4 19 ((p1.Kind != 0) && (p1.Kind != y1.1.Kind)),B4 20 ((p1.Kind != 0) && (p1.Kind != y1.1.Kind)),(21,.cnd [!((p1.Kind != 0) && (p1.Kind != y1.1.Kind))] (D6 1 1)),(22,.cnd [!((p1.Kind != 0) && (p1.Kind != y1.1.Kind))] (G0 p1.Class)),(23,.cnd [!((p1.Kind != 0) && (p1.Kind != y1.1.Kind))] (D7 (!(G9 p1.Class)))),(24,.cnd [!((p1.Kind != 0) && (p1.Kind != y1.1.Kind))] (D7 (!(G9 p1.Class)))),(25,.cnd [!((p1.Kind != 0) && (p1.Kind != y1.1.Kind)),!(G9 p1.Class)] (D6 1 1)),(26,.cnd [!((p1.Kind != 0) && (p1.Kind != y1.1.Kind)),!(G9 p1.Class)] (G0 p1.Class)),(27,.cnd [!((p1.Kind != 0) && (p1.Kind != y1.1.Kind)),!(G9 p1.Class)] (D6 0 1)),(28,.cnd [!((p1.Kind != 0) && (p1.Kind != y1.1.Kind)),!(G9 p1.Class)] (R2 p0.class_))]) (G2 := [M8 p0,K7 1 p1]) (X2 := []) (zq (bK h fun y2 he h => wH (e := [!((p1.Kind != 0) && (p1.Kind != y1.1.Kind)),!(G9 p1.Class)]) [(28,R2 p0.class_,some 2),(29,C7 p2,some 2)] (v := .c (Sx y2.1)) (foot := []) (by kernel_rfl) (by kernel_rfl) (by kernel_rfl) (fun hg => cW (kf := (B6)) (enc := eS) (l := p0.class_) (k := p2) (ok := false) (kk := .int .i64) (j := ⟨.str,1,16,[.string ⟨#[]⟩]⟩) (p := y2) (v := .c (Sx y2.1)) (bQ he hg) (by kernel_rfl) eQ (by kernel_rfl) (by kernel_rfl) (by kernel_rfl)) rfl rfl (zq (zp (zp ?_)))))))))))))))))))))))))))))
 refine ze [2,3,4,33] (zi h (fun h => ?_) fun h => ?_)
 refine za [6] ?_
 cases h
 exact aG zr
 refine aD (zx fun _ => Ry 3 (L' := [A7 2 p2,I8,H4,B4 33 (((p1.Kind != 0) && (p1.Kind != y1.1.Kind)) || ((!(G9 p1.Class)) && (!(bP p1.Class y2.1)))),A1 34 0 2,(35,.c (E1 p0.states)),A7 36 p2]) (G' := [M8 p0,K7 1 p1]) (X' := []) (bK h fun y3 he h => zw (v := .c (I y3.1)) [] (cW (kf := (B6)) (enc := aL) (l := p0.states) (k := p2) (ok := false) (kk := .int .i64) (j := ⟨.int .i64,1,8,[.int .i64 0]⟩) (p := y3) (v := .c (I y3.1)) he (by kernel_rfl) eQ (by kernel_rfl) (by kernel_rfl) (by kernel_rfl)) (zk 7 (zq (zq (zq (zn (L2 := [A7 2 p2,I8,H4,B4 33 (((p1.Kind != 0) && (p1.Kind != y1.1.Kind)) || ((!(G9 p1.Class)) && (!(bP p1.Class y2.1)))),A1 34 0 2,(35,.c (E1 p0.states)),A7 36 p2,A7 37 y3.1,A1 38 1 2,A7 39 p1.States,A7 40 (oU .i64 y3.1 p1.States),A1 41 1 2,A7 42 p1.States,B4 43 ((oU .i64 y3.1 p1.States) == p1.States),B4 44 ((oU .i64 y3.1 p1.States) == p1.States),(45,.cnd [(oU .i64 y3.1 p1.States) == p1.States] (K0 p0)),(46,.cnd [(oU .i64 y3.1 p1.States) == p1.States] (E0 p1)),(47,.cnd [(oU .i64 y3.1 p1.States) == p1.States] (C7 p2))]) (G2 := [M8 p0,K7 1 p1]) (X2 := []) (bK h fun y4 he h => yW [(oU .i64 y3.1 p1.States) == p1.States] fok86 (fun hg => He n _ _ _ y4 (bQ he hg)) (zp (zk 1 (ze [6] ?_)))))))))))
 cases h
 exact aG zr
def iH (p0 : bS) (p2 : ByteArray) (p1 : cX) (j1 : Unit → Option (Int × Bool)) : Nat → Int → Option (Int × Bool)
 | 0,_ => none
 | n + 1,v3 => (if (decide (v3 < (List.length p0.Tokens : Int))) = true then (idx p0.Tokens v3).bind fun e4 => (if (!(bP e4.Name p2)) = true then iH p0 p2 p1 j1 n (w6 (v3 + 1)) else (if (p1.High && p1.Dark) = true then some (e4.HighDark,true) else (if p1.High = true then some (e4.HighLight,true) else (if p1.Dark = true then some (e4.Dark,true) else some (e4.Light,true))))) else j1 ())
def pS (n : Nat) (p0 : bS) (p1 : cX) (p2 : ByteArray) : Option (Int × Bool) := (aS (fun (_ : Unit) => some (0,false)) (fun (j1 : Unit → Option (Int × Bool)) => iH p0 p2 p1 j1 n 0))
theorem Fa (n : Nat) (p0 : bS) (p1 : cX) (p2 : ByteArray) (r : (Int × Bool)) (h : pS n p0 p1 p2 = some r) : dC E 105 0 [O8 p0.Tokens,F3 p1,G0 p2] [] (.tup [C7 r.1,D7 r.2]) [] := by
 refine eO Tryz.func105 rfl ?_
 unfold pS at h
 refine za [2,3,4] (aR h (fun A j => ∀ u,j u = some r → A (M5)) (fun u h => ?_) (fun j1 Aj1 hj1 h => ?_))
 refine za [6,7] ?_
 cases h
 exact aG zr
 refine zx fun _ => zk 2 (zl bC p0.Tokens (zk 1 (ze [2,4,11,12,13] (aI (bB (fun n s => ∃ v3,iH p0 p2 p1 j1 n v3 = some r ∧ s = mk [(2,G0 p2),H5,(11,.c (F7 p0.Tokens)),(12,.c (I (List.length p0.Tokens : Int))),A7 13 v3] [(0,B9 p1)] 1) n _ (zv [(1,0)] [2,4,11,12,13] 1) ⟨_,h,rfl⟩ (fun s ⟨v3,h,_⟩ => nomatch h) ?_)))))
 rintro n s ⟨v3,h,rfl⟩
 rw [iH] at h
 refine za [2,4,11,12,13,14] (aM (zi h (fun h => ?_) fun h => ?_))
 refine aD (aM (aI (zx fun _ => bK h fun e4 he h => zd bC he (zk 3 (ze [2,4,9,11,12,13] (aM (za [2,4,9,11,12,13,20] (zi h (fun h => ?_) fun h => ?_))))))))
 exact bF (aV (zb (dI zI (⟨_,h,rfl⟩))))
 refine aD (aM (aI (zx fun _ => zk 3 (zq (zq (zp (zk 1 (ze [4,9,21] (zi h (fun h => ?_) fun h => ?_)))))))))
 refine za [6,7] ?_
 cases h
 exact aG zr
 refine za [4,9,30] (zi h (fun h => ?_) fun h => ?_)
 refine za [6,7] ?_
 cases h
 exact aG zr
 refine za [9,35] (zi h (fun h => ?_) fun h => ?_)
 refine za [6,7] ?_
 cases h
 exact aG zr
 refine aD (za [6,7] ?_)
 cases h
 exact aG zr
 exact aJ zI (bF (hj1 _ h))
end Go.Proofs.YtojkihhnioeggaaGreatDoor.S
