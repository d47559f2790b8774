import Derived.Test.YtojkihhnioeggaaGreatDoorQEGM7
set_option linter.all false
set_option maxRecDepth 100000
set_option maxHeartbeats 4000000
namespace Go.Proofs.YtojkihhnioeggaaGreatDoor.S
open Go Go.Bm
def gE (e32 : cM) (p0 : jH) (j28 : List (Int × bW) → Option (List (Int × bW))) (p1 : Int) (v26 : Int) : Nat → Int → List (Int × bW) → Option (List (Int × bW))
 | 0,_,_ => none
 | n + 1,v40,v41 => (if (decide (v40 < (List.length e32.Decls : Int))) = true then (aS (fun (v48 : List (Int × bW)) => gE e32 p0 j28 p1 v26 n (w6 (v40 + 1)) v48) (fun (j42 : List (Int × bW) → Option (List (Int × bW))) => (idx e32.Decls v40).bind fun e43 => (aS (fun (v47 : Int) => j42 (gS e43.Prop_ (bW.mk e43.Prop_ e43.Source v47 e43.Token) v41)) (fun (j44 : Int → Option (List (Int × bW))) => (if (e43.Source == 1) = true then (pS n p0.th p0.m e43.Token).bind fun y45 => (gd [(!(!y45.2))] (dM n e43.Prop_ y45.1)).bind fun y46 => (if ((!y45.2) || (!y46)) = true then j42 v41 else j44 y45.1) else j44 e43.N))))) else j28 v41)
def gB (p0 : jH) (p1 : Int) (j1 : List (Int × bW) → Option (List (Int × bW))) : Nat → Int → List (Int × bW) → Option (List (Int × bW))
 | 0,_,_ => none
 | n + 1,v26,v27 => (if (decide (v26 < (List.length p0.order : Int))) = true then (aS (fun (v51 : List (Int × bW)) => gB p0 p1 j1 n (w6 (v26 + 1)) v51) (fun (j28 : List (Int × bW) → Option (List (Int × bW))) => (idx p0.order v26).bind fun e29 => (idx p0.rules e29).bind fun e30 => (lV n p0.shape e30 p1).bind fun y31 => (if (!y31) = true then j28 v27 else (idx p0.rules e29).bind fun e32 => gE e32 p0 j28 p1 v26 n 0 v27))) else j1 v27)
def mU (n : Nat) (p0 : jH) (p1 : Int) : Option (List (Int × bW)) := (aS (fun (v54 : List (Int × bW)) => some v54) (fun (j1 : List (Int × bW) → Option (List (Int × bW))) => gB p0 p1 j1 n 0 ([] : List (Int × bW))))
theorem Av (n : Nat) (p0 : jH) (p1 : Int) (r : (List (Int × bW))) (h : mU n p0 p1 = some r) : dC E 75 0 [.agg [D2 p0.shape.nodes,D5 p0.shape.class_,E1 p0.shape.states,C4 p0.rules,C2 p0.order,F7 p0.th.Tokens,Bo p0.m.Dark,Bo p0.m.High,I p0.m.Scale],C7 p1] [] (N1 r) [] := by
 refine eO Tryz.func75 rfl ?_
 unfold mU at h
 refine za [1,2] (za [1,2,5] (aR h (fun A j => ∀ v54,j v54 = some r → A (mk [F1 5 0] [(0,.map true (H8 v54))] 1)) (fun v54 h => ?_) (fun j1 Aj1 hj1 h => ?_)))
 refine za [4] (aJ (uM 0 (ag := true) (l := List.map (eM (B6) bL) v54) (L2 := [(4,N1 v54)]) (G2 := []) (by kernel_rfl) (by kernel_rfl) (by kernel_rfl)) ?_)
 cases h
 exact aG zr
 refine zx fun _ => zk 2 (zl aL p0.order (zk 1 (ze [1,2,5,14,15,16] (aI (bB (fun n s => ∃ v26 v27,gB p0 p1 j1 n v26 v27 = some r ∧ s = mk [A7 1 p1,J2,F1 5 1,F8 14 p0.order,(15,.c (I (List.length p0.order : Int))),A7 16 v26] [G8 0 p0.shape p0.rules p0.order p0.th.Tokens p0.m,(1,.map true (H8 v27))] 2) n _ (zv [(0,0),(2,1)] [1,2,5,14,15,16] 2) ⟨_,_,h,rfl⟩ (fun s ⟨v26,v27,h,_⟩ => nomatch h) ?_)))))
 rintro n s ⟨v26,v27,h,rfl⟩
 rw [gB] at h
 refine za [1,2,5,14,15,16,17] (aM (zi h (fun h => ?_) fun h => ?_))
 refine aD (aR h (fun A j => ∀ v51,j v51 = some r → A (mk [A7 1 p1,J2,F1 5 1,F8 14 p0.order,(15,.c (I (List.length p0.order : Int))),A7 16 v26] [G8 0 p0.shape p0.rules p0.order p0.th.Tokens p0.m,(1,.map true (H8 v51))] 2)) (fun v51 h => ?_) (fun j28 Aj28 hj28 h => ?_))
 exact aV (zb (dI zI (⟨_,_,h,rfl⟩)))
 refine aI (zx fun _ => bK h fun e29 he h => zd aL he (zk 2 (ze [1,2,5,7,14,15,16] (aM (vK [[],[0],[],[2],[],[3,4,2],[5,3,4,2],[],[1,6,7,0,5,3,4,2],[8,1,6,7,0,5,3,4,2]] fun _ => zk 5 (bK h fun e30 he h => zd aY he (zk 2 (bK h fun y31 he h => zc fok51 (Ed n _ _ _ y31 he) (zk 1 (ze [1,2,5,7,14,15,16,29] (zi h (fun h => ?_) fun h => ?_)))))))))))
 exact aJ zI (bF (hj28 _ h))
 refine aD (zx fun _ => zk 3 (bK h fun e32 he h => zd aY he (zk 2 (zl bL e32.Decls (zk 1 (kS [1,2,5,14,15,16,35,36,37] (L2 := [A7 1 p1,J2,F1 5 1,F8 14 p0.order,(15,.c (I (List.length p0.order : Int))),A7 16 v26,K9 35 e32.Decls,(36,.c (I (List.length e32.Decls : Int))),I4 37]) (G2 := [G8 0 p0.shape p0.rules p0.order p0.th.Tokens p0.m,(1,.map true (H8 v27))]) 24 (aI (bB (fun n s => ∃ v40 v41,gE e32 p0 j28 p1 v26 n v40 v41 = some r ∧ s = mk [A7 1 p1,J2,F1 5 1,F8 14 p0.order,(15,.c (I (List.length p0.order : Int))),A7 16 v26,K9 35 e32.Decls,(36,.c (I (List.length e32.Decls : Int))),A7 37 v40] [G8 0 p0.shape p0.rules p0.order p0.th.Tokens p0.m,(1,.map true (H8 v41))] 2) n _ zI ⟨_,_,h,rfl⟩ (fun s ⟨v40,v41,h,_⟩ => nomatch h) ?_))))))))
 rintro n s ⟨v40,v41,h,rfl⟩
 rw [gE] at h
 refine za [1,2,5,14,15,16,35,36,37,38] (aM (zi h (fun h => ?_) fun h => ?_))
 refine aD (aR h (fun A j => ∀ v48,j v48 = some r → A (mk [A7 1 p1,J2,F1 5 1,F8 14 p0.order,(15,.c (I (List.length p0.order : Int))),A7 16 v26,K9 35 e32.Decls,(36,.c (I (List.length e32.Decls : Int))),A7 37 v40] [G8 0 p0.shape p0.rules p0.order p0.th.Tokens p0.m,(1,.map true (H8 v48))] 2)) (fun v48 h => ?_) (fun j42 Aj42 hj42 h => ?_))
 exact aV (zb (dI zI (⟨_,_,h,rfl⟩)))
 refine aI (zx fun _ => bK h fun e43 he h => zd bL he (zk 3 (ze [1,2,5,9,14,15,16,35,36,37] (aR h (fun A j => ∀ v47,j v47 = some r → A (mk [A7 1 p1,J2,F1 5 1,F8 14 p0.order,(15,.c (I (List.length p0.order : Int))),A7 16 v26,K9 35 e32.Decls,(36,.c (I (List.length e32.Decls : Int))),A7 37 v40,A1 9 2 0] [G8 0 p0.shape p0.rules p0.order p0.th.Tokens p0.m,(1,.map true (H8 v41)),(2,.blk 81 [I e43.Prop_,I e43.Source,I v47,Sx e43.Token])] 3)) (fun v47 h => ?_) (fun j44 Aj44 hj44 h => ?_)))))
 exact aV (zy fun _ => zk 4 (kT (kf := (B6)) (enc := bL) (l := v41) (k := e43.Prop_) (v := (bW.mk e43.Prop_ e43.Source v47 e43.Token)) (n := 1) (ag := true) (kk := .int .i64) (by kernel_rfl) eQ (by kernel_rfl) (by kernel_rfl) rfl rfl (bT (dI zI (hj42 _ h)))))
 refine za [1,2,5,9,14,15,16,35,36,37,43] (zi h (fun h => ?_) fun h => ?_)
 refine zx fun _ => zk 6 (bK h fun y45 he h => zc fok105 (Fa n _ _ _ y45 he) (zk 5 (ze [1,2,5,9,10,11,14,15,16,35,36,37] (aM (zx fun _ => zk 3 (zq (zq (zq (bK h fun y46 he h => yW [!(!y45.2)] fok21 (fun hg => vB n _ _ y46 (bQ he hg)) (zq (zp (kS [1,2,5,9,10,14,15,16,35,36,37,62] (L2 := [A7 1 p1,J2,F1 5 1,F8 14 p0.order,(15,.c (I (List.length p0.order : Int))),A7 16 v26,K9 35 e32.Decls,(36,.c (I (List.length e32.Decls : Int))),A7 37 v40,A1 9 5 0,A7 10 y45.1,B4 62 ((!y45.2) || (!y46))]) (G2 := [G8 0 p0.shape p0.rules p0.order p0.th.Tokens p0.m,(1,.map true (H8 v41)),(5,E4 e43)]) 31 (zi h (fun h => ?_) fun h => ?_)))))))))))))
 exact aJ zI (bF (hj42 _ h))
 exact aD (aV (zb (dI (zv [(0,0),(1,1),(5,2)] [1,2,5,14,15,16,35,36,37,9] 3) (hj44 _ h))))
 exact aJ (zv [(0,0),(1,1),(5,2)] [1,2,5,14,15,16,35,36,37,9] 3) (aD (hj44 _ h))
 exact aJ zI (bF (hj28 _ h))
 exact aJ (zv [(1,0)] [5] 1) (bF (hj1 _ h))
def iI (n : Nat) (p0 : Int) : Option Bool := (iV n p0).bind fun y1 => (gd [y1] (idx bE p0)).bind fun e2 => some (y1 && e2.inherited)
theorem Af (n : Nat) (p0 : Int) (r : Bool) (h : iI n p0 = some r) : dC E 76 0 [C7 p0] [] (D7 r) [] := by
 refine eO Tryz.func76 rfl ?_
 unfold iI at h
 refine za [0] (zx fun _ => zk 1 (bK h fun y1 he h => zc Yp (rB n _ y1 he) (zk 1 (zq (bK h fun e2 he h => Gk (es := [y1]) [(6,C7 p0,some 1)] (enc := kF) (xs := bE) (ix := p0) (e := e2) (c := [Bo e2.inherited,I e2.low,I e2.high,I e2.start]) (len := 22) (sz := 4) (fun hg => bQ he hg) (by kernel_rfl) (by kernel_rfl) (by kernel_rfl) (by kernel_rfl) (by kernel_rfl) (by kernel_rfl) (fun x => by kernel_rfl) rfl rfl (zq (zq (zp (zk 1 (kS [2] (L2 := [B4 2 (y1 && e2.inherited)]) (G2 := []) 10 ?_))))))))))
 cases h
 exact aG zr
def Ap (n : Nat) (p0 : Int) (p1 : Int) : Option Bool := some (((((p1 != 0) && (decide (p0 ≥ (-1152921504606846976 : Int)))) && (decide (p0 ≤ 1152921504606846976))) && (decide (p1 ≥ (-1152921504606846976 : Int)))) && (decide (p1 ≤ 1152921504606846976)))
theorem Qg (n : Nat) (p0 : Int) (p1 : Int) (r : Bool) (h : Ap n p0 p1 = some r) : dC E 137 0 [C7 p0,C7 p1] [] (D7 r) [] := by
 refine eO Tryz.func137 rfl ?_
 unfold Ap at h
 refine za [0,1] (zx fun _ => zk 3 (zq (zq (zp (zk 1 (zq (zq (zp (zk 1 (zq (zq (zp (zk 1 (zq (zq (zP (.bool (((((p1 != 0) && (decide (p0 ≥ (-1152921504606846976 : Int)))) && (Q0 p0 1152921504606846976)) && (decide (p1 ≥ (-1152921504606846976 : Int)))) && (Q0 p1 1152921504606846976))) (zk 1 (kS [4] (L2 := [(4,.c (Bo (((((p1 != 0) && (decide (p0 ≥ (-1152921504606846976 : Int)))) && (Q0 p0 1152921504606846976)) && (decide (p1 ≥ (-1152921504606846976 : Int)))) && (Q0 p1 1152921504606846976))))]) (G2 := []) 20 ?_))))))))))))))))))
 cases h
 exact aG zr
def tQ (n : Nat) (p0 : Int) (p1 : Int) : Option Int := (nz p1).bind fun d1 => (aS (fun (v4 : Int) => some v4) (fun (j2 : Int → Option Int) => (nz p1).bind fun d3 => (if (decide ((Int.tmod p0 p1) < 0)) = true then j2 (w6 ((w6 (Int.tdiv p0 p1)) - 1)) else j2 (w6 (Int.tdiv p0 p1)))))
theorem Ho (n : Nat) (p0 : Int) (p1 : Int) (r : Int) (h : tQ n p0 p1 = some r) : dC E 138 0 [C7 p0,C7 p1] [] (C7 r) [] := by
 refine eO Tryz.func138 rfl ?_
 unfold tQ at h
 refine za [0,1] (zx fun _ => zk 2 (bK h fun d1 he h => cY (v := .c (I (w6 (Int.tdiv p0 p1)))) (foot := []) (rd_quo (k := .i64) (x := p0) (y := p1) he (by kernel_rfl)) (by kernel_rfl) rfl rfl (zk 1 (ze [0,1,5] (aR h (fun A j => ∀ v4,j v4 = some r → A (mk [A7 5 v4] [] 0)) (fun v4 h => ?_) (fun j2 Aj2 hj2 h => ?_))))))
 refine za [4] ?_
 cases h
 exact aG zr
 refine zx fun _ => zk 2 (bK h fun d3 he h => cY (v := .c (I (Int.tmod p0 p1))) (foot := []) (Te (k := .i64) (x := p0) (y := p1) he (by kernel_rfl)) (by kernel_rfl) rfl rfl (zk 1 (ze [5,12] (zi h (fun h => ?_) fun h => ?_))))
 exact aV (zb (dI zI (hj2 _ h)))
 exact aJ zI (aD (hj2 _ h))
def tO (n : Nat) (p0 : Int) (p1 : Int) : Option Int := (Ap n p0 p1).bind fun y1 => (if (!y1) = true then some 0 else (aS (fun (v3 : Int) (v4 : Int) => (tQ n (w6 ((w6 (2 * v3)) + v4)) (w6 (2 * v4))).bind fun y5 => some y5) (fun (j2 : Int → Int → Option Int) => (if (decide (p1 < 0)) = true then j2 (w6 (0 - p0)) (w6 (0 - p1)) else j2 p0 p1))))
theorem Hs (n : Nat) (p0 : Int) (p1 : Int) (r : Int) (h : tO n p0 p1 = some r) : dC E 126 0 [C7 p0,C7 p1] [] (C7 r) [] := by
 refine eO Tryz.func126 rfl ?_
 unfold tO at h
 refine za [0,1] (aM (zx fun _ => zk 2 (bK h fun y1 he h => zc fok137 (Qg n _ _ y1 he) (zk 1 (ze [0,1,8] (zi h (fun h => ?_) fun h => ?_))))))
 refine za [4] ?_
 cases h
 exact aG zr
 refine aD (aR h (fun A j => ∀ v3 v4,j v3 v4 = some r → A (mk [A7 0 v3,A7 1 v4] [] 0)) (fun v3 v4 h => ?_) (fun j2 Aj2 hj2 h => ?_))
 refine zx fun _ => zk 6 (bK h fun y5 he h => zc fok138 (Ho n _ _ y5 he) (zk 1 (ze [4] ?_)))
 cases h
 exact aG zr
 refine za [0,1,10] (zi h (fun h => ?_) fun h => ?_)
 exact aV (zb (dI zI (hj2 _ _ h)))
 exact aJ zI (aD (hj2 _ _ h))
def qP (n : Nat) (p0 : Int) (p1 : Int) (p2 : Int) : Option (Int × Int) := (if ((((((decide (p0 < (-1099511627776 : Int))) || (decide (p0 > 1099511627776))) || (decide (p1 < 0))) || (decide (p1 > 65536))) || (decide (p2 < 1))) || (decide (p2 > 65536))) = true then some (0,1) else (tO n (w6 (p0 * p1)) p2).bind fun y1 => some (y1,0))
theorem Hi (n : Nat) (p0 : Int) (p1 : Int) (p2 : Int) (r : (O3)) (h : qP n p0 p1 p2 = some r) : dC E 106 0 [C7 p0,C7 p1,C7 p2] [] (.tup [C7 r.1,C7 r.2]) [] := by
 refine eO Tryz.func106 rfl ?_
 unfold qP at h
 refine za [0,1,2] (aM (zx fun _ => zk 3 (zq (zq (zp (zk 1 (zq (zq (zp (zk 1 (zq (zq (zp (zk 1 (zq (zq (zP (.bool (((((decide (p0 < (-1099511627776 : Int))) || (O0 p0)) || (D4 p1 0)) || (F2 p1 65536)) || (D4 p2 1))) (zk 1 (zq (zq (zP (.bool ((((((decide (p0 < (-1099511627776 : Int))) || (O0 p0)) || (D4 p1 0)) || (F2 p1 65536)) || (D4 p2 1)) || (F2 p2 65536))) (kS [0,1,2,29] (L2 := [A7 0 p0,A7 1 p1,A7 2 p2,(29,.c (Bo ((((((decide (p0 < (-1099511627776 : Int))) || (O0 p0)) || (D4 p1 0)) || (F2 p1 65536)) || (D4 p2 1)) || (F2 p2 65536))))]) (G2 := []) 24 (zi h (fun h => ?_) fun h => ?_)))))))))))))))))))))))
 refine za [6,7] ?_
 cases h
 exact aG zr
 refine aD (zx fun _ => zk 4 (bK h fun y1 he h => zc fok126 (Hs n _ _ y1 he) (zk 2 (ze [6,7] ?_))))
 cases h
 exact aG zr
def mZ (n : Nat) (p0 : Int) (p1 : Int) (p2 : Int) : Option Int := (if ((decide (p0 < p1)) || (decide (p2 < p1))) = true then some p1 else (if (decide (p0 > p2)) = true then some p2 else some p0))
theorem Gt (n : Nat) (p0 : Int) (p1 : Int) (p2 : Int) (r : Int) (h : mZ n p0 p1 p2 = some r) : dC E 107 0 [C7 p0,C7 p1,C7 p2] [] (C7 r) [] := by
 refine eO Tryz.func107 rfl ?_
 unfold mZ at h
 refine za [0,1,2] (aM (aI (zx fun _ => zk 4 (zq (zq (zq (zp (zk 1 (ze [0,1,2,7] (zi h (fun h => ?_) fun h => ?_))))))))))
 refine za [6] ?_
 cases h
 exact aG zr
 refine za [0,2,17] (zi h (fun h => ?_) fun h => ?_)
 refine za [6] ?_
 cases h
 exact aG zr
 refine aD (za [6] ?_)
 cases h
 exact aG zr
def nD (n : Nat) (p0 : cX) (p1 : Int) : Option Int := (aS (fun (v3 : Int) => (mZ n v3 1 1000).bind fun y4 => some y4) (fun (j1 : Int → Option Int) => (if ((((decide (p0.Scale ≥ 50)) && (decide (p0.Scale ≤ 400))) && (decide (p1 ≥ 1))) && (decide (p1 ≤ 1000))) = true then (qP n p1 p0.Scale 100).bind fun y2 => j1 y2.1 else j1 p1)))
theorem Kk (n : Nat) (p0 : cX) (p1 : Int) (r : Int) (h : nD n p0 p1 = some r) : dC E 77 0 [F3 p0,C7 p1] [] (C7 r) [] := by
 refine eO Tryz.func77 rfl ?_
 unfold nD at h
 refine za [1,2] (aR h (fun A j => ∀ v3,j v3 = some r → A (mk [A7 1 v3] [] 0)) (fun v3 h => ?_) (fun j1 Aj1 hj1 h => ?_))
 refine zx fun _ => zk 1 (bK h fun y4 he h => zc fok107 (Gt n _ _ _ y4 he) (zk 1 (ze [4] ?_)))
 cases h
 exact aG zr
 refine zx fun _ => zk 4 (zq (zq (zq (zp (zk 1 (zq (zq (zp (zk 1 (zq (zq (zp (kS [1,2,20] (L2 := [A7 1 p1,J2,B4 20 ((((P9 p0.Scale 50) && (Q0 p0.Scale 400)) && (P9 p1 1)) && (Q0 p1 1000))]) (G2 := [(0,B9 p0)]) 18 (zi h (fun h => ?_) fun h => ?_))))))))))))))
 exact aV (zy fun _ => zk 3 (bK h fun y2 he h => zc fok106 (Hi n _ _ _ y2 he) (zk 4 (bT (dI zI (hj1 _ h))))))
 exact aJ zI (aD (hj1 _ h))
def eK (y1 : (List (Int × bW))) (p0 : jH) (p3 : Bool) (p2 : aB) (j2 : aB → Option aB) : Nat → Int → aB → Option aB
 | 0,_,_ => none
 | n + 1,v10,v11 => (if (decide (v10 < 22)) = true then (aS (fun (v27 : aB) => eK y1 p0 p3 p2 j2 n (w6 (v10 + 1)) v27) (fun (j12 : aB → Option aB) => (some (cZ v10 y1,iG v10 y1)).bind fun y13 => (gd [(!(y13.2 && (y13.1.Source == 2))),(!y13.2)] (iI n v10)).bind fun y14 => (aS (fun (v22 : aB) => (if (v10 == 2) = true then (rL v10 22).bind fun k23 => ((aB.toL v22)[k23]?).bind fun e24 => (nD n p0.m e24).bind fun y25 => (rL v10 22).bind fun k26 => j12 (aB.set v22 k26 y25) else j12 v22)) (fun (j15 : aB → Option aB) => (if (((y13.2 && (y13.1.Source == 2)) || ((!y13.2) && y14)) && (!p3)) = true then (rL v10 22).bind fun k16 => ((aB.toL p2)[k16]?).bind fun e17 => (rL v10 22).bind fun k18 => j12 (aB.set v11 k18 e17) else (if (y13.2 && ((y13.1.Source == 0) || (y13.1.Source == 1))) = true then (rL v10 22).bind fun k19 => j15 (aB.set v11 k19 y13.1.N) else (idx bE v10).bind fun e20 => (rL v10 22).bind fun k21 => j15 (aB.set v11 k21 e20.start))))))) else j2 v11)
def nY (n : Nat) (p0 : jH) (p1 : Int) (p2 : aB) (p3 : Bool) : Option aB := (mU n p0 p1).bind fun y1 => (aS (fun (v30 : aB) => some v30) (fun (j2 : aB → Option aB) => eK y1 p0 p3 p2 j2 n 0 (aB.mk 0 0 0 0 0 0 0 0 0 0 0 0 0 0 0 0 0 0 0 0 0 0)))
theorem Dk (n : Nat) (p0 : jH) (p1 : Int) (p2 : aB) (p3 : Bool) (r : aB) (h : nY n p0 p1 p2 p3 = some r) : dC E 42 0 [.agg [D2 p0.shape.nodes,D5 p0.shape.class_,E1 p0.shape.states,C4 p0.rules,C2 p0.order,F7 p0.th.Tokens,Bo p0.m.Dark,Bo p0.m.High,I p0.m.Scale],C7 p1,C8 p2,D7 p3] [] (C8 r) [] := by
 refine eO Tryz.func42 rfl ?_
 unfold nY at h
 refine za [1,3,4,6,8] (zx fun _ => zk 2 (bK h fun y1 he h => zc fok75 (Av n _ _ y1 he) (zk 1 (ze [3,4,6,8,9] (za [3,4,6,8,9,10] (aR h (fun A j => ∀ v30,j v30 = some r → A (mk [L6,A1 10 1 0] [(0,B1),K6 1 v30] 2)) (fun v30 h => ?_) (fun j2 Aj2 hj2 h => ?_)))))))
 refine za [8] ?_
 cases h
 exact aG zr
 refine za [3,4,6,8,9,10,18] (aI (bB (fun n s => ∃ v10 v11,eK y1 p0 p3 p2 j2 n v10 v11 = some r ∧ s = mk [B4 3 p3,H5,J0,A1 8 2 0,(9,N1 y1),A1 10 3 0,O6 v10] [G8 0 p0.shape p0.rules p0.order p0.th.Tokens p0.m,K6 1 p2,(2,B1),K6 3 v11] 4) n _ (zv [(0,0),(1,1),(2,2),(7,3)] [3,4,6,8,9,10,18] 4) ⟨_,_,h,rfl⟩ (fun s ⟨v10,v11,h,_⟩ => nomatch h) ?_))
 rintro n s ⟨v10,v11,h,rfl⟩
 rw [eK] at h
 refine za [3,4,6,8,9,10,18,19] (aM (zi h (fun h => ?_) fun h => ?_))
 refine aD (aR h (fun A j => ∀ v27,j v27 = some r → A (mk [B4 3 p3,H5,J0,A1 8 2 0,(9,N1 y1),A1 10 3 0,O6 v10] [G8 0 p0.shape p0.rules p0.order p0.th.Tokens p0.m,K6 1 p2,(2,B1),K6 3 v27] 4)) (fun v27 h => ?_) (fun j12 Aj12 hj12 h => ?_))
 exact aV (zb (dI zI (⟨_,_,h,rfl⟩)))
 refine aI (za [3,4,6,8,9,10,11,18] (zx fun _ => zk 2 (bK h fun y13 he h => zw (v := .tup [M7 y13.1,D7 y13.2]) [] (cW (kf := (B6)) (enc := bL) (l := y1) (k := v10) (ok := true) (kk := .int .i64) (j := ⟨.st [(3,0,1),(3,1,1),(3,2,1),(9,3,1)],4,40,[.int .i64 0,.int .i64 0,.int .i64 0,.string ⟨#[]⟩]⟩) (p := y13) (v := .agg [I y13.1.Prop_,I y13.1.Source,I y13.1.N,Sx y13.1.Token]) he (by kernel_rfl) eQ (by kernel_rfl) (by kernel_rfl) (by kernel_rfl)) (zk 6 (ze [3,4,6,8,9,10,11,12,13,18] (zx fun _ => zk 2 (zq (zq (zq (zp (zk 1 (zq (zq (zF [!(y13.2 && (y13.1.Source == 2))] (D7 (!y13.2)) (zq (bK h fun y14 he h => yW [!(y13.2 && (y13.1.Source == 2)),!y13.2] fok76 (fun hg => Af n _ y14 (bQ he hg)) (zp (zp (zk 1 (kS [3,4,6,8,9,10,11,12,13,14,18] (L2 := [B4 3 p3,H5,J0,A1 8 2 0,(9,N1 y1),A1 10 3 0,O6 v10,A7 11 v10,A1 12 13 0,B4 13 y13.2,B4 14 ((y13.2 && (y13.1.Source == 2)) || ((!y13.2) && y14))]) (G2 := [G8 0 p0.shape p0.rules p0.order p0.th.Tokens p0.m,K6 1 p2,(2,B1),K6 3 v11,(13,E4 y13.1)]) 31 (aR h (fun A j => ∀ v22,j v22 = some r → A (mk [B4 3 p3,H5,J0,A1 8 2 0,(9,N1 y1),A1 10 3 0,O6 v10,A7 11 v10] [G8 0 p0.shape p0.rules p0.order p0.th.Tokens p0.m,K6 1 p2,(2,B1),K6 3 v22] 4)) (fun v22 h => ?_) (fun j15 Aj15 hj15 h => ?_))))))))))))))))))))))
 refine za [3,4,6,8,9,10,11,18,75] (zi h (fun h => ?_) fun h => ?_)
 refine aV (Ov [[],[],[1],[],[3],[4,3],[2,5,1,4,3],[0,1,2,3,4,5,6],[7,6,0,1,2,3,4,5]] fun _ => zk 4 (bK h fun k23 he h => cY (v := .c (.ptr 3 (0 + k23 * 1))) (foot := []) (zH (n := 3) (q := 0) (len := 22) (sz := 1) (k := k23) (ix := v10) he (by kernel_rfl)) (by kernel_rfl) rfl rfl ?_))
 have hb_k23 := iD he
 refine bK h fun e24 he h => cY (v := .c (I e24)) (foot := [3]) (Nk (n := 3) (off := (0 + k23 * 1)) (l := [I v22.x0,I v22.x1,I v22.x2,I v22.x3,I v22.x4,I v22.x5,I v22.x6,I v22.x7,I v22.x8,I v22.x9,I v22.x10,I v22.x11,I v22.x12,I v22.x13,I v22.x14,I v22.x15,I v22.x16,I v22.x17,I v22.x18,I v22.x19,I v22.x20,I v22.x21]) (j := ⟨.int .i64,1,8,[.int .i64 0]⟩) (v := .c (I e24)) (by kernel_rfl) (Cg (enc := aL) (xs := (aB.toL v22)) (k := k23) (e := e24) he (by rw [Nat.zero_add]; kernel_rfl) (fun x => by kernel_rfl) (by decide) (by kernel_rfl))) (by kernel_rfl) rfl rfl (bK h fun y25 he h => zc fok77 (Kk n _ _ y25 he) (bK h fun k26 he h => cY (v := .c (.ptr 3 (0 + k26 * 1))) (foot := []) (zH (n := 3) (q := 0) (len := 22) (sz := 1) (k := k26) (ix := v10) he (by kernel_rfl)) (by kernel_rfl) rfl rfl ?_))
 have hb_k26 := iD he
 exact sB (n := 3) (off := (0 + k26 * 1)) (T0 := 52) (sz := 1) (lx := [I y25]) (l := [I v22.x0,I v22.x1,I v22.x2,I v22.x3,I v22.x4,I v22.x5,I v22.x6,I v22.x7,I v22.x8,I v22.x9,I v22.x10,I v22.x11,I v22.x12,I v22.x13,I v22.x14,I v22.x15,I v22.x16,I v22.x17,I v22.x18,I v22.x19,I v22.x20,I v22.x21]) (l2 := [I ((E9 v22 k26 y25).x0),I ((E9 v22 k26 y25).x1),I ((E9 v22 k26 y25).x2),I ((E9 v22 k26 y25).x3),I ((E9 v22 k26 y25).x4),I ((E9 v22 k26 y25).x5),I ((E9 v22 k26 y25).x6),I ((E9 v22 k26 y25).x7),I ((E9 v22 k26 y25).x8),I ((E9 v22 k26 y25).x9),I ((E9 v22 k26 y25).x10),I ((E9 v22 k26 y25).x11),I ((E9 v22 k26 y25).x12),I ((E9 v22 k26 y25).x13),I ((E9 v22 k26 y25).x14),I ((E9 v22 k26 y25).x15),I ((E9 v22 k26 y25).x16),I ((E9 v22 k26 y25).x17),I ((E9 v22 k26 y25).x18),I ((E9 v22 k26 y25).x19),I ((E9 v22 k26 y25).x20),I ((E9 v22 k26 y25).x21)]) (by kernel_rfl) (by kernel_rfl) (by simp only [List.length_cons,List.length_nil]; omega) (by rw [Nat.zero_add]; exact aB.splice_eq v22 k26 y25 hb_k26) (by kernel_rfl) rfl rfl (bT (dI zI (hj12 _ h)))
 exact aJ zI (aD (hj12 _ h))
 refine aI (zx fun _ => zk 2 (zq (zq (zp (zk 1 (ze [3,4,6,8,9,10,11,12,13,18,47] (zi h (fun h => ?_) fun h => ?_)))))))
 refine zx fun _ => zk 2 (bK h fun k16 he h => cY (v := .c (.ptr 1 (0 + k16 * 1))) (foot := []) (zH (n := 1) (q := 0) (len := 22) (sz := 1) (k := k16) (ix := v10) he (by kernel_rfl)) (by kernel_rfl) rfl rfl ?_)
 have hb_k16 := iD he
 refine bK h fun e17 he h => cY (v := .c (I e17)) (foot := [1]) (Nk (n := 1) (off := (0 + k16 * 1)) (l := [I p2.x0,I p2.x1,I p2.x2,I p2.x3,I p2.x4,I p2.x5,I p2.x6,I p2.x7,I p2.x8,I p2.x9,I p2.x10,I p2.x11,I p2.x12,I p2.x13,I p2.x14,I p2.x15,I p2.x16,I p2.x17,I p2.x18,I p2.x19,I p2.x20,I p2.x21]) (j := ⟨.int .i64,1,8,[.int .i64 0]⟩) (v := .c (I e17)) (by kernel_rfl) (Cg (enc := aL) (xs := (aB.toL p2)) (k := k16) (e := e17) he (by rw [Nat.zero_add]; kernel_rfl) (fun x => by kernel_rfl) (by decide) (by kernel_rfl))) (by kernel_rfl) rfl rfl (bK h fun k18 he h => cY (v := .c (.ptr 3 (0 + k18 * 1))) (foot := []) (zH (n := 3) (q := 0) (len := 22) (sz := 1) (k := k18) (ix := v10) he (by kernel_rfl)) (by kernel_rfl) rfl rfl ?_)
 have hb_k18 := iD he
 exact sB (n := 3) (off := (0 + k18 * 1)) (T0 := 52) (sz := 1) (lx := [I e17]) (l := [I v11.x0,I v11.x1,I v11.x2,I v11.x3,I v11.x4,I v11.x5,I v11.x6,I v11.x7,I v11.x8,I v11.x9,I v11.x10,I v11.x11,I v11.x12,I v11.x13,I v11.x14,I v11.x15,I v11.x16,I v11.x17,I v11.x18,I v11.x19,I v11.x20,I v11.x21]) (l2 := [I ((E9 v11 k18 e17).x0),I ((E9 v11 k18 e17).x1),I ((E9 v11 k18 e17).x2),I ((E9 v11 k18 e17).x3),I ((E9 v11 k18 e17).x4),I ((E9 v11 k18 e17).x5),I ((E9 v11 k18 e17).x6),I ((E9 v11 k18 e17).x7),I ((E9 v11 k18 e17).x8),I ((E9 v11 k18 e17).x9),I ((E9 v11 k18 e17).x10),I ((E9 v11 k18 e17).x11),I ((E9 v11 k18 e17).x12),I ((E9 v11 k18 e17).x13),I ((E9 v11 k18 e17).x14),I ((E9 v11 k18 e17).x15),I ((E9 v11 k18 e17).x16),I ((E9 v11 k18 e17).x17),I ((E9 v11 k18 e17).x18),I ((E9 v11 k18 e17).x19),I ((E9 v11 k18 e17).x20),I ((E9 v11 k18 e17).x21)]) (by kernel_rfl) (by kernel_rfl) (by simp only [List.length_cons,List.length_nil]; omega) (by rw [Nat.zero_add]; exact aB.splice_eq v11 k18 e17 hb_k18) (by kernel_rfl) rfl rfl (kS [3,4,6,8,9,10,18] (L2 := [B4 3 p3,H5,J0,A1 8 2 0,(9,N1 y1),A1 10 3 0,O6 v10]) (G2 := [G8 0 p0.shape p0.rules p0.order p0.th.Tokens p0.m,K6 1 p2,(2,B1),(3,.blk 52 [I ((E9 v11 k18 e17).x0),I ((E9 v11 k18 e17).x1),I ((E9 v11 k18 e17).x2),I ((E9 v11 k18 e17).x3),I ((E9 v11 k18 e17).x4),I ((E9 v11 k18 e17).x5),I ((E9 v11 k18 e17).x6),I ((E9 v11 k18 e17).x7),I ((E9 v11 k18 e17).x8),I ((E9 v11 k18 e17).x9),I ((E9 v11 k18 e17).x10),I ((E9 v11 k18 e17).x11),I ((E9 v11 k18 e17).x12),I ((E9 v11 k18 e17).x13),I ((E9 v11 k18 e17).x14),I ((E9 v11 k18 e17).x15),I ((E9 v11 k18 e17).x16),I ((E9 v11 k18 e17).x17),I ((E9 v11 k18 e17).x18),I ((E9 v11 k18 e17).x19),I ((E9 v11 k18 e17).x20),I ((E9 v11 k18 e17).x21)]),(13,E4 y13.1)]) 43 (aJ zI (bF (hj12 _ h))))
 refine zx fun _ => zk 2 (zq (zq (zq (zF [y13.2] (D7 (y13.1.Source == 0)) (zq (zq (zq (zp (zp (zk 1 (kS [3,4,6,8,9,10,11,12,18,58] (L2 := [B4 3 p3,H5,J0,A1 8 2 0,(9,N1 y1),A1 10 3 0,O6 v10,A7 11 v10,A1 12 13 0,B4 58 (y13.2 && ((y13.1.Source == 0) || (y13.1.Source == 1)))]) (G2 := [G8 0 p0.shape p0.rules p0.order p0.th.Tokens p0.m,K6 1 p2,(2,B1),K6 3 v11,(13,E4 y13.1)]) 49 (zi h (fun h => ?_) fun h => ?_))))))))))))
 refine aV (zy fun _ => zk 3 (bK h fun k19 he h => cY (v := .c (.ptr 3 (0 + k19 * 1))) (foot := []) (zH (n := 3) (q := 0) (len := 22) (sz := 1) (k := k19) (ix := v10) he (by kernel_rfl)) (by kernel_rfl) rfl rfl ?_))
 have hb_k19 := iD he
 exact sB (n := 3) (off := (0 + k19 * 1)) (T0 := 52) (sz := 1) (lx := [I y13.1.N]) (l := [I v11.x0,I v11.x1,I v11.x2,I v11.x3,I v11.x4,I v11.x5,I v11.x6,I v11.x7,I v11.x8,I v11.x9,I v11.x10,I v11.x11,I v11.x12,I v11.x13,I v11.x14,I v11.x15,I v11.x16,I v11.x17,I v11.x18,I v11.x19,I v11.x20,I v11.x21]) (l2 := [I ((E9 v11 k19 y13.1.N).x0),I ((E9 v11 k19 y13.1.N).x1),I ((E9 v11 k19 y13.1.N).x2),I ((E9 v11 k19 y13.1.N).x3),I ((E9 v11 k19 y13.1.N).x4),I ((E9 v11 k19 y13.1.N).x5),I ((E9 v11 k19 y13.1.N).x6),I ((E9 v11 k19 y13.1.N).x7),I ((E9 v11 k19 y13.1.N).x8),I ((E9 v11 k19 y13.1.N).x9),I ((E9 v11 k19 y13.1.N).x10),I ((E9 v11 k19 y13.1.N).x11),I ((E9 v11 k19 y13.1.N).x12),I ((E9 v11 k19 y13.1.N).x13),I ((E9 v11 k19 y13.1.N).x14),I ((E9 v11 k19 y13.1.N).x15),I ((E9 v11 k19 y13.1.N).x16),I ((E9 v11 k19 y13.1.N).x17),I ((E9 v11 k19 y13.1.N).x18),I ((E9 v11 k19 y13.1.N).x19),I ((E9 v11 k19 y13.1.N).x20),I ((E9 v11 k19 y13.1.N).x21)]) (by kernel_rfl) (by kernel_rfl) (by simp only [List.length_cons,List.length_nil]; omega) (by rw [Nat.zero_add]; exact aB.splice_eq v11 k19 y13.1.N hb_k19) (by kernel_rfl) rfl rfl (bT (dI zI (hj15 _ h)))
 refine aV (zy fun _ => zk 2 (bK h fun e20 he h => rx_idxA (enc := kF) (xs := bE) (ix := v10) (e := e20) (c := [Bo e20.inherited,I e20.low,I e20.high,I e20.start]) (len := 22) (sz := 4) he (by kernel_rfl) (by kernel_rfl) (by kernel_rfl) (fun x => by kernel_rfl) (by kernel_rfl) rfl rfl (zk 2 (bK h fun k21 he h => cY (v := .c (.ptr 3 (0 + k21 * 1))) (foot := []) (zH (n := 3) (q := 0) (len := 22) (sz := 1) (k := k21) (ix := v10) he (by kernel_rfl)) (by kernel_rfl) rfl rfl ?_))))
 have hb_k21 := iD he
 exact sB (n := 3) (off := (0 + k21 * 1)) (T0 := 52) (sz := 1) (lx := [I e20.start]) (l := [I v11.x0,I v11.x1,I v11.x2,I v11.x3,I v11.x4,I v11.x5,I v11.x6,I v11.x7,I v11.x8,I v11.x9,I v11.x10,I v11.x11,I v11.x12,I v11.x13,I v11.x14,I v11.x15,I v11.x16,I v11.x17,I v11.x18,I v11.x19,I v11.x20,I v11.x21]) (l2 := [I ((E9 v11 k21 e20.start).x0),I ((E9 v11 k21 e20.start).x1),I ((E9 v11 k21 e20.start).x2),I ((E9 v11 k21 e20.start).x3),I ((E9 v11 k21 e20.start).x4),I ((E9 v11 k21 e20.start).x5),I ((E9 v11 k21 e20.start).x6),I ((E9 v11 k21 e20.start).x7),I ((E9 v11 k21 e20.start).x8),I ((E9 v11 k21 e20.start).x9),I ((E9 v11 k21 e20.start).x10),I ((E9 v11 k21 e20.start).x11),I ((E9 v11 k21 e20.start).x12),I ((E9 v11 k21 e20.start).x13),I ((E9 v11 k21 e20.start).x14),I ((E9 v11 k21 e20.start).x15),I ((E9 v11 k21 e20.start).x16),I ((E9 v11 k21 e20.start).x17),I ((E9 v11 k21 e20.start).x18),I ((E9 v11 k21 e20.start).x19),I ((E9 v11 k21 e20.start).x20),I ((E9 v11 k21 e20.start).x21)]) (by kernel_rfl) (by kernel_rfl) (by simp only [List.length_cons,List.length_nil]; omega) (by rw [Nat.zero_add]; exact aB.splice_eq v11 k21 e20.start hb_k21) (by kernel_rfl) rfl rfl (bT (dI zI (hj15 _ h)))
 exact aJ (zv [(2,0),(3,1)] [8,10] 2) (bF (hj2 _ h))
end Go.Proofs.YtojkihhnioeggaaGreatDoor.S
