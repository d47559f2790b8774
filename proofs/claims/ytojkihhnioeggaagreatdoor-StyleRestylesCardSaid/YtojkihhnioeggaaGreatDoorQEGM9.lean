import Derived.Test.YtojkihhnioeggaaGreatDoorQEGM8
set_option linter.all false
set_option maxRecDepth 100000
set_option maxHeartbeats 4000000
namespace Go.Proofs.YtojkihhnioeggaaGreatDoor.S
open Go Go.Bm
def gU (p3 : bA) (v34 : List (Int × aB)) (j35 : List aZ → Option ((List aZ) × Int)) : Nat → List aZ → Int → Option ((List aZ) × Int)
 | 0,_,_ => none
 | n + 1,v39,v40 => (if (decide (v40 < (List.length p3.Nodes : Int))) = true then (idx p3.Nodes v40).bind fun e41 => (some (cZ e41.ID v34,iG e41.ID v34)).bind fun y42 => (pA 184 v39 [(aZ.mk e41.ID y42.1)]).bind fun l43 => gU p3 v34 j35 n l43 (w6 (v40 + 1)) else j35 v39)
def gR (y17 : (List Int)) (y4 : fO) (p0 : bM) (y15 : (List Int)) (p1 : bS) (p2 : cX) (p3 : bA) (j16 : List (Int × aB) → Option ((List aZ) × Int)) : Nat → Int → List (Int × aB) → Option ((List aZ) × Int)
 | 0,_,_ => none
 | n + 1,v25,v26 => (if (decide (v25 < (List.length y17 : Int))) = true then (idx y17 v25).bind fun e27 => (some (cZ e27 y4.nodes,iG e27 y4.nodes)).bind fun y28 => (some (cZ y28.1.Parent v26,iG y28.1.Parent v26)).bind fun y29 => (nY n (jH.mk y4 p0.Rules y15 p1 p2) e27 y29.1 (e27 == p3.Root)).bind fun y30 => gR y17 y4 p0 y15 p1 p2 p3 j16 n (w6 (v25 + 1)) (gS e27 y30 v26) else j16 v26)
def gW (p0 : bM) (j5 : List Int → Option ((List aZ) × Int)) (p3 : bA) (y4 : fO) (p1 : bS) (p2 : cX) : Nat → Int → List Int → Option ((List aZ) × Int)
 | 0,_,_ => none
 | n + 1,v8,v9 => (if (decide (v8 < (List.length p0.Rules : Int))) = true then (pA 8 v9 [v8]).bind fun l10 => gW p0 j5 p3 y4 p1 p2 n (w6 (v8 + 1)) l10 else j5 v9)
def kH (n : Nat) (p0 : bM) (p1 : bS) (p2 : cX) (p3 : bA) (p4 : (List aO)) : Option ((List aZ) × Int) := (nE n p0).bind fun y1 => (if (y1 != 0) = true then some (([] : List aZ),y1) else (mN n p1).bind fun y2 => (if (y2 != 0) = true then some (([] : List aZ),y2) else (if ((decide (p2.Scale < 50)) || (decide (p2.Scale > 400))) = true then some (([] : List aZ),1) else (qE n p3).bind fun y3 => (if (y3 != 0) = true then some (([] : List aZ),y3) else (qA n p3 p4).bind fun y4 => (aS (fun (v14 : List Int) => (dP n v14 p0).bind fun y15 => (aS (fun (v34 : List (Int × aB)) => (aS (fun (v46 : List aZ) => some (v46,0)) (fun (j35 : List aZ → Option ((List aZ) × Int)) => gU p3 v34 j35 n ([] : List aZ) 0))) (fun (j16 : List (Int × aB) → Option ((List aZ) × Int)) => (qD n p3).bind fun y17 => gR y17 y4 p0 y15 p1 p2 p3 j16 n 0 ([] : List (Int × aB))))) (fun (j5 : List Int → Option ((List aZ) × Int)) => gW p0 j5 p3 y4 p1 p2 n 0 ([] : List Int)))))))
theorem qC (n : Nat) (p0 : bM) (p1 : bS) (p2 : cX) (p3 : bA) (p4 : (List aO)) (r : ((List aZ) × Int)) (h : kH n p0 p1 p2 p3 p4 = some r) : dC E 17 0 [R0 p0.Rules,O8 p1.Tokens,F3 p2,B5 p3,B7 p4] [] (.tup [C3 r.1,C7 r.2]) [] := by
 refine eO Tryz.func17 rfl ?_
 unfold kH at h
 refine za [4,5,6,7,8] (aM (zx fun _ => zk 1 (bK h fun y1 he h => zc fok34 (Cf n _ y1 he) (zk 1 (ze [4,5,6,7,8,12] (za [4,5,6,7,8,12,26] (zi h (fun h => ?_) fun h => ?_)))))))
 refine za [10,11] ?_
 cases h
 exact aG zr
 refine aD (aM (zx fun _ => zk 1 (bK h fun y2 he h => zc fok35 (Cd n _ y2 he) (zk 1 (ze [4,5,6,7,8,13] (za [4,5,6,7,8,13,31] (zi h (fun h => ?_) fun h => ?_)))))))
 refine za [10,11] ?_
 cases h
 exact aG zr
 refine aD (aM (zx fun _ => zk 4 (zq (zq (zq (zp (kS [4,5,6,7,8,40] (L2 := [I5 4 p4,A1 5 0 0,J0,A1 7 2 0,A1 8 3 0,B4 40 (B0 p2.Scale 50 400)]) (G2 := [E5 p0.Rules,J5 p1.Tokens,J6 p2,G4 3 p3]) 24 (zi h (fun h => ?_) fun h => ?_))))))))
 refine za [10,11] ?_
 cases h
 exact aG zr
 refine aD (aM (zx fun _ => zk 1 (bK h fun y3 he h => zc fok26 (zJ n _ y3 he) (zk 1 (ze [4,5,6,7,8,14] (za [4,5,6,7,8,14,44] (zi h (fun h => ?_) fun h => ?_)))))))
 refine za [10,11] ?_
 cases h
 exact aG zr
 refine aD (vK [[],[],[0,1],[],[3],[],[],[2,4,5,6,0,1,3],[],[8,7,2,0,1,3,4,5,6]] fun _ => zk 2 (bK h fun y4 he h => zc fok36 (vM n _ _ y4 he) (zk 7 (ze [5,8,15] (aR h (fun A j => ∀ v14,j v14 = some r → A (mk [A1 5 0 0,A1 8 1 0,A1 15 2 0] [E5 p0.Rules,G4 1 p3,M4 2 95 y4 p0.Rules 3 p1.Tokens p2.Dark p2.High p2.Scale,(3,E8 v14)] 4)) (fun v14 h => ?_) (fun j5 Aj5 hj5 h => ?_))))))
 refine aJ (yP 0 (T := 31) (l := [C4 p0.Rules]) (l2 := [C4 p0.Rules]) (L2 := [(5,.c (.imm [C4 p0.Rules])),A1 8 1 0,A1 15 2 0]) (G2 := [G4 1 p3,M4 2 95 y4 p0.Rules 3 p1.Tokens p2.Dark p2.High p2.Scale,(3,E8 v14)]) (by kernel_rfl) (by kernel_rfl) (by kernel_rfl) (by kernel_rfl)) (zx fun _ => zk 3 (bK h fun y15 he h => zo [(0,3)] fok37 (pO n _ _ y15 he) (ze [8,15] (za [8,15,17] (aR h (fun A j => ∀ v34,j v34 = some r → A (mk [L6,F1 17 1] [G4 0 p3,(1,.map true (List.map (eM (B6) nR) v34))] 2)) (fun v34 h => ?_) (fun j16 Aj16 hj16 h => ?_))))))
 refine za [8,17,20] (aR h (fun A j => ∀ v46,j v46 = some r → A (mk [(20,.c (.app 0 (List.map aX v46)))] [C1 0 54 23 v46] 1)) (fun v46 h => ?_) (fun j35 Aj35 hj35 h => ?_))
 refine za [10,11] ?_
 cases h
 exact aG zr
 refine zx fun _ => zk 2 (zl aE p3.Nodes (zk 1 (ze [17,20,98,99,100] (aI (bB (fun n s => ∃ v39 v40,gU p3 v34 j35 n v39 v40 = some r ∧ s = mk [F1 17 0,(20,.c (.app 1 (List.map aX v39))),(98,P1 p3.Nodes),(99,.c (I (List.length p3.Nodes : Int))),A7 100 v40] [(0,.map true (List.map (eM (B6) nR) v34)),C1 1 54 23 v39] 2) n _ (dZ.trans (mB (L2 := [F1 17 1,(20,.c (.app 7 (List.map aX ([] : List aZ)))),(98,P1 p3.Nodes),(99,.c (I (List.length p3.Nodes : Int))),I4 100]) (G2 := [G4 0 p3,(1,.map true (List.map (eM (B6) nR) v34)),(7,.tok 54 23 (List.length ([] : List aZ)))]) (lim2 := 8) 20 54 23 (by kernel_rfl) (by kernel_rfl) (by kernel_rfl) (by kernel_rfl)) (zv [(1,0),(7,1)] [17,20,98,99,100] 2)) ⟨_,_,h,rfl⟩ (fun s ⟨v39,v40,h,_⟩ => nomatch h) ?_)))))
 rintro n s ⟨v39,v40,h,rfl⟩
 rw [gU] at h
 refine za [17,20,98,99,100,101] (aM (zi h (fun h => ?_) fun h => ?_))
 exact aD (aM (aI (zx fun _ => bK h fun e41 he h => zd aE he (zk 3 (ze [17,20,22,98,99,100] (zy fun _ => zk 6 (bK h fun y42 he h => zw (v := .agg [I y42.1.x0,I y42.1.x1,I y42.1.x2,I y42.1.x3,I y42.1.x4,I y42.1.x5,I y42.1.x6,I y42.1.x7,I y42.1.x8,I y42.1.x9,I y42.1.x10,I y42.1.x11,I y42.1.x12,I y42.1.x13,I y42.1.x14,I y42.1.x15,I y42.1.x16,I y42.1.x17,I y42.1.x18,I y42.1.x19,I y42.1.x20,I y42.1.x21]) [0] (cW (kf := (B6)) (enc := nR) (l := v34) (k := e41.ID) (ok := false) (kk := .int .i64) (j := ⟨.arr 22 3,22,176,[.int .i64 0,.int .i64 0,.int .i64 0,.int .i64 0,.int .i64 0,.int .i64 0,.int .i64 0,.int .i64 0,.int .i64 0,.int .i64 0,.int .i64 0,.int .i64 0,.int .i64 0,.int .i64 0,.int .i64 0,.int .i64 0,.int .i64 0,.int .i64 0,.int .i64 0,.int .i64 0,.int .i64 0,.int .i64 0]⟩) (p := y42) (v := .agg [I y42.1.x0,I y42.1.x1,I y42.1.x2,I y42.1.x3,I y42.1.x4,I y42.1.x5,I y42.1.x6,I y42.1.x7,I y42.1.x8,I y42.1.x9,I y42.1.x10,I y42.1.x11,I y42.1.x12,I y42.1.x13,I y42.1.x14,I y42.1.x15,I y42.1.x16,I y42.1.x17,I y42.1.x18,I y42.1.x19,I y42.1.x20,I y42.1.x21]) he (by kernel_rfl) eQ (by kernel_rfl) (by kernel_rfl) (by kernel_rfl)) (zk 2 (bK h fun l43 he h => cI (enc := aX) (l := v39) (els := [aZ.mk e41.ID y42.1]) (r := l43) (old := some 1) (e := 54) (sz := 23) (bytes := 184) (k := (H6 v39)) (nm := 16) he (by kernel_rfl) (by kernel_rfl) (fun x => by kernel_rfl) (by kernel_rfl) (by kernel_rfl) rfl rfl rfl (zk 1 (bT (aV (zb (dI (zv [(0,0),(16,1)] [17,20,98,99,100] 2) (⟨_,_,h,rfl⟩)))))))))))))))
 exact aJ (zv [(1,0)] [20] 1) (bF (hj35 _ h))
 refine zx fun _ => zk 1 (bK h fun y17 he h => zc fok41 (zD n _ y17 he) (zl aL y17 (zk 1 (ze [8,15,17,73,74,75] (aI (bB (fun n s => ∃ v25 v26,gR y17 y4 p0 y15 p1 p2 p3 j16 n v25 v26 = some r ∧ s = mk [L6,A1 15 1 0,F1 17 2,F8 73 y17,(74,.c (I (List.length y17 : Int))),A7 75 v25] [G4 0 p3,G8 1 y4 p0.Rules y15 p1.Tokens p2,(2,.map true (List.map (eM (B6) nR) v26))] 3) n _ (dZ.trans (nM 3 (T := 3) (sz := 1) (l := List.map aL y15) (L2 := [A1 8 1 0,A1 15 2 0,F1 17 8,F8 73 y17,(74,.c (I (List.length y17 : Int))),I4 75]) (G2 := [G4 1 p3,G8 2 y4 p0.Rules y15 p1.Tokens p2,(8,.map true (List.map (eM (B6) nR) ([] : List (Int × aB))))]) (by kernel_rfl) (by kernel_rfl) (by kernel_rfl)) (zv [(1,0),(2,1),(8,2)] [8,15,17,73,74,75] 3)) ⟨_,_,h,rfl⟩ (fun s ⟨v25,v26,h,_⟩ => nomatch h) ?_))))))
 rintro n s ⟨v25,v26,h,rfl⟩
 rw [gR] at h
 refine za [8,15,17,73,74,75,76] (aM (zi h (fun h => ?_) fun h => ?_))
 exact aD (aM (aI (zx fun _ => bK h fun e27 he h => zd aL he (zk 2 (ze [8,15,17,19,73,74,75] (zy fun _ => zk 9 (bK h fun y28 he h => zw (v := .agg [I y28.1.ID,I y28.1.Parent,I y28.1.Kind,Sx y28.1.Key,C5 y28.1.Attrs,C6 y28.1.Actions,C2 y28.1.Kids]) [] (cW (kf := (B6)) (enc := aE) (l := y4.nodes) (k := e27) (ok := false) (kk := .int .i64) (j := ⟨.st [(3,0,1),(3,1,1),(3,2,1),(9,3,1),(55,4,1),(56,5,1),(22,6,1)],7,112,[.int .i64 0,.int .i64 0,.int .i64 0,.string ⟨#[]⟩,.slice none 0 0,.slice none 0 0,.slice none 0 0]⟩) (p := y28) (v := .agg [I y28.1.ID,I y28.1.Parent,I y28.1.Kind,Sx y28.1.Key,C5 y28.1.Attrs,C6 y28.1.Actions,C2 y28.1.Kids]) he (by kernel_rfl) eQ (by kernel_rfl) (by kernel_rfl) (by kernel_rfl)) (zk 1 (bK h fun y29 he h => zw (v := .agg [I y29.1.x0,I y29.1.x1,I y29.1.x2,I y29.1.x3,I y29.1.x4,I y29.1.x5,I y29.1.x6,I y29.1.x7,I y29.1.x8,I y29.1.x9,I y29.1.x10,I y29.1.x11,I y29.1.x12,I y29.1.x13,I y29.1.x14,I y29.1.x15,I y29.1.x16,I y29.1.x17,I y29.1.x18,I y29.1.x19,I y29.1.x20,I y29.1.x21]) [2] (cW (kf := (B6)) (enc := nR) (l := v26) (k := y28.1.Parent) (ok := false) (kk := .int .i64) (j := ⟨.arr 22 3,22,176,[.int .i64 0,.int .i64 0,.int .i64 0,.int .i64 0,.int .i64 0,.int .i64 0,.int .i64 0,.int .i64 0,.int .i64 0,.int .i64 0,.int .i64 0,.int .i64 0,.int .i64 0,.int .i64 0,.int .i64 0,.int .i64 0,.int .i64 0,.int .i64 0,.int .i64 0,.int .i64 0,.int .i64 0,.int .i64 0]⟩) (p := y29) (v := .agg [I y29.1.x0,I y29.1.x1,I y29.1.x2,I y29.1.x3,I y29.1.x4,I y29.1.x5,I y29.1.x6,I y29.1.x7,I y29.1.x8,I y29.1.x9,I y29.1.x10,I y29.1.x11,I y29.1.x12,I y29.1.x13,I y29.1.x14,I y29.1.x15,I y29.1.x16,I y29.1.x17,I y29.1.x18,I y29.1.x19,I y29.1.x20,I y29.1.x21]) he (by kernel_rfl) eQ (by kernel_rfl) (by kernel_rfl) (by kernel_rfl)) (zk 4 (bK h fun y30 he h => zc fok42 (Dk n _ _ _ _ y30 he) (kT (kf := (B6)) (enc := nR) (l := v26) (k := e27) (v := y30) (n := 2) (ag := true) (kk := .int .i64) (by kernel_rfl) eQ (by kernel_rfl) (by kernel_rfl) rfl rfl (bT (aV (zb (dI zI (⟨_,_,h,rfl⟩)))))))))))))))))
 exact aJ (zv [(0,0),(2,1)] [8,17] 2) (bF (hj16 _ h))
 refine zx fun _ => zk 2 (zl aY p0.Rules (zk 1 (kS [5,8,15,56,57] (L2 := [A1 5 0 0,A1 8 3 0,A1 15 37 0,(56,.c (I (List.length p0.Rules : Int))),I4 57]) (G2 := [E5 p0.Rules,J5 p1.Tokens,J6 p2,G4 3 p3,(37,.blk 95 [D2 y4.nodes,D5 y4.class_,E1 y4.states,C4 p0.Rules,bV,F7 p1.Tokens,Bo p2.Dark,Bo p2.High,I p2.Scale])]) 43 (aI (bB (fun n s => ∃ v8 v9,gW p0 j5 p3 y4 p1 p2 n v8 v9 = some r ∧ s = mk [A1 5 0 0,A1 8 1 0,A1 15 2 0,(56,.c (I (List.length p0.Rules : Int))),A7 57 v8] [E5 p0.Rules,G4 1 p3,M4 2 95 y4 p0.Rules 3 p1.Tokens p2.Dark p2.High p2.Scale,(3,E8 v9)] 4) n _ (dZ.trans (zS (n := 37) (T0 := 95) (l := [D2 y4.nodes,D5 y4.class_,E1 y4.states,C4 p0.Rules,bV,F7 p1.Tokens,Bo p2.Dark,Bo p2.High,I p2.Scale]) (G2 := [E5 p0.Rules,J5 p1.Tokens,J6 p2,G4 3 p3,M4 37 95 y4 p0.Rules 43 p1.Tokens p2.Dark p2.High p2.Scale,(43,.vec 3 1 (List.map aL ([] : List Int)))]) (lim2 := 44) 4 3 1 (by kernel_rfl) (by kernel_rfl) (by kernel_rfl) (by kernel_rfl)) (zv [(0,0),(3,1),(37,2),(43,3)] [5,8,15,56,57] 4)) ⟨_,_,h,rfl⟩ (fun s ⟨v8,v9,h,_⟩ => nomatch h) ?_)))))
 rintro n s ⟨v8,v9,h,rfl⟩
 rw [gW] at h
 refine za [5,8,15,56,57,58] (aM (zi h (fun h => ?_) fun h => ?_))
 exact aD (aM (aI (za [5,8,15,16,56,57] (zy fun _ => zk 4 (bK h fun l10 he h => oK (enc := aL) (l := v9) (els := [v8]) (r := l10) (m := 3) (e := 3) (sz := 1) (bytes := 8) (nm := 11) he (by kernel_rfl) (fun x => by kernel_rfl) (by kernel_rfl) (by kernel_rfl) rfl rfl rfl (zk 2 (bT (aV (zb (dI (zv [(0,0),(1,1),(2,2),(11,3)] [5,8,15,56,57] 4) (⟨_,_,h,rfl⟩)))))))))))
 exact aJ zI (bF (hj5 _ h))
def kA (n : Nat) (p0 : cM) (p1 : bW) : Option Int := (if ((decide (p1.Prop_ < 0)) || (decide (p1.Prop_ ≥ 22))) = true then some 1 else (if ((((decide (p1.Source < 0)) || (decide (p1.Source > 3))) || ((p1.N != 0) && (p1.Source != 0))) || ((!(bP p1.Token nB)) && (p1.Source != 1))) = true then some 9 else (gd [(p1.Source == 0)] (dS n p1.Prop_ p1.N)).bind fun y1 => (if ((p1.Source == 0) && (!y1)) = true then some 1 else (gd [(p1.Source == 1)] (eD n p1.Token)).bind fun y2 => (if ((p1.Source == 1) && (!y2)) = true then some 4 else (if (((p1.Prop_ == 5) || (p1.Prop_ == 21)) && ((oU .i64 p0.States 7) != 0)) = true then some 13 else some 0)))))
theorem xJ (n : Nat) (p0 : cM) (p1 : bW) (r : Int) (h : kA n p0 p1 = some r) : dC E 109 0 [E0 p0,M7 p1] [] (C7 r) [] := by
 refine eO Tryz.func109 rfl ?_
 unfold kA at h
 refine za [2,3] (aM (zx fun _ => zk 4 (zq (zq (zq (zp (ze [2,3,12] (zi h (fun h => ?_) fun h => ?_))))))))
 refine za [4] ?_
 cases h
 exact aG zr
 refine aD (aM (zx fun _ => zk 4 (zq (zq (zq (zp (zk 1 (zq (zq (zq (zF [!(B0 p1.Source 0 3)] (D7 (p1.N != 0)) (zq (zq (zq (zp (zp (Ry 1 (L' := [J2,N0,B4 12 ((D4 p1.Prop_ 0) || (P9 p1.Prop_ 22)),A1 13 1 1,A7 14 p1.Source,B4 15 (D4 p1.Source 0),B4 16 (D4 p1.Source 0),(17,.cnd [!(D4 p1.Source 0)] (D6 1 1)),N5 18 p1.Source 0,(19,.cnd [!(D4 p1.Source 0)] (D7 (F2 p1.Source 3))),B4 20 (B0 p1.Source 0 3),B4 21 (B0 p1.Source 0 3),(22,.cnd [!(B0 p1.Source 0 3)] (D6 1 2)),(23,.cnd [!(B0 p1.Source 0 3)] (C7 p1.N)),(24,.cnd [!(B0 p1.Source 0 3)] (D7 (p1.N != 0))),(25,.cnd [!(B0 p1.Source 0 3)] (D7 (p1.N != 0))),(26,.cnd [!(B0 p1.Source 0 3),p1.N != 0] (D6 1 1)),(27,.cnd [!(B0 p1.Source 0 3),p1.N != 0] (C7 p1.Source)),(28,.cnd [!(B0 p1.Source 0 3),p1.N != 0] (D7 (p1.Source != 0))),(29,.cnd [!(B0 p1.Source 0 3)] (D7 ((p1.N != 0) && (p1.Source != 0)))),B4 30 ((B0 p1.Source 0 3) || ((p1.N != 0) && (p1.Source != 0))),B4 31 ((B0 p1.Source 0 3) || ((p1.N != 0) && (p1.Source != 0)))]) (G' := [K7 0 p0,(1,E4 p1)]) (X' := []) (zq (zq (zq (zF [!((B0 p1.Source 0 3) || ((p1.N != 0) && (p1.Source != 0)))] (D7 (!(G9 p1.Token))) (zq (zq (zq (zp (zp (ze [2,3,40] (zi h (fun h => ?_) fun h => ?_))))))))))))))))))))))))))))
 refine za [4] ?_
 cases h
 exact aG zr
 refine aD (aM (zx fun _ => zk 4 (zq (zq (zq (zq (bK h fun y1 he h => yW [p1.Source == 0] Yo (fun hg => qH n _ _ y1 (bQ he hg)) (zq (zp (kS [2,3,51] (L2 := [J2,N0,B4 51 ((p1.Source == 0) && (!y1))]) (G2 := [K7 0 p0,(1,E4 p1)]) 50 (zi h (fun h => ?_) fun h => ?_)))))))))))
 refine za [4] ?_
 cases h
 exact aG zr
 refine aD (aM (zx fun _ => zk 4 (zq (zq (bK h fun y2 he h => yW [p1.Source == 1] zN (fun hg => kP n _ y2 (bQ he hg)) (zq (zp (ze [2,3,60] (zi h (fun h => ?_) fun h => ?_)))))))))
 refine za [4] ?_
 cases h
 exact aG zr
 refine aD (aM (zx fun _ => zk 4 (zq (zq (zq (zp (zk 1 (zq (zq (zq (zq (zp (kS [74] (L2 := [B4 74 (((p1.Prop_ == 5) || (p1.Prop_ == 21)) && ((oU .i64 p0.States 7) != 0))]) (G2 := [K7 0 p0,(1,E4 p1)]) 73 (zi h (fun h => ?_) fun h => ?_))))))))))))))
 refine za [4] ?_
 cases h
 exact aG zr
 refine aD (za [4] ?_)
 cases h
 exact aG zr
def fZ (e14 : cM) (j13 : Unit → Option Int) (v12 : Int) (p0 : bM) : Nat → Int → Option Int
 | 0,_ => none
 | n + 1,v19 => (if (decide (v19 < (List.length e14.Decls : Int))) = true then (idx e14.Decls v19).bind fun e20 => (kA n e14 e20).bind fun y21 => (if (y21 != 0) = true then some y21 else fZ e14 j13 v12 p0 n (w6 (v19 + 1))) else j13 ())
def eT (p0 : bM) (j1 : Unit → Option Int) : Nat → Int → Option Int
 | 0,_ => none
 | n + 1,v12 => (if (decide (v12 < (List.length p0.Rules : Int))) = true then (aS (fun (_ : Unit) => eT p0 j1 n (w6 (v12 + 1))) (fun (j13 : Unit → Option Int) => (idx p0.Rules v12).bind fun e14 => (if ((((decide (e14.Kind < 0)) || (decide (e14.Kind > 13))) || (decide (e14.UnderKind < 0))) || (decide (e14.UnderKind > 13))) = true then some 9 else (gd [(!(bP e14.Class nB))] (eD n e14.Class)).bind fun y15 => (gd [(!((!(bP e14.Class nB)) && (!y15))),(!(bP e14.UnderClass nB))] (eD n e14.UnderClass)).bind fun y16 => (if (((!(bP e14.Class nB)) && (!y15)) || ((!(bP e14.UnderClass nB)) && (!y16))) = true then some 4 else (if ((decide (e14.States < 0)) || (decide (e14.States > 31))) = true then some 1 else (if (decide ((List.length e14.Decls : Int) > 50)) = true then some 2 else fZ e14 j13 v12 p0 n 0)))))) else j1 ())
def mX (n : Nat) (p0 : bM) : Option Int := (if (decide ((List.length p0.Rules : Int) > 100)) = true then some 2 else (aS (fun (_ : Unit) => some 0) (fun (j1 : Unit → Option Int) => eT p0 j1 n 0)))
theorem Bw (n : Nat) (p0 : bM) (r : Int) (h : mX n p0 = some r) : dC E 78 0 [R0 p0.Rules] [] (C7 r) [] := by
 refine eO Tryz.func78 rfl ?_
 unfold mX at h
 refine za [1] (aM (zx fun _ => zk 2 (zl aY p0.Rules (zk 1 (ze [1,10] (zi h (fun h => ?_) fun h => ?_))))))
 refine za [2] ?_
 cases h
 exact aG zr
 refine aD (aR h (fun A j => ∀ u,j u = some r → A (M5)) (fun u h => ?_) (fun j1 Aj1 hj1 h => ?_))
 refine za [2] ?_
 cases h
 exact aG zr
 refine za [1,3] (aI (bB (fun n s => ∃ v12,eT p0 j1 n v12 = some r ∧ s = mk [H9,A7 3 v12] [E5 p0.Rules] 1) n _ zI ⟨_,h,rfl⟩ (fun s ⟨v12,h,_⟩ => nomatch h) ?_))
 rintro n s ⟨v12,h,rfl⟩
 rw [eT] at h
 refine aM (zx fun _ => zk 3 (zl aY p0.Rules (zk 1 (ze [1,3,15] (zi h (fun h => ?_) fun h => ?_)))))
 refine aD (aR h (fun A j => ∀ u,j u = some r → A (mk [H9,A7 3 v12] [E5 p0.Rules] 1)) (fun u h => ?_) (fun j13 Aj13 hj13 h => ?_))
 exact aV (zb (dI zI (⟨_,h,rfl⟩)))
 refine aI (zx fun _ => zk 3 (bK h fun e14 he h => zd aY he (zk 3 (ze [1,3,4] (aM (zx fun _ => zk 4 (zq (zq (zq (zp (zk 1 (zq (zq (zq (zp (zk 1 (zq (zq (zq (zp (kS [1,3,4,40] (L2 := [H9,A7 3 v12,A1 4 11 0,B4 40 (((B0 e14.Kind 0 13) || (D4 e14.UnderKind 0)) || (F2 e14.UnderKind 13))]) (G2 := [E5 p0.Rules,K7 11 e14]) 31 (zi h (fun h => ?_) fun h => ?_))))))))))))))))))))))
 refine za [2] ?_
 cases h
 exact aG zr
 refine aD (aM (zx fun _ => zk 4 (zq (zq (bK h fun y15 he h => yW [!(G9 e14.Class)] zN (fun hg => kP n _ y15 (bQ he hg)) (zq (zp (zk 1 (zq (zq (zq (zF [!((!(G9 e14.Class)) && (!y15))] (D7 (!(G9 e14.UnderClass))) (zq (zq (bK h fun y16 he h => yW [!((!(G9 e14.Class)) && (!y15)),!(G9 e14.UnderClass)] zN (fun hg => kP n _ y16 (bQ he hg)) (zq (zp (zp (kS [1,3,4,60] (L2 := [H9,A7 3 v12,A1 4 11 0,B4 60 (((!(G9 e14.Class)) && (!y15)) || ((!(G9 e14.UnderClass)) && (!y16)))]) (G2 := [E5 p0.Rules,K7 11 e14]) 51 (zi h (fun h => ?_) fun h => ?_))))))))))))))))))))
 refine za [2] ?_
 cases h
 exact aG zr
 refine aD (aM (zx fun _ => zk 4 (zq (zq (zq (zp (ze [1,3,4,68] (zi h (fun h => ?_) fun h => ?_))))))))
 refine za [2] ?_
 cases h
 exact aG zr
 refine aD (aM (zx fun _ => zk 2 (zl bL e14.Decls (zk 1 (ze [1,3,4,72] (zi h (fun h => ?_) fun h => ?_))))))
 refine za [2] ?_
 cases h
 exact aG zr
 refine aD (za [1,3,4,5] (aI (bB (fun n s => ∃ v19,fZ e14 j13 v12 p0 n v19 = some r ∧ s = mk [H9,A7 3 v12,H4,A7 5 v19] [E5 p0.Rules,K7 1 e14] 2) n _ (zv [(0,0),(11,1)] [1,3,4,5] 2) ⟨_,h,rfl⟩ (fun s ⟨v19,h,_⟩ => nomatch h) ?_)))
 rintro n s ⟨v19,h,rfl⟩
 rw [fZ] at h
 refine aM (zx fun _ => zk 3 (zl bL e14.Decls (zk 1 (ze [1,3,4,5,77] (zi h (fun h => ?_) fun h => ?_)))))
 refine aD (aM (aI (vK [[],[],[1],[],[2,3,1],[4,2,3,1],[0,5,4,2,3,1],[6,0,1,2,3,4,5]] fun _ => zk 4 (bK h fun e20 he h => zd bL he (zk 1 (bK h fun y21 he h => zc fok109 (xJ n _ _ y21 he) (zk 1 (ze [1,3,4,5,6] (za [1,3,4,5,6,88] (zi h (fun h => ?_) fun h => ?_))))))))))
 refine za [2] ?_
 cases h
 exact aG zr
 exact aD (aV (zb (dI zI (⟨_,h,rfl⟩))))
 exact aJ zI (bF (hj13 _ h))
 exact aJ zI (bF (hj1 _ h))
def kZ (n : Nat) (p0 : Int) : Option Bool := some ((decide (p0 ≥ (-1 : Int))) && (decide (p0 ≤ 16777215)))
theorem pG (n : Nat) (p0 : Int) (r : Bool) (h : kZ n p0 = some r) : dC E 110 0 [C7 p0] [] (D7 r) [] := by
 refine eO Tryz.func110 rfl ?_
 unfold kZ at h
 refine za [0] (zx fun _ => zk 3 (zq (zq (zp (zk 1 (ze [2] ?_))))))
 cases h
 exact aG zr
def gF (v14 : Int) (p0 : bS) (e16 : fJ) (j18 : Unit → Option Int) : Nat → Int → Option Int
 | 0,_ => none
 | n + 1,v20 => (if (decide (v20 < v14)) = true then (idx p0.Tokens v20).bind fun e21 => (if (bP e21.Name e16.Name) = true then some 6 else gF v14 p0 e16 j18 n (w6 (v20 + 1))) else j18 ())
def gC (p0 : bS) (j1 : Unit → Option Int) : Nat → Int → Option Int
 | 0,_ => none
 | n + 1,v14 => (if (decide (v14 < (List.length p0.Tokens : Int))) = true then (aS (fun (_ : Unit) => gC p0 j1 n (w6 (v14 + 1))) (fun (j15 : Unit → Option Int) => (idx p0.Tokens v14).bind fun e16 => (eD n e16.Name).bind fun y17 => (if (!y17) = true then some 4 else (aS (fun (_ : Unit) => (kZ n e16.Light).bind fun y23 => (gd [(!(!y23))] (kZ n e16.Dark)).bind fun y24 => (gd [(!((!y23) || (!y24)))] (kZ n e16.HighLight)).bind fun y25 => (gd [(!(((!y23) || (!y24)) || (!y25)))] (kZ n e16.HighDark)).bind fun y26 => (if ((((!y23) || (!y24)) || (!y25)) || (!y26)) = true then some 1 else j15 ())) (fun (j18 : Unit → Option Int) => gF v14 p0 e16 j18 n 0))))) else j1 ())
def nF (n : Nat) (p0 : bS) : Option Int := (if (decide ((List.length p0.Tokens : Int) > 100)) = true then some 2 else (aS (fun (_ : Unit) => some 0) (fun (j1 : Unit → Option Int) => gC p0 j1 n 0)))
theorem Co (n : Nat) (p0 : bS) (r : Int) (h : nF n p0 = some r) : dC E 79 0 [O8 p0.Tokens] [] (C7 r) [] := by
 refine eO Tryz.func79 rfl ?_
 unfold nF at h
 refine za [1] (aM (zx fun _ => zk 2 (zl bC p0.Tokens (zk 1 (ze [1,9] (zi h (fun h => ?_) fun h => ?_))))))
 refine za [2] ?_
 cases h
 exact aG zr
 refine aD (aR h (fun A j => ∀ u,j u = some r → A (M5)) (fun u h => ?_) (fun j1 Aj1 hj1 h => ?_))
 refine za [2] ?_
 cases h
 exact aG zr
 refine za [1,3] (aI (bB (fun n s => ∃ v14,gC p0 j1 n v14 = some r ∧ s = mk [H9,A7 3 v14] [(0,C9 p0.Tokens)] 1) n _ zI ⟨_,h,rfl⟩ (fun s ⟨v14,h,_⟩ => nomatch h) ?_))
 rintro n s ⟨v14,h,rfl⟩
 rw [gC] at h
 refine aM (zx fun _ => zk 3 (zl bC p0.Tokens (zk 1 (ze [1,3,14] (zi h (fun h => ?_) fun h => ?_)))))
 refine aD (aR h (fun A j => ∀ u,j u = some r → A (mk [H9,A7 3 v14] [(0,C9 p0.Tokens)] 1)) (fun u h => ?_) (fun j15 Aj15 hj15 h => ?_))
 exact aV (zb (dI zI (⟨_,h,rfl⟩)))
 refine aI (zx fun _ => zk 3 (bK h fun e16 he h => zd bC he (zk 3 (ze [1,3,4] (aM (zx fun _ => zk 2 (bK h fun y17 he h => zc zN (kP n _ y17 he) (zk 1 (ze [1,3,4,25] (zi h (fun h => ?_) fun h => ?_))))))))))
 refine za [2] ?_
 cases h
 exact aG zr
 refine aD (aR h (fun A j => ∀ u,j u = some r → A (mk [H9,A7 3 v14,H4] [(0,C9 p0.Tokens),(1,I0 e16)] 2)) (fun u h => ?_) (fun j18 Aj18 hj18 h => ?_))
 refine zx fun _ => zk 2 (bK h fun y23 he h => zc Oc (pG n _ y23 he) (zk 2 (zq (zq (bK h fun y24 he h => yW [!(!y23)] Oc (fun hg => pG n _ y24 (bQ he hg)) (zq (zp (zk 1 (zq (zq (bK h fun y25 he h => yW [!((!y23) || (!y24))] Oc (fun hg => pG n _ y25 (bQ he hg)) (zq (zp (zk 1 (zq (zq (bK h fun y26 he h => yW [!(((!y23) || (!y24)) || (!y25))] Oc (fun hg => pG n _ y26 (bQ he hg)) (zq (zp (kS [1,3,61] (L2 := [H9,A7 3 v14,B4 61 ((((!y23) || (!y24)) || (!y25)) || (!y26))]) (G2 := [(0,C9 p0.Tokens),(1,I0 e16)]) 24 (zi h (fun h => ?_) fun h => ?_)))))))))))))))))))))
 refine za [2] ?_
 cases h
 exact aG zr
 exact aJ zI (aD (hj15 _ h))
 refine za [1,3,4,5] (aI (bB (fun n s => ∃ v20,gF v14 p0 e16 j18 n v20 = some r ∧ s = mk [H9,A7 3 v14,H4,A7 5 v20] [(0,C9 p0.Tokens),(1,I0 e16)] 2) n _ (zv [(0,0),(11,1)] [1,3,4,5] 2) ⟨_,h,rfl⟩ (fun s ⟨v20,h,_⟩ => nomatch h) ?_))
 rintro n s ⟨v20,h,rfl⟩
 rw [gF] at h
 refine aM (za [1,3,4,5,28] (zi h (fun h => ?_) fun h => ?_))
 refine aD (aM (aI (vK [[],[0],[],[1,2,0],[3,1,2,0],[4,3,1,2,0],[],[6],[5,7,4,3,1,2,0,6]] fun _ => zk 3 (bK h fun e21 he h => zd bC he (zk 5 (ze [1,3,4,5,39] (zi h (fun h => ?_) fun h => ?_)))))))
 refine za [2] ?_
 cases h
 exact aG zr
 exact aD (aV (zb (dI zI (⟨_,h,rfl⟩))))
 exact aJ zI (bF (hj18 _ h))
 exact aJ zI (bF (hj1 _ h))
def jD (p0 : bA) (p1 : Int) (j1 : Unit → Option Int) : Nat → Int → Option Int
 | 0,_ => none
 | n + 1,v3 => (if (decide (v3 < (List.length p0.Nodes : Int))) = true then (idx p0.Nodes v3).bind fun e4 => (if (e4.ID == p1) = true then some v3 else jD p0 p1 j1 n (w6 (v3 + 1))) else j1 ())
def jT (n : Nat) (p0 : bA) (p1 : Int) : Option Int := (aS (fun (_ : Unit) => some (-1 : Int)) (fun (j1 : Unit → Option Int) => jD p0 p1 j1 n 0))
theorem pH (n : Nat) (p0 : bA) (p1 : Int) (r : Int) (h : jT n p0 p1 = some r) : dC E 53 0 [B5 p0,C7 p1] [] (C7 r) [] := by
 refine eO Tryz.func53 rfl ?_
 unfold jT at h
 refine za [1,2] (aR h (fun A j => ∀ u,j u = some r → A (M5)) (fun u h => ?_) (fun j1 Aj1 hj1 h => ?_))
 refine za [4] ?_
 cases h
 exact aG zr
 refine za [1,2,5] (aI (bB (fun n s => ∃ v3,jD p0 p1 j1 n v3 = some r ∧ s = mk [A7 1 p1,J2,A7 5 v3] [G4 0 p0] 1) n _ zI ⟨_,h,rfl⟩ (fun s ⟨v3,h,_⟩ => nomatch h) ?_))
 rintro n s ⟨v3,h,rfl⟩
 rw [jD] at h
 refine aM (zx fun _ => zk 3 (zl aE p0.Nodes (zk 1 (ze [1,2,5,10] (zi h (fun h => ?_) fun h => ?_)))))
 refine aD (aM (aI (zx fun _ => zk 3 (bK h fun e4 he h => zd aE he (zk 4 (ze [1,2,5,20] (zi h (fun h => ?_) fun h => ?_)))))))
 refine za [4] ?_
 cases h
 exact aG zr
 exact aD (aV (zb (dI zI (⟨_,h,rfl⟩))))
 exact aJ zI (bF (hj1 _ h))
def iL (n : Nat) (p0 : bA) (p1 : Int) : Option aU := (jT n p0 p1).bind fun y1 => (if (decide (y1 < 0)) = true then some (aU.mk 0 0 0 nB ([] : List bJ) ([] : List cS) ([] : List Int)) else (idx p0.Nodes y1).bind fun e2 => some e2)
theorem mD (n : Nat) (p0 : bA) (p1 : Int) (r : aU) (h : iL n p0 p1 = some r) : dC E 45 0 [B5 p0,C7 p1] [] (B2 r) [] := by
 refine eO Tryz.func45 rfl ?_
 unfold iL at h
 refine za [1,2,4] (zx fun _ => zk 2 (bK h fun y1 he h => zc Vc (pH n _ _ y1 he) (zk 1 (ze [2,4,5] (aM (za [2,4,5,10] (zi h (fun h => ?_) fun h => ?_)))))))
 refine za [4] ?_
 cases h
 exact aG zr
 refine aD (zx fun _ => zk 3 (bK h fun e2 he h => zd aE he (zk 2 (ze [4] ?_))))
 cases h
 exact aG zr
def jB (y2 : aU) (self_ref14_order : bA → Int → (List Int) → Option (List Int)) (p0 : bA) (j3 : List Int → Option (List Int)) : Nat → Int → List Int → Option (List Int)
 | 0,_,_ => none
 | n + 1,v6,v7 => (if (decide (v6 < (List.length y2.Kids : Int))) = true then (idx y2.Kids v6).bind fun e8 => (self_ref14_order p0 e8 v7).bind fun y9 => jB y2 self_ref14_order p0 j3 n (w6 (v6 + 1)) y9 else j3 v7)
def nK (self_ref14_order : bA → Int → (List Int) → Option (List Int)) (n : Nat) (p0 : bA) (p1 : Int) (p2 : (List Int)) : Option (List Int) := (pA 8 p2 [p1]).bind fun l1 => (iL n p0 p1).bind fun y2 => (aS (fun (v12 : List Int) => some v12) (fun (j3 : List Int → Option (List Int)) => jB y2 self_ref14_order p0 j3 n 0 l1))
theorem yV (self_ref14_order : bA → Int → (K4) → Option (K4)) (ih_ref14_order : ∀ (p0 : bA) (p1 : Int) (p2 : (K4)) (r : (K4)),self_ref14_order p0 p1 p2 = some r → dC E 80 1 [B5 p0,C7 p1,J9 0] [P3 p2] (J9 1) [(1,E8 r)]) (n : Nat) (p0 : bA) (p1 : Int) (p2 : (K4)) (r : (K4)) (h : nK self_ref14_order n p0 p1 p2 = some r) : dC E 80 1 [B5 p0,C7 p1,J9 0] [P3 p2] (J9 1) [(1,E8 r)] := by
 refine eO Tryz.func80 rfl ?_
 unfold nK at h
 refine za [1,2,3] (zx fun _ => zk 3 (bK h fun l1 he h => oK (enc := aL) (l := p2) (els := [p1]) (r := l1) (m := 0) (e := 3) (sz := 1) (bytes := 8) (nm := 6) he (by kernel_rfl) (fun x => by kernel_rfl) (by kernel_rfl) (by kernel_rfl) rfl rfl rfl (zk 1 (ze [1,2,3] (zx fun _ => zk 2 (bK h fun y2 he h => zc Kv (mD n _ _ y2 he) (zk 2 (ze [2,3,7] (aR h (fun A j => ∀ v12,j v12 = some r → A (mk [(2,J9 1)] [(1,E8 v12)] 2)) (fun v12 h => ?_) (fun j3 Aj3 hj3 h => ?_))))))))))
 refine za [6] ?_
 have h := Option.some.inj h
 subst h
 exact aJ (tX rfl [(1,1)] [6] (L2 := [(6,J9 1)]) (G2 := [(1,E8 v12)]) (lim2 := 2) (by kernel_rfl)) (aG (Ng (.inl rfl) (by kernel_rfl) (by kernel_rfl)))
 refine za [2,3,7,8] (aI (bB (fun n s => ∃ v6 v7,jB y2 self_ref14_order p0 j3 n v6 v7 = some r ∧ s = mk [(2,J9 1),L5,A1 7 3 0,A7 8 v6] [(1,E8 v7),G4 2 p0,K3 3 y2] 4) n _ (zv [(6,1),(1,2),(11,3)] [2,3,7,8] 4) ⟨_,_,h,rfl⟩ (fun s ⟨v6,v7,h,_⟩ => nomatch h) ?_))
 rintro n s ⟨v6,v7,h,rfl⟩
 rw [jB] at h
 refine aM (zx fun _ => zk 3 (zl aL y2.Kids (zk 1 (ze [2,3,7,8,20] (zi h (fun h => ?_) fun h => ?_)))))
 exact aD (aM (aI (Ov [[],[],[1],[],[2,3,1],[4,2,3,1],[],[0,5,6,4,2,3,1],[7,0,1,2,3,4,5,6]] fun _ => zk 4 (bK h fun e8 he h => zd aL he (zk 2 (bK h fun y9 he h => uX (F := 80) (As := [B5 p0,C7 e8,J9 1]) (Bs := [B5 p0,C7 e8,J9 0]) (σ := [(0,1),(1,16)]) (k := 1) (kn := 1) (nm := 16) (Gc := [P3 v7]) (Gf := [(1,E8 y9)]) (r := .c (.row 1)) (v := .c (.row 16)) (by kernel_rfl) Zy ⟨.inl (by kernel_rfl),⟨.inl (by kernel_rfl),⟨.inr ⟨(by kernel_rfl),(by kernel_rfl)⟩,trivial⟩⟩⟩ (ih_ref14_order _ _ _ y9 he) (by kernel_rfl) (by kernel_rfl) (by kernel_rfl) (by kernel_rfl) (by kernel_rfl) (by kernel_rfl) rfl rfl rfl (zk 1 (bT (aV (zb (dI (zv [(16,1),(2,2),(3,3)] [2,3,7,8] 4) (⟨_,_,h,rfl⟩))))))))))))
 exact aJ (zv [(1,1)] [2] 2) (bF (hj3 _ h))
def jA : Nat → bA → Int → (List Int) → Option (List Int)
 | 0,_,_,_ => none
 | n + 1,p0,p1,p2 => nK (fun a0 a1 a2 => jA n a0 a1 a2) n p0 p1 p2
theorem xV (n : Nat) : (∀ (p0 : bA) (p1 : Int) (p2 : (K4)) (r : (K4)),jA n p0 p1 p2 = some r → dC E 80 1 [B5 p0,C7 p1,J9 0] [P3 p2] (J9 1) [(1,E8 r)]) := by
 induction n with
 | zero => intro p0 p1 p2 r h; rw [jA] at h; cases h
 | succ n ih => intro p0 p1 p2 r h; rw [jA] at h; exact yV _ ih n _ _ _ r h
end Go.Proofs.YtojkihhnioeggaaGreatDoor.S
