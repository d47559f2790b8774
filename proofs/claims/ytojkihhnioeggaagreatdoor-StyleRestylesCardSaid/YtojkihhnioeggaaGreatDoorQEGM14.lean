import Derived.Test.YtojkihhnioeggaaGreatDoorQEGM13
set_option linter.all false
set_option maxRecDepth 100000
set_option maxHeartbeats 4000000
namespace Go.Proofs.YtojkihhnioeggaaGreatDoor.S
open Go Go.Bm
def kE (j9 : Int → ByteArray → List bJ → List Int → Int → List aN → Option (aN × aW)) (p1 : aN) (y10 : (Int × aW)) : Nat → Int → Int → List aN → Option (aN × aW)
 | 0,_,_,_ => none
 | n + 1,v45,v46,v47 => (if (decide (v45 < v46)) = true then (rL v45 (List.length v47)).bind fun k48 => (v47[k48]?).bind fun e49 => (rL v46 (List.length v47)).bind fun k50 => (v47[k50]?).bind fun e51 => (rL v45 (List.length v47)).bind fun k52 => (v47[k52]?).bind fun e53 => (rL v46 (List.length (List.set v47 k52 e51))).bind fun k54 => ((List.set v47 k52 e51)[k54]?).bind fun e55 => kE j9 p1 y10 n (w6 (v45 + 1)) (w6 (v46 - 1)) (List.set (List.set v47 k52 e51) k54 e49) else j9 p1.Kind p1.Key p1.Attrs y10.2.L y10.2.At v47)
def oC (self_Src_mutate : aW → aN → Option (aN × aW)) (n : Nat) (p0 : aW) (p1 : aN) : Option (aN × aW) := (pA 96 [] p1.Kids).bind fun l1 => (ifO [(decide ((List.length l1 : Int) > 0))] (cF n p0 2) ((default : Int),p0)).bind fun y2 => (if ((decide ((List.length l1 : Int) > 0)) && (y2.1 == 0)) = true then (cF n y2.2 (List.length l1 : Int)).bind fun y3 => (rL y3.1 (List.length l1)).bind fun k4 => (l1[k4]?).bind fun e5 => (self_Src_mutate y3.2 e5).bind fun y6 => (rL y3.1 (List.length l1)).bind fun k7 => (l1[k7]?).bind fun e8 => some ((aN.mk p1.Kind p1.Key p1.Attrs p1.Actions (List.set l1 k7 y6.1)),y6.2) else (aS (fun (v59 : Int) (v60 : ByteArray) (v61 : List bJ) (v62 : List Int) (v63 : Int) (v64 : List aN) => some ((aN.mk v59 v60 v61 p1.Actions v64),(aW.mk v62 v63))) (fun (j9 : Int → ByteArray → List bJ → List Int → Int → List aN → Option (aN × aW)) => (cF n y2.2 7).bind fun y10 => (if (y10.1 == 0) = true then (rX n y10.2 p1.Kind).bind fun y11 => j9 p1.Kind p1.Key y11.1 y11.2.L y11.2.At l1 else (if (y10.1 == 1) = true then (if (decide ((List.length l1 : Int) > 1)) = true then (cF n y10.2 (List.length l1 : Int)).bind fun y12 => (cF n y12.2 (List.length l1 : Int)).bind fun y13 => (rL y12.1 (List.length l1)).bind fun k14 => (l1[k14]?).bind fun e15 => (rL y13.1 (List.length l1)).bind fun k16 => (l1[k16]?).bind fun e17 => (rL y12.1 (List.length l1)).bind fun k18 => (l1[k18]?).bind fun e19 => (rL y13.1 (List.length (List.set l1 k18 e17))).bind fun k20 => ((List.set l1 k18 e17)[k20]?).bind fun e21 => j9 p1.Kind p1.Key p1.Attrs y13.2.L y13.2.At (List.set (List.set l1 k18 e17) k20 e15) else j9 p1.Kind p1.Key p1.Attrs y10.2.L y10.2.At l1) else (if (y10.1 == 2) = true then (if (decide ((List.length l1 : Int) > 0)) = true then (cF n y10.2 (List.length l1 : Int)).bind fun y22 => (Bm.Fd l1 0 y22.1).bind fun l23 => (pA 96 [] l23).bind fun l24 => (Bm.Fd l1 (w6 (y22.1 + 1)) (List.length l1 : Int)).bind fun l25 => (pA 96 l24 l25).bind fun l26 => j9 p1.Kind p1.Key p1.Attrs y22.2.L y22.2.At l26 else j9 p1.Kind p1.Key p1.Attrs y10.2.L y10.2.At l1) else (if (y10.1 == 3) = true then (cF n y10.2 (w6 ((List.length l1 : Int) + 1))).bind fun y27 => (Bm.Fd l1 0 y27.1).bind fun l28 => (pA 96 [] l28).bind fun l29 => (pR n y27.2 1).bind fun y30 => (pA 96 l29 [y30.1]).bind fun l31 => (Bm.Fd l1 y27.1 (List.length l1 : Int)).bind fun l32 => (pA 96 l31 l32).bind fun l33 => j9 p1.Kind p1.Key p1.Attrs y30.2.L y30.2.At l33 else (if (y10.1 == 4) = true then (oR n y10.2 1 13).bind fun y34 => j9 y34.1 p1.Key p1.Attrs y34.2.L y34.2.At l1 else (if (y10.1 == 5) = true then (cF n y10.2 4).bind fun y35 => (idx [nB,(⟨#[107,97]⟩ : ByteArray),(⟨#[107,98]⟩ : ByteArray),(⟨#[107,122]⟩ : ByteArray)] y35.1).bind fun e36 => j9 p1.Kind e36 p1.Attrs y35.2.L y35.2.At l1 else kE j9 p1 y10 n 0 (w6 ((List.length l1 : Int) - 1)) l1)))))))))
theorem zW (self_Src_mutate : aW → aN → Option (aN × aW)) (ih_Src_mutate : ∀ (p0 : aW) (p1 : aN) (r : (aN × aW)),self_Src_mutate p0 p1 = some r → dC E 61 1 [D6 0 0,A9 p1] [D9 p0] (A9 r.1) [D9 r.2]) (n : Nat) (p0 : aW) (p1 : aN) (r : (aN × aW)) (h : oC self_Src_mutate n p0 p1 = some r) : dC E 61 1 [D6 0 0,A9 p1] [D9 p0] (A9 r.1) [D9 r.2] := by
 refine eO Tryz.func61 rfl ?_
 unfold oC at h
 refine za [0,3,4] (za [0,3,4,5] (zx fun _ => zk 2 (bK h fun l1 he h => xA (enc := aQ) (els := p1.Kids) (r := l1) (e := 70) (sz := 5) (bytes := 96) (nm := 8) he (by kernel_rfl) (fun x => by rw [cB]; rfl) (by kernel_rfl) (by kernel_rfl) rfl rfl rfl (zk 2 (ze [0,3,4,5] (zx fun _ => zk 2 (cY (v := .c (I (List.length l1 : Int))) (foot := [8]) (Fu (enc := aQ) (l := l1) (n := 8) (by kernel_rfl)) (by kernel_rfl) rfl rfl (zk 1 (ze [0,3,4,5,6] (aM (zx fun _ => zk 3 (zq (bK h fun y2 he h => yQ (e := [(decide ((List.length l1 : Int) > 0))]) [(27,D6 0 0,some 1)] (F := 15) (As := [D6 0 0,.c (I 2)]) (Bs := [D6 0 0,.c (I 2)]) (σ := [(0,0)]) (k := 1) (Gc := [D9 p0]) (Gf := [D9 y2.2]) (r := .c (I y2.1)) (v := .c (I y2.1)) (by kernel_rfl) (by kernel_rfl) (by kernel_rfl) (by kernel_rfl) (by kernel_rfl) (by kernel_rfl) cK ⟨.inr ⟨(by kernel_rfl),(by kernel_rfl)⟩,⟨.inl (by kernel_rfl),trivial⟩⟩ (fun hg => bI n _ _ y2 (Vw he hg)) (by kernel_rfl) (by kernel_rfl) (by kernel_rfl) (fun hg => by rw [Vg he hg]; kernel_rfl) (by kernel_rfl) rfl rfl rfl (zq (zp (kS [0,3,4,5,6,30] (L2 := [G7,N0,A1 4 2 0,A1 5 4 0,(6,.c (I (List.length l1 : Int))),(30,.c (Bo ((decide ((List.length l1 : Int) > 0)) && (y2.1 == 0))))]) (G2 := [D9 y2.2,N9 1 p1,(2,E3),(4,.blk 70 [I p1.Kind,Sx p1.Key,C5 p1.Attrs,C6 p1.Actions,.row 8]),(8,Q3 l1)]) 22 (zi h (fun h => ?_) fun h => ?_)))))))))))))))))
 refine zx fun _ => zk 2 (bK h fun y3 he h => zo [(0,0)] cK (bI n _ _ y3 he) (zk 1 (ze [0,4,5,7] (vK [[],[0],[],[],[],[4],[],[5,6,4],[7,5,6,4],[3,8,7,5,6,4],[1,2,0,3,4,5,6,7,8,9],[10,9,0,1,2,3,4,5,6,7,8]] fun _ => zk 7 (bK h fun k4 he h => cY (v := .c (.ptr 8 (k4 * 5))) (foot := [8]) (jL (enc := aQ) (l := l1) (n := 8) (sz := 5) (k := k4) (ix := y3.1) he (by kernel_rfl)) (by kernel_rfl) rfl rfl ?_)))))
 have hb_k4 := iD he
 refine bK h fun e5 he h => zw (v := .agg [I e5.Kind,Sx e5.Key,C5 e5.Attrs,C6 e5.Actions,E6 e5.Kids]) [8] (rW (enc := aQ) (l := l1) (n := 8) (q := k4) (f := 0) (sz := 5) (e := e5) (j := ⟨.st [(3,0,1),(9,1,1),(55,2,1),(56,3,1),(68,4,1)],5,96,[.int .i64 0,.string ⟨#[]⟩,.slice none 0 0,.slice none 0 0,.slice none 0 0]⟩) he (by kernel_rfl) (by rw [cB]; kernel_rfl)) (bK h fun y6 he h => zo [(0,0)] fok61 (ih_Src_mutate _ _ y6 he) (bK h fun k7 he h => cY (v := .c (.ptr 8 (k7 * 5))) (foot := [8]) (jL (enc := aQ) (l := l1) (n := 8) (sz := 5) (k := k7) (ix := y3.1) he (by kernel_rfl)) (by kernel_rfl) rfl rfl ?_))
 have hb_k7 := iD he
 refine bK h fun e8 he h => nJ (enc := aQ) (n := 8) (q := k7) (f := 0) (sz := 5) (T0 := 70) (lp := [I y6.1.Kind,Sx y6.1.Key,C5 y6.1.Attrs,C6 y6.1.Actions,E6 y6.1.Kids]) (l := l1) (e := e8) (e2 := y6.1) he (by kernel_rfl) (by simp only [List.length_cons,List.length_nil]; omega) (by rw [cB,cB]; kernel_rfl) (by kernel_rfl) rfl rfl (ze [4,5] (za [4] (aJ (nM 8 (T := 70) (sz := 5) (l := List.map aQ (List.set l1 k7 y6.1)) (L2 := [A1 4 2 0]) (G2 := [D9 y6.2,N9 1 p1,(2,.blk 70 [I p1.Kind,Sx p1.Key,C5 p1.Attrs,C6 p1.Actions,E6 (List.set l1 k7 y6.1)]),(4,.blk 70 [I p1.Kind,Sx p1.Key,C5 p1.Attrs,C6 p1.Actions,E6 (List.set l1 k7 y6.1)])]) (by kernel_rfl) (by kernel_rfl) (by kernel_rfl)) ?_)))
 cases h
 exact aG zr
 refine aD (aR h (fun A j => ∀ v59 v60 v61 v62 v63 v64,j v59 v60 v61 v62 v63 v64 = some r → A (mk [H4,O9] [A6 v62 v63,(1,E3),(2,.blk 70 [I v59,Sx v60,C5 v61,C6 p1.Actions,.row 3]),(3,Q3 v64)] 4)) (fun v59 v60 v61 v62 v63 v64 h => ?_) (fun j9 Aj9 hj9 h => ?_))
 refine za [4] (aJ (nM 3 (T := 70) (sz := 5) (l := List.map aQ v64) (L2 := [H4]) (G2 := [A6 v62 v63,(1,J7 v59 v60 v61 p1.Actions v64),(2,J7 v59 v60 v61 p1.Actions v64)]) (by kernel_rfl) (by kernel_rfl) (by kernel_rfl)) ?_)
 cases h
 exact aG zr
 refine zx fun _ => zk 1 (bK h fun y10 he h => zo [(0,0)] cK (bI n _ _ y10 he) (ze [0,3,4,5,6,47] (aI (za [0,3,4,5,6,47,76] (zi h (fun h => ?_) fun h => ?_)))))
 exact aV (zy fun _ => zk 3 (bK h fun y11 he h => zo [(0,0)] fok96 (Aw n _ _ y11 he) (zk 2 (bT (dI (zv [(0,0),(2,1),(4,2),(8,3)] [4,5] 4) (hj9 _ _ _ _ _ _ h))))))
 refine za [0,4,5,6,47,83] (zi h (fun h => ?_) fun h => ?_)
 refine za [0,4,5,6,86] (zi h (fun h => ?_) fun h => ?_)
 refine zx fun _ => zk 2 (bK h fun y12 he h => zo [(0,0)] cK (bI n _ _ y12 he) (zk 2 (bK h fun y13 he h => zo [(0,0)] cK (bI n _ _ y13 he) (zk 2 (kS [4,5,8,9] (L2 := [A1 4 2 0,A1 5 4 0,A7 8 y12.1,A7 9 y13.1]) (G2 := [D9 y13.2,N9 1 p1,(2,E3),(4,.blk 70 [I p1.Kind,Sx p1.Key,C5 p1.Attrs,C6 p1.Actions,.row 8]),(8,Q3 l1)]) 38 (zx fun _ => zk 3 (bK h fun k14 he h => cY (v := .c (.ptr 8 (k14 * 5))) (foot := [8]) (jL (enc := aQ) (l := l1) (n := 8) (sz := 5) (k := k14) (ix := y12.1) he (by kernel_rfl)) (by kernel_rfl) rfl rfl ?_)))))))
 have hb_k14 := iD he
 refine bK h fun e15 he h => zw (v := .agg [I e15.Kind,Sx e15.Key,C5 e15.Attrs,C6 e15.Actions,E6 e15.Kids]) [8] (rW (enc := aQ) (l := l1) (n := 8) (q := k14) (f := 0) (sz := 5) (e := e15) (j := ⟨.st [(3,0,1),(9,1,1),(55,2,1),(56,3,1),(68,4,1)],5,96,[.int .i64 0,.string ⟨#[]⟩,.slice none 0 0,.slice none 0 0,.slice none 0 0]⟩) he (by kernel_rfl) (by rw [cB]; kernel_rfl)) (zk 2 (ze [4,5,8,9,10] (vK [[],[0],[],[],[3],[],[4,5,3],[6,4,5,3],[1,2,0,3,4,5,6,7],[8,7,0,1,2,3,4,5,6]] fun _ => zk 6 (bK h fun k16 he h => cY (v := .c (.ptr 8 (k16 * 5))) (foot := [8]) (jL (enc := aQ) (l := l1) (n := 8) (sz := 5) (k := k16) (ix := y13.1) he (by kernel_rfl)) (by kernel_rfl) rfl rfl ?_))))
 have hb_k16 := iD he
 refine bK h fun e17 he h => zw (v := .agg [I e17.Kind,Sx e17.Key,C5 e17.Attrs,C6 e17.Actions,E6 e17.Kids]) [8] (rW (enc := aQ) (l := l1) (n := 8) (q := k16) (f := 0) (sz := 5) (e := e17) (j := ⟨.st [(3,0,1),(9,1,1),(55,2,1),(56,3,1),(68,4,1)],5,96,[.int .i64 0,.string ⟨#[]⟩,.slice none 0 0,.slice none 0 0,.slice none 0 0]⟩) he (by kernel_rfl) (by rw [cB]; kernel_rfl)) (bK h fun k18 he h => cY (v := .c (.ptr 8 (k18 * 5))) (foot := [8]) (jL (enc := aQ) (l := l1) (n := 8) (sz := 5) (k := k18) (ix := y12.1) he (by kernel_rfl)) (by kernel_rfl) rfl rfl ?_)
 have hb_k18 := iD he
 refine bK h fun e19 he h => nJ (enc := aQ) (n := 8) (q := k18) (f := 0) (sz := 5) (T0 := 70) (lp := [I e17.Kind,Sx e17.Key,C5 e17.Attrs,C6 e17.Actions,E6 e17.Kids]) (l := l1) (e := e19) (e2 := e17) he (by kernel_rfl) (by simp only [List.length_cons,List.length_nil]; omega) (by rw [cB,cB]; kernel_rfl) (by kernel_rfl) rfl rfl (ze [4,5,9,10] (aV (zy fun _ => zk 4 (bK h fun k20 he h => cY (v := .c (.ptr 8 (k20 * 5))) (foot := [8]) (jL (enc := aQ) (l := (List.set l1 k18 e17)) (n := 8) (sz := 5) (k := k20) (ix := y13.1) he (by kernel_rfl)) (by kernel_rfl) rfl rfl ?_))))
 have hb_k20 := iD he
 exact bK h fun e21 he h => nJ (enc := aQ) (n := 8) (q := k20) (f := 0) (sz := 5) (T0 := 70) (lp := [I e15.Kind,Sx e15.Key,C5 e15.Attrs,C6 e15.Actions,E6 e15.Kids]) (l := (List.set l1 k18 e17)) (e := e21) (e2 := e15) he (by kernel_rfl) (by simp only [List.length_cons,List.length_nil]; omega) (by rw [cB,cB]; kernel_rfl) (by kernel_rfl) rfl rfl (bT (dI (zv [(0,0),(2,1),(4,2),(8,3)] [4,5] 4) (hj9 _ _ _ _ _ _ h)))
 exact aJ (zv [(0,0),(2,1),(4,2),(8,3)] [4,5] 4) (aD (hj9 _ _ _ _ _ _ h))
 refine za [0,4,5,6,47,112] (zi h (fun h => ?_) fun h => ?_)
 refine za [0,4,5,6,115] (zi h (fun h => ?_) fun h => ?_)
 exact zx fun _ => zk 2 (bK h fun y22 he h => zo [(0,0)] cK (bI n _ _ y22 he) (zk 1 (ze [4,5,11] (aJ (nM 8 (T := 70) (sz := 5) (l := List.map aQ l1) (L2 := [A1 4 2 0,A1 5 4 0,A7 11 y22.1]) (G2 := [D9 y22.2,N9 1 p1,(2,E3),(4,J7 p1.Kind p1.Key p1.Attrs p1.Actions l1)]) (by kernel_rfl) (by kernel_rfl) (by kernel_rfl)) (aV (Ov [[],[0],[],[1,2,0],[3,1,2,0],[],[5],[],[7],[6,8,5,7],[4,9,3,1,2,0,6,8,5,7],[0,1,2,3,4,5,6,7,8,9,10],[11,10,0,1,2,3,4,5,6,7,8,9]] fun _ => zk 3 (bK h fun l23 he h => zw (v := .c (E6 l23)) [] (rZ (enc := aQ) (l := l1) (p := 0) (q := y22.1) (sz := 5) he (by kernel_rfl) (fun x => by rw [cB]; rfl)) (bK h fun l24 he h => xA (enc := aQ) (els := l23) (r := l24) (e := 70) (sz := 5) (bytes := 96) (nm := 40) he (by kernel_rfl) (fun x => by rw [cB]; rfl) (by kernel_rfl) (by kernel_rfl) rfl rfl rfl (zk 4 (bK h fun l25 he h => zw (v := .c (E6 l25)) [] (rZ (enc := aQ) (l := l1) (p := (w6 (y22.1 + 1))) (q := (List.length l1 : Int)) (sz := 5) he (by kernel_rfl) (fun x => by rw [cB]; rfl)) (bK h fun l26 he h => oK (enc := aQ) (l := l24) (els := l25) (r := l26) (m := 40) (e := 70) (sz := 5) (bytes := 96) (nm := 46) he (by kernel_rfl) (fun x => by rw [cB]; rfl) (by kernel_rfl) (by kernel_rfl) rfl rfl rfl (zk 2 (bT (dI (zv [(0,0),(2,1),(4,2),(46,3)] [4,5] 4) (hj9 _ _ _ _ _ _ h)))))))))))))))
 exact aJ (zv [(0,0),(2,1),(4,2),(8,3)] [4,5] 4) (aD (hj9 _ _ _ _ _ _ h))
 refine za [0,4,5,6,47,131] (zi h (fun h => ?_) fun h => ?_)
 exact zx fun _ => zk 3 (bK h fun y27 he h => zo [(0,0)] cK (bI n _ _ y27 he) (zk 1 (ze [0,4,5,12] (aJ (nM 8 (T := 70) (sz := 5) (l := List.map aQ l1) (L2 := [G7,A1 4 2 0,A1 5 4 0,A7 12 y27.1]) (G2 := [D9 y27.2,N9 1 p1,(2,E3),(4,J7 p1.Kind p1.Key p1.Attrs p1.Actions l1)]) (by kernel_rfl) (by kernel_rfl) (by kernel_rfl)) (aV (Ov [[],[0],[],[1,2,0],[3,1,2,0],[],[5,4,3,1,2,0],[6,5,4,3,1,2,0],[4,7,6,3,1,2,0,5],[],[9],[],[10,11,9],[8,12,4,7,6,3,1,2,0,5,10,11,9],[0,1,2,3,4,5,6,7,8,9,10,11,12,13],[14,13,0,1,2,3,4,5,6,7,8,9,10,11,12]] fun _ => zk 3 (bK h fun l28 he h => zw (v := .c (E6 l28)) [] (rZ (enc := aQ) (l := l1) (p := 0) (q := y27.1) (sz := 5) he (by kernel_rfl) (fun x => by rw [cB]; rfl)) (bK h fun l29 he h => xA (enc := aQ) (els := l28) (r := l29) (e := 70) (sz := 5) (bytes := 96) (nm := 41) he (by kernel_rfl) (fun x => by rw [cB]; rfl) (by kernel_rfl) (by kernel_rfl) rfl rfl rfl (zk 1 (bK h fun y30 he h => zo [(0,0)] fok58 (Ej n _ _ y30 he) (rF (e := 70) (sz := 5) (len := 1) (r := [I y30.1.Kind,Sx y30.1.Key,C5 y30.1.Attrs,C6 y30.1.Actions,E6 y30.1.Kids]) (l' := List.map aQ [y30.1]) (nm := 44) (by kernel_rfl) (by simp only [List.map_cons,List.map_nil,cB]; kernel_rfl) (by kernel_rfl) (by kernel_rfl) rfl rfl rfl (bK h fun l31 he h => oK (enc := aQ) (l := l29) (els := [y30.1]) (r := l31) (m := 41) (e := 70) (sz := 5) (bytes := 96) (nm := 45) he (by kernel_rfl) (fun x => by rw [cB]; rfl) (by kernel_rfl) (by kernel_rfl) rfl rfl rfl (zk 3 (bK h fun l32 he h => zw (v := .c (E6 l32)) [] (rZ (enc := aQ) (l := l1) (p := y27.1) (q := (List.length l1 : Int)) (sz := 5) he (by kernel_rfl) (fun x => by rw [cB]; rfl)) (bK h fun l33 he h => oK (enc := aQ) (l := l31) (els := l32) (r := l33) (m := 45) (e := 70) (sz := 5) (bytes := 96) (nm := 50) he (by kernel_rfl) (fun x => by rw [cB]; rfl) (by kernel_rfl) (by kernel_rfl) rfl rfl rfl (zk 2 (bT (dI (zv [(0,0),(2,1),(4,2),(50,3)] [4,5] 4) (hj9 _ _ _ _ _ _ h)))))))))))))))))))
 refine za [0,4,5,6,47,152] (zi h (fun h => ?_) fun h => ?_)
 exact aV (zy fun _ => zk 1 (bK h fun y34 he h => zo [(0,0)] Vy (rK n _ _ _ y34 he) (zk 2 (bT (dI (zv [(0,0),(2,1),(4,2),(8,3)] [4,5] 4) (hj9 _ _ _ _ _ _ h))))))
 refine za [0,4,5,6,157] (zi h (fun h => ?_) fun h => ?_)
 exact aV (zy fun _ => zk 2 (bK h fun y35 he h => zo [(0,0)] cK (bI n _ _ y35 he) (bK h fun e36 he h => zd eS he (zk 3 (bT (dI (zv [(0,0),(2,1),(4,2),(8,3)] [4,5] 4) (hj9 _ _ _ _ _ _ h)))))))
 refine za [4,5,13,14] (aI (bB (fun n s => ∃ v45 v46 v47,kE j9 p1 y10 n v45 v46 v47 = some r ∧ s = mk [H4,O9,A7 13 v45,A7 14 v46] [D9 y10.2,(1,E3),(2,.blk 70 [I p1.Kind,Sx p1.Key,C5 p1.Attrs,C6 p1.Actions,.row 3]),(3,Q3 v47)] 4) n _ (zv [(0,0),(2,1),(4,2),(8,3)] [4,5,13,14] 4) ⟨_,_,_,h,rfl⟩ (fun s ⟨v45,v46,v47,h,_⟩ => nomatch h) ?_))
 rintro n s ⟨v45,v46,v47,h,rfl⟩
 rw [kE] at h
 refine aM (za [4,5,13,14,52] (zi h (fun h => ?_) fun h => ?_))
 refine aD (aM (aI (zx fun _ => zk 3 (bK h fun k48 he h => cY (v := .c (.ptr 3 (k48 * 5))) (foot := [3]) (jL (enc := aQ) (l := v47) (n := 3) (sz := 5) (k := k48) (ix := v45) he (by kernel_rfl)) (by kernel_rfl) rfl rfl ?_))))
 have hb_k48 := iD he
 refine bK h fun e49 he h => zw (v := .agg [I e49.Kind,Sx e49.Key,C5 e49.Attrs,C6 e49.Actions,E6 e49.Kids]) [3] (rW (enc := aQ) (l := v47) (n := 3) (q := k48) (f := 0) (sz := 5) (e := e49) (j := ⟨.st [(3,0,1),(9,1,1),(55,2,1),(56,3,1),(68,4,1)],5,96,[.int .i64 0,.string ⟨#[]⟩,.slice none 0 0,.slice none 0 0,.slice none 0 0]⟩) he (by kernel_rfl) (by rw [cB]; kernel_rfl)) (zk 2 (ze [4,5,13,14,15] (vK [[],[0],[],[],[3],[],[4,5,3],[6,4,5,3],[1,2,0,3,4,5,6,7],[8,7,0,1,2,3,4,5,6]] fun _ => zk 6 (bK h fun k50 he h => cY (v := .c (.ptr 3 (k50 * 5))) (foot := [3]) (jL (enc := aQ) (l := v47) (n := 3) (sz := 5) (k := k50) (ix := v46) he (by kernel_rfl)) (by kernel_rfl) rfl rfl ?_))))
 have hb_k50 := iD he
 refine bK h fun e51 he h => zw (v := .agg [I e51.Kind,Sx e51.Key,C5 e51.Attrs,C6 e51.Actions,E6 e51.Kids]) [3] (rW (enc := aQ) (l := v47) (n := 3) (q := k50) (f := 0) (sz := 5) (e := e51) (j := ⟨.st [(3,0,1),(9,1,1),(55,2,1),(56,3,1),(68,4,1)],5,96,[.int .i64 0,.string ⟨#[]⟩,.slice none 0 0,.slice none 0 0,.slice none 0 0]⟩) he (by kernel_rfl) (by rw [cB]; kernel_rfl)) (bK h fun k52 he h => cY (v := .c (.ptr 3 (k52 * 5))) (foot := [3]) (jL (enc := aQ) (l := v47) (n := 3) (sz := 5) (k := k52) (ix := v45) he (by kernel_rfl)) (by kernel_rfl) rfl rfl ?_)
 have hb_k52 := iD he
 refine bK h fun e53 he h => nJ (enc := aQ) (n := 3) (q := k52) (f := 0) (sz := 5) (T0 := 70) (lp := [I e51.Kind,Sx e51.Key,C5 e51.Attrs,C6 e51.Actions,E6 e51.Kids]) (l := v47) (e := e53) (e2 := e51) he (by kernel_rfl) (by simp only [List.length_cons,List.length_nil]; omega) (by rw [cB,cB]; kernel_rfl) (by kernel_rfl) rfl rfl (kS [4,5,13,14,15] (L2 := [H4,O9,A7 13 v45,A7 14 v46,A1 15 12 0]) (G2 := [D9 y10.2,(1,E3),(2,.blk 70 [I p1.Kind,Sx p1.Key,C5 p1.Attrs,C6 p1.Actions,.row 3]),(3,Q3 (List.set v47 k52 e51)),N9 12 e49]) 24 (zy fun _ => zk 4 (bK h fun k54 he h => cY (v := .c (.ptr 3 (k54 * 5))) (foot := [3]) (jL (enc := aQ) (l := (List.set v47 k52 e51)) (n := 3) (sz := 5) (k := k54) (ix := v46) he (by kernel_rfl)) (by kernel_rfl) rfl rfl ?_)))
 have hb_k54 := iD he
 exact bK h fun e55 he h => nJ (enc := aQ) (n := 3) (q := k54) (f := 0) (sz := 5) (T0 := 70) (lp := [I e49.Kind,Sx e49.Key,C5 e49.Attrs,C6 e49.Actions,E6 e49.Kids]) (l := (List.set v47 k52 e51)) (e := e55) (e2 := e49) he (by kernel_rfl) (by simp only [List.length_cons,List.length_nil]; omega) (by rw [cB,cB]; kernel_rfl) (by kernel_rfl) rfl rfl (bT (aV (zb (dI zI (⟨_,_,_,h,rfl⟩)))))
 exact aJ zI (bF (hj9 _ _ _ _ _ _ h))
def oH : Nat → aW → aN → Option (aN × aW)
 | 0,_,_ => none
 | n + 1,p0,p1 => oC (fun a0 a1 => oH n a0 a1) n p0 p1
theorem Kj (n : Nat) : (∀ (p0 : aW) (p1 : aN) (r : (aN × aW)),oH n p0 p1 = some r → dC E 61 1 [D6 0 0,A9 p1] [D9 p0] (A9 r.1) [D9 r.2]) := by
 induction n with
 | zero => intro p0 p1 r h; rw [oH] at h; cases h
 | succ n ih => intro p0 p1 r h; rw [oH] at h; exact zW _ ih n _ _ r h
def kM (j1 : Int → ByteArray → List bJ → List cS → List aN → List Int → Int → Option (aN × aW)) : Nat → Int → List Int → Int → Int → ByteArray → List bJ → List cS → List aN → Option (aN × aW)
 | 0,_,_,_,_,_,_,_,_ => none
 | n + 1,v13,v14,v15,v16,v17,v18,v19,v20 => (if (decide (v13 ≥ 0)) = true then (aS (fun (v24 : List Int) (v25 : Int) (v26 : Int) (v27 : ByteArray) (v28 : List bJ) (v29 : List cS) (v30 : List aN) => kM j1 n (w6 (v13 - 1)) v24 v25 v26 v27 v28 v29 v30) (fun (j21 : List Int → Int → Int → ByteArray → List bJ → List cS → List aN → Option (aN × aW)) => (oH n (aW.mk v14 v15) (aN.mk v16 v17 v18 v19 v20)).bind fun y22 => (eY n y22.1).bind fun y23 => (if (y23 == 0) = true then j21 y22.2.L y22.2.At y22.1.Kind y22.1.Key y22.1.Attrs y22.1.Actions y22.1.Kids else j21 y22.2.L y22.2.At v16 v17 v18 v19 v20))) else j1 v16 v17 v18 v19 v20 v14 v15)
def sV (n : Nat) (p0 : aW) (p1 : aN) : Option (aN × aW) := (aS (fun (v39 : Int) (v40 : ByteArray) (v41 : List bJ) (v42 : List cS) (v43 : List aN) (v44 : List Int) (v45 : Int) => some ((aN.mk v39 v40 v41 v42 v43),(aW.mk v44 v45))) (fun (j1 : Int → ByteArray → List bJ → List cS → List aN → List Int → Int → Option (aN × aW)) => (cF n p0 4).bind fun y2 => kM j1 n y2.1 y2.2.L y2.2.At p1.Kind p1.Key p1.Attrs p1.Actions p1.Kids))
theorem Kc (n : Nat) (p0 : aW) (p1 : aN) (r : (aN × aW)) (h : sV n p0 p1 = some r) : dC E 29 1 [D6 0 0,A9 p1] [D9 p0] (A9 r.1) [D9 r.2] := by
 refine eO Tryz.func29 rfl ?_
 unfold sV at h
 refine za [0,3,4] (za [0,4,5] (aR h (fun A j => ∀ v39 v40 v41 v42 v43 v44 v45,j v39 v40 v41 v42 v43 v44 v45 = some r → A (mk [H4,O9] [A6 v44 v45,(1,E3),(2,J7 v39 v40 v41 v42 v43)] 3)) (fun v39 v40 v41 v42 v43 v44 v45 h => ?_) (fun j1 Aj1 hj1 h => ?_)))
 refine za [4] ?_
 cases h
 exact aG zr
 refine zx fun _ => zk 1 (bK h fun y2 he h => zo [(0,0)] cK (bI n _ _ y2 he) (zk 1 (ze [0,4,5,6] (aI (bB (fun n s => ∃ v13 v14 v15 v16 v17 v18 v19 v20,kM j1 n v13 v14 v15 v16 v17 v18 v19 v20 = some r ∧ s = mk [G7,H4,O9,A7 6 v13] [A6 v14 v15,(1,E3),(2,J7 v16 v17 v18 v19 v20)] 3) n _ (zv [(0,0),(2,1),(4,2)] [0,4,5,6] 3) ⟨_,_,_,_,_,_,_,_,h,rfl⟩ (fun s ⟨v13,v14,v15,v16,v17,v18,v19,v20,h,_⟩ => nomatch h) ?_)))))
 rintro n s ⟨v13,v14,v15,v16,v17,v18,v19,v20,h,rfl⟩
 rw [kM] at h
 refine aM (za [0,4,5,6,12] (zi h (fun h => ?_) fun h => ?_))
 refine aD (aR h (fun A j => ∀ v24 v25 v26 v27 v28 v29 v30,j v24 v25 v26 v27 v28 v29 v30 = some r → A (mk [G7,H4,O9,A7 6 v13] [A6 v24 v25,(1,E3),(2,J7 v26 v27 v28 v29 v30)] 3)) (fun v24 v25 v26 v27 v28 v29 v30 h => ?_) (fun j21 Aj21 hj21 h => ?_))
 exact aV (zb (dI zI (⟨_,_,_,_,_,_,_,_,h,rfl⟩)))
 refine aI (zx fun _ => zk 2 (bK h fun y22 he h => zo [(0,0)] fok61 (Kj n _ _ y22 he) (zk 2 (ze [0,4,5,6,7] (zx fun _ => zk 1 (bK h fun y23 he h => zc Wg (mE n _ y23 he) (zk 1 (ze [0,4,5,6,7,20] (zi h (fun h => ?_) fun h => ?_)))))))))
 exact aV (zb (dI zI (hj21 _ _ _ _ _ _ _ h)))
 exact aJ zI (aD (hj21 _ _ _ _ _ _ _ h))
 exact aJ zI (bF (hj1 _ _ _ _ _ _ _ h))
def rG (n : Nat) (p0 : aU) (p1 : aZ) : Option Bool := some (p0.ID == p1.ID)
theorem Fe (n : Nat) (p0 : aU) (p1 : aZ) (r : Bool) (h : rG n p0 p1 = some r) : dC E 100 0 [B2 p0,E2 p1.ID p1.Style] [] (D7 r) [] := by
 refine eO Tryz.func100 rfl ?_
 unfold rG at h
 refine za [2,3] (za [4] ?_)
 cases h
 exact aG zr
def bG (p0 : (List aU)) (p1 : (List aZ)) (j1 : Unit → Option Bool) : Nat → Int → Option Bool
 | 0,_ => none
 | n + 1,v5 => (if (decide (v5 < (List.length p0 : Int))) = true then (idx p0 v5).bind fun e6 => (idx p1 v5).bind fun e7 => (rG n e6 e7).bind fun y8 => (if (!y8) = true then some false else bG p0 p1 j1 n (w6 (v5 + 1))) else j1 ())
def cE (n : Nat) (p0 : (List aU)) (p1 : (List aZ)) (p2 : Unit) : Option Bool := (if ((List.length p0 : Int) != (List.length p1 : Int)) = true then some false else (aS (fun (_ : Unit) => some true) (fun (j1 : Unit → Option Bool) => bG p0 p1 j1 n 0)))
theorem gO (n : Nat) (p0 : (List aU)) (p1 : (List aZ)) (p2 : Unit) (r : Bool) (h : cE n p0 p1 p2 = some r) : dC E 99 0 [P1 p0,C3 p1,.c (.fn 100 [])] [] (D7 r) [] := by
 refine eO Tryz.func99 rfl ?_
 unfold cE at h
 refine za [0,1,2] (aM (zx fun _ => zk 1 (zl aE p0 (zk 1 (zl aX p1 (zk 1 (ze [0,1,2,14] (zi h (fun h => ?_) fun h => ?_))))))))
 refine za [6] ?_
 cases h
 exact aG zr
 refine aD (aR h (fun A j => ∀ u,j u = some r → A (M5)) (fun u h => ?_) (fun j1 Aj1 hj1 h => ?_))
 refine za [6] ?_
 cases h
 exact aG zr
 refine zx fun _ => zk 1 (zl aE p0 (zk 1 (ze [1,2,15,16,17] (aI (bB (fun n s => ∃ v5,bG p0 p1 j1 n v5 = some r ∧ s = mk [L9 1 p1,(2,.c (.fn 100 [])),(15,P1 p0),(16,.c (I (List.length p0 : Int))),A7 17 v5] [] 0) n _ zI ⟨_,h,rfl⟩ (fun s ⟨v5,h,_⟩ => nomatch h) ?_)))))
 rintro n s ⟨v5,h,rfl⟩
 rw [bG] at h
 refine za [1,2,15,16,17,18] (aM (zi h (fun h => ?_) fun h => ?_))
 refine aD (aM (aI (zx fun _ => zk 1 (bK h fun e6 he h => zd aE he (zk 4 (ze [1,2,7,8,15,16,17] (zx fun _ => zk 2 (bK h fun e7 he h => zd aX he (zk 3 (ze [1,2,8,9,15,16,17] (zx fun _ => zk 3 (bK h fun y8 he h => rx_O (v := .c (Bo y8)) (foot := []) (Lk (F := 100) (As := [B2 e6,E2 e7.ID e7.Style]) (Bs := [B2 e6,E2 e7.ID e7.Style]) (r := .c (Bo y8)) (v := .c (Bo y8)) (by kernel_rfl) fok100 (by kernel_rfl) (Fe n _ _ y8 he) (by kernel_rfl)) (by kernel_rfl) rfl rfl (zk 1 (kS [1,2,15,16,17,30] (L2 := [L9 1 p1,(2,.c (.fn 100 [])),(15,P1 p0),(16,.c (I (List.length p0 : Int))),A7 17 v5,B4 30 (!y8)]) (G2 := [K3 4 e6,(11,.blk 54 [I e7.ID,I e7.Style.x0,I e7.Style.x1,I e7.Style.x2,I e7.Style.x3,I e7.Style.x4,I e7.Style.x5,I e7.Style.x6,I e7.Style.x7,I e7.Style.x8,I e7.Style.x9,I e7.Style.x10,I e7.Style.x11,I e7.Style.x12,I e7.Style.x13,I e7.Style.x14,I e7.Style.x15,I e7.Style.x16,I e7.Style.x17,I e7.Style.x18,I e7.Style.x19,I e7.Style.x20,I e7.Style.x21])]) 18 (zi h (fun h => ?_) fun h => ?_)))))))))))))))
 refine za [6] ?_
 cases h
 exact aG zr
 exact aD (aV (zb (dI zI (⟨_,h,rfl⟩))))
 exact aJ zI (bF (hj1 _ h))
def sE (n : Nat) (p0 : bA) (p1 : (List aZ)) : Option Bool := (qE n p0).bind fun y1 => (gd [(y1 == 0)] (cE n p0.Nodes p1 ())).bind fun y2 => some ((y1 == 0) && y2)
theorem Kp (n : Nat) (p0 : bA) (p1 : (List aZ)) (r : Bool) (h : sE n p0 p1 = some r) : dC E 62 0 [B5 p0,C3 p1] [] (D7 r) [] := by
 refine eO Tryz.func62 rfl ?_
 unfold sE at h
 refine za [1,2] (zx fun _ => zk 1 (bK h fun y1 he h => zc fok26 (zJ n _ y1 he) (zk 2 (zq (zq (zq (bK h fun y2 he h => yW [y1 == 0] fok99 (fun hg => gO n _ _ _ y2 (bQ he hg)) (zp (zk 1 (kS [4] (L2 := [B4 4 ((y1 == 0) && y2)]) (G2 := [G4 0 p0]) 12 ?_))))))))))
 cases h
 exact aG zr
end Go.Proofs.YtojkihhnioeggaaGreatDoor.S
