import Derived.Test.YtojkihhnioeggaaGreatDoorQEGM2
set_option linter.all false
set_option maxRecDepth 100000
set_option maxHeartbeats 4000000
namespace Go.Proofs.YtojkihhnioeggaaGreatDoor.S
open Go Go.Bm
def jC (p0 : aN) (self_ref14_build : aN → Int → bA → Option bA) (p2 : bA) (j2 : List Int → Int → Int → List aU → Option bA) : Nat → List Int → Int → Int → Int → List aU → Option bA
 | 0,_,_,_,_,_ => none
 | n + 1,v6,v7,v8,v9,v10 => (if (decide (v7 < (List.length p0.Kids : Int))) = true then (pA 8 v6 [v9]).bind fun l11 => (idx p0.Kids v7).bind fun e12 => (self_ref14_build e12 p2.Next (bA.mk v8 v9 v10)).bind fun y13 => jC p0 self_ref14_build p2 j2 n l11 (w6 (v7 + 1)) y13.Root y13.Next y13.Nodes else j2 v6 v8 v9 v10)
def nH (self_ref14_build : aN → Int → bA → Option bA) (n : Nat) (p0 : aN) (p1 : Int) (p2 : bA) : Option bA := (pA 112 p2.Nodes [(aU.mk p2.Next p1 p0.Kind p0.Key p0.Attrs p0.Actions ([] : List Int))]).bind fun l1 => (aS (fun (v19 : List Int) (v20 : Int) (v21 : Int) (v22 : List aU) => (rL (List.length p2.Nodes : Int) (List.length v22)).bind fun k23 => (v22[k23]?).bind fun e24 => some (bA.mk v20 v21 (List.set v22 k23 (aU.mk e24.ID e24.Parent e24.Kind e24.Key e24.Attrs e24.Actions v19)))) (fun (j2 : List Int → Int → Int → List aU → Option bA) => jC p0 self_ref14_build p2 j2 n ([] : List Int) 0 p2.Root (w6 (p2.Next + 1)) l1))
theorem zA (self_ref14_build : aN → Int → bA → Option bA) (ih_ref14_build : ∀ (p0 : aN) (p1 : Int) (p2 : bA) (r : bA),self_ref14_build p0 p1 p2 = some r → dC E 60 1 [A9 p0,C7 p1,P5 p2.Root p2.Next 0] [(0,I2 p2.Nodes)] (P5 r.Root r.Next 1) [(1,I2 r.Nodes)]) (n : Nat) (p0 : aN) (p1 : Int) (p2 : bA) (r : bA) (h : nH self_ref14_build n p0 p1 p2 = some r) : dC E 60 1 [A9 p0,C7 p1,P5 p2.Root p2.Next 0] [(0,I2 p2.Nodes)] (P5 r.Root r.Next 1) [(1,I2 r.Nodes)] := by
 refine eO Tryz.func60 rfl ?_
 unfold nH at h
 refine za [1,3,5,6] (za [1,3,5,6,7] (zx fun _ => zk 2 (cY (v := .c (I (List.length p2.Nodes : Int))) (foot := [0]) (Fu (enc := aE) (l := p2.Nodes) (n := 0) (by kernel_rfl)) (by kernel_rfl) rfl rfl (zk 1 (ze [1,3,5,6,7,8] (zx fun _ => zk 14 (bK h fun l1 he h => oK (enc := aE) (l := p2.Nodes) (els := [(aU.mk p2.Next p1 p0.Kind p0.Key p0.Attrs p0.Actions ([] : List Int))]) (r := l1) (m := 0) (e := 58) (sz := 7) (bytes := 112) (nm := 25) he (by kernel_rfl) (fun x => by kernel_rfl) (by kernel_rfl) (by kernel_rfl) rfl rfl rfl (zk 2 (ze [3,5,6,7,8] (za [3,5,6,7,8] (za [3,5,6,7,8,9] (aR h (fun A j => ∀ v19 v20 v21 v22,j v19 v20 v21 v22 = some r → A (mk [O1,O5,(8,.c (I (List.length p2.Nodes : Int))),(9,G3 3 v19)] [(1,.blk 27 [I v20,I v21,.row 4]),(2,.blk 27 [I 0,I 0,bV]),C1 3 3 1 v19,(4,I2 v22)] 5)) (fun v19 v20 v21 v22 h => ?_) (fun j2 Aj2 hj2 h => ?_)))))))))))))
 refine zx fun _ => zk 4 (bK h fun k23 he h => cY (v := .c (.ptr 4 (k23 * 7))) (foot := [4]) (jL (enc := aE) (l := v22) (n := 4) (sz := 7) (k := k23) (ix := (List.length p2.Nodes : Int)) he (by kernel_rfl)) (by kernel_rfl) rfl rfl ?_)
 have hb_k23 := iD he
 refine zk 1 (bK h fun e24 he h => nJ (enc := aE) (n := 4) (q := k23) (f := 6) (sz := 7) (T0 := 58) (lp := [C2 v19]) (l := v22) (e := e24) (e2 := (aU.mk e24.ID e24.Parent e24.Kind e24.Key e24.Attrs e24.Actions v19)) he (by kernel_rfl) (by simp only [List.length_cons,List.length_nil]; omega) (by kernel_rfl) (by kernel_rfl) rfl rfl (ze [5,6] (za [6] ?_)))
 have h := Option.some.inj h
 subst h
 exact aJ (tX rfl [(4,1),(2,2)] [6] (L2 := [O5]) (G2 := [(1,I2 (List.set v22 k23 (aU.mk e24.ID e24.Parent e24.Kind e24.Key e24.Attrs e24.Actions v19))),(2,.blk 27 [I v20,I v21,.row 1])]) (lim2 := 3) (by kernel_rfl)) (aG (Ng (.inl rfl) (by kernel_rfl) (by kernel_rfl)))
 refine za [3,5,6,7,8,9,10] (aI (bB (fun n s => ∃ v6 v7 v8 v9 v10,jC p0 self_ref14_build p2 j2 n v6 v7 v8 v9 v10 = some r ∧ s = mk [N0,O9,A1 6 3 0,A7 7 p2.Next,(8,.c (I (List.length p2.Nodes : Int))),(9,G3 4 v6),A7 10 v7] [N9 1 p0,(2,.blk 27 [I v8,I v9,.row 5]),(3,.blk 27 [I 0,I 0,bV]),C1 4 3 1 v6,(5,I2 v10)] 6) n _ (dZ.trans (mB (L2 := [N0,O9,A1 6 3 0,A7 7 p2.Next,(8,.c (I (List.length p2.Nodes : Int))),(9,.c (.app 35 (List.map aL ([] : List Int)))),I4 10]) (G2 := [N9 1 p0,(2,.blk 27 [I p2.Root,I (w6 (p2.Next + 1)),.row 25]),(3,.blk 27 [I 0,I 0,bV]),(24,.tok 58 7 (List.length [(aU.mk p2.Next p1 p0.Kind p0.Key p0.Attrs p0.Actions ([] : List Int))])),(25,I2 l1),(35,.tok 3 1 (List.length ([] : List Int)))]) (lim2 := 36) 9 3 1 (by kernel_rfl) (by kernel_rfl) (by kernel_rfl) (by kernel_rfl)) (zv [(1,1),(2,2),(3,3),(35,4),(25,5)] [3,5,6,7,8,9,10] 6)) ⟨_,_,_,_,_,h,rfl⟩ (fun s ⟨v6,v7,v8,v9,v10,h,_⟩ => nomatch h) ?_))
 rintro n s ⟨v6,v7,v8,v9,v10,h,rfl⟩
 rw [jC] at h
 refine aM (zx fun _ => zk 3 (zl aQ p0.Kids (zk 1 (ze [3,5,6,7,8,9,10,40] (zi h (fun h => ?_) fun h => ?_)))))
 exact aD (aM (aI (zx fun _ => zk 4 (bK h fun l11 he h => cI (enc := aL) (l := v6) (els := [v9]) (r := l11) (old := some 4) (e := 3) (sz := 1) (bytes := 8) (k := (H6 v6)) (nm := 15) he (by kernel_rfl) (by kernel_rfl) (fun x => by kernel_rfl) (by kernel_rfl) (by kernel_rfl) rfl rfl rfl (zk 1 (ze [3,5,6,7,8,9,10] (Ov [[],[0],[],[1,2,0],[3,1,2,0],[],[],[4,5,6,3,1,2,0],[7,0,1,2,3,4,5,6]] fun _ => zk 3 (bK h fun e12 he h => cY (v := .c (F6 e12)) (foot := []) (dU (enc := aQ) (sz := 5) (l := p0.Kids) (ix := v7) he (by kernel_rfl) (cB e12) (by kernel_rfl)) (by kernel_rfl) rfl rfl (zk 3 (bK h fun y13 he h => uX (F := 60) (As := [A9 e12,C7 p2.Next,P5 v8 v9 5]) (Bs := [A9 e12,C7 p2.Next,P5 v8 v9 0]) (σ := [(0,5),(1,24)]) (k := 1) (kn := 1) (nm := 24) (Gc := [(0,I2 v10)]) (Gf := [(1,I2 y13.Nodes)]) (r := .agg [I y13.Root,I y13.Next,.row 1]) (v := .agg [I y13.Root,I y13.Next,.row 24]) (by kernel_rfl) fok60 ⟨.inl (by kernel_rfl),⟨.inl (by kernel_rfl),⟨.inr ⟨(by kernel_rfl),(by kernel_rfl)⟩,trivial⟩⟩⟩ (ih_ref14_build _ _ _ y13 he) (by kernel_rfl) (by kernel_rfl) (by kernel_rfl) (by kernel_rfl) (by kernel_rfl) (by kernel_rfl) rfl rfl rfl (zk 1 (bT (aV (zb (dI (zv [(1,1),(2,2),(3,3),(15,4),(24,5)] [3,5,6,7,8,9,10] 6) (⟨_,_,_,_,_,h,rfl⟩))))))))))))))))
 exact aJ (zv [(2,1),(3,2),(4,3),(5,4)] [5,6,8,9] 5) (bF (hj2 _ _ _ _ h))
def lB : Nat → aN → Int → bA → Option bA
 | 0,_,_,_ => none
 | n + 1,p0,p1,p2 => nH (fun a0 a1 a2 => lB n a0 a1 a2) n p0 p1 p2
theorem Hz (n : Nat) : (∀ (p0 : aN) (p1 : Int) (p2 : bA) (r : bA),lB n p0 p1 p2 = some r → dC E 60 1 [A9 p0,C7 p1,P5 p2.Root p2.Next 0] [(0,I2 p2.Nodes)] (P5 r.Root r.Next 1) [(1,I2 r.Nodes)]) := by
 induction n with
 | zero => intro p0 p1 p2 r h; rw [lB] at h; cases h
 | succ n ih => intro p0 p1 p2 r h; rw [lB] at h; exact zA _ ih n _ _ _ r h
def nC (n : Nat) (p0 : aN) (p1 : Int) : Option (bA × Int) := (eY n p0).bind fun y1 => (if (y1 != 0) = true then some ((bA.mk 0 0 ([] : List aU)),y1) else (if ((decide (p1 < 1)) || (decide (p1 > 1099511627376))) = true then some ((bA.mk 0 0 ([] : List aU)),1) else (lB n p0 0 (bA.mk p1 p1 ([] : List aU))).bind fun y2 => some (y2,0)))
theorem sI (n : Nat) (p0 : aN) (p1 : Int) (r : (bA × Int)) (h : nC n p0 p1 = some r) : dC E 28 0 [A9 p0,C7 p1] [] (.tup [B5 r.1,C7 r.2]) [] := by
 refine eO Tryz.func28 rfl ?_
 unfold nC at h
 refine za [1,2,4] (aM (zx fun _ => zk 1 (bK h fun y1 he h => zc Wg (mE n _ y1 he) (zk 1 (ze [1,2,4,6] (za [1,2,4,6,11] (zi h (fun h => ?_) fun h => ?_)))))))
 refine za [4,5] ?_
 cases h
 exact aG zr
 refine aD (aM (zx fun _ => zk 3 (zq (zq (zp (ze [1,2,4,19] (zi h (fun h => ?_) fun h => ?_)))))))
 refine za [4,5] ?_
 cases h
 exact aG zr
 refine aD (za [2,4,7] (zx fun _ => zk 2 (bK h fun y2 he h => uX (F := 60) (As := [A9 p0,.c (I 0),.agg [I p1,I p1,bV]]) (Bs := [A9 p0,.c (I 0),.agg [I p1,I p1,bV]]) (σ := [(1,21)]) (k := 0) (kn := 1) (nm := 21) (Gc := []) (Gf := [(1,I2 y2.Nodes)]) (r := .agg [I y2.Root,I y2.Next,.row 1]) (v := .agg [I y2.Root,I y2.Next,.row 21]) (by kernel_rfl) fok60 ⟨.inl (by kernel_rfl),⟨.inl (by kernel_rfl),⟨.inr ⟨(by kernel_rfl),(by kernel_rfl)⟩,trivial⟩⟩⟩ (dC.nil1 (Hz n _ _ _ y2 he) rfl rfl) (by kernel_rfl) (by kernel_rfl) (by kernel_rfl) (by kernel_rfl) (by kernel_rfl) (by kernel_rfl) rfl rfl rfl (zk 2 (kS [4,5] (L2 := [H4,I4 5]) (G2 := [N9 0 p0,(1,.blk 27 [I y2.Root,I y2.Next,.row 21]),(17,.blk 27 [I p1,I p1,bV]),(21,I2 y2.Nodes)]) 24 (aJ (nM 21 (T := 58) (sz := 7) (l := List.map aE y2.Nodes) (L2 := [H4,I4 5]) (G2 := [N9 0 p0,G4 1 y2,(17,.blk 27 [I p1,I p1,bV])]) (by kernel_rfl) (by kernel_rfl) (by kernel_rfl)) ?_))))))
 cases h
 exact aG zr
def dS (n : Nat) (p0 : Int) (p1 : Int) : Option Bool := (aS (fun (v8 : Int) (v9 : Int) => some ((((decide (p0 ≥ 0)) && (decide (p0 < 22))) && (decide (p1 ≥ v8))) && (decide (p1 ≤ v9)))) (fun (j1 : Int → Int → Option Bool) => (if (p0 == 0) = true then j1 0 16777215 else (if (p0 == 1) = true then j1 (-1 : Int) 16777215 else (if (p0 == 2) = true then j1 1 1000 else (if (p0 == 3) = true then j1 0 7 else (aS (fun (v3 : Bool) => (if v3 = true then j1 0 1 else (aS (fun (v5 : Bool) => (if v5 = true then j1 0 4 else (if (p0 == 7) = true then j1 0 3 else (if (p0 == 8) = true then j1 0 2 else (aS (fun (v7 : Bool) => (if v7 = true then j1 0 1000 else (if (p0 == 12) = true then j1 (-1 : Int) 1048576 else j1 0 1048576))) (fun (j6 : Bool → Option Bool) => (if (p0 == 10) = true then j6 (p0 == 10) else j6 (p0 == 11)))))))) (fun (j4 : Bool → Option Bool) => (if (p0 == 5) = true then j4 (p0 == 5) else j4 (p0 == 6)))))) (fun (j2 : Bool → Option Bool) => (if (p0 == 4) = true then j2 (p0 == 4) else j2 (p0 == 21))))))))))
theorem qH (n : Nat) (p0 : Int) (p1 : Int) (r : Bool) (h : dS n p0 p1 = some r) : dC E 65 0 [C7 p0,C7 p1] [] (D7 r) [] := by
 refine eO Tryz.func65 rfl ?_
 unfold dS at h
 refine za [0,1] (za [0,1,5,6] (aR h (fun A j => ∀ v8 v9,j v8 v9 = some r → A (mk [A7 0 p0,A7 1 p1,A7 5 v8,A7 6 v9] [] 0)) (fun v8 v9 h => ?_) (fun j1 Aj1 hj1 h => ?_)))
 refine zx fun _ => zk 3 (zq (zq (zp (zk 1 (zq (zq (zq (zp (zk 1 (zq (zq (zq (zp (zk 1 (kS [4] (L2 := [B4 4 ((((P9 p0 0) && (D4 p0 22)) && (P9 p1 v8)) && (Q0 p1 v9))]) (G2 := []) 17 ?_)))))))))))))))
 cases h
 exact aG zr
 refine za [0,1,5,6,7] (aI (za [0,1,5,6,7,8] (zi h (fun h => ?_) fun h => ?_)))
 exact aV (zb (dI zI (hj1 _ _ h)))
 refine za [0,1,5,6,7,10] (zi h (fun h => ?_) fun h => ?_)
 exact aV (zb (dI zI (hj1 _ _ h)))
 refine za [0,1,5,6,7,12] (zi h (fun h => ?_) fun h => ?_)
 exact aV (zb (dI zI (hj1 _ _ h)))
 refine za [0,1,5,6,7,14] (zi h (fun h => ?_) fun h => ?_)
 exact aV (zb (dI zI (hj1 _ _ h)))
 refine aR h (fun A j => ∀ v3,j v3 = some r → A (mk [A7 0 p0,A7 1 p1,I4 5,(6,.c (I 1048576)),A7 7 p0,B4 16 v3] [] 0)) (fun v3 h => ?_) (fun j2 Aj2 hj2 h => ?_)
 refine zi h (fun h => ?_) fun h => ?_
 exact aV (zb (dI zI (hj1 _ _ h)))
 refine aR h (fun A j => ∀ v5,j v5 = some r → A (mk [A7 0 p0,A7 1 p1,I4 5,(6,.c (I 1048576)),A7 7 p0,B4 19 v5] [] 0)) (fun v5 h => ?_) (fun j4 Aj4 hj4 h => ?_)
 refine zi h (fun h => ?_) fun h => ?_
 exact aV (zb (dI zI (hj1 _ _ h)))
 refine za [0,1,5,6,7,22] (zi h (fun h => ?_) fun h => ?_)
 exact aV (zb (dI zI (hj1 _ _ h)))
 refine za [0,1,5,6,7,24] (zi h (fun h => ?_) fun h => ?_)
 exact aV (zb (dI zI (hj1 _ _ h)))
 refine aR h (fun A j => ∀ v7,j v7 = some r → A (mk [A7 0 p0,A7 1 p1,I4 5,(6,.c (I 1048576)),A7 7 p0,B4 26 v7] [] 0)) (fun v7 h => ?_) (fun j6 Aj6 hj6 h => ?_)
 refine zi h (fun h => ?_) fun h => ?_
 exact aV (zb (dI zI (hj1 _ _ h)))
 refine za [0,1,5,6,29] (zi h (fun h => ?_) fun h => ?_)
 exact aV (zb (dI zI (hj1 _ _ h)))
 exact aJ zI (aD (hj1 _ _ h))
 refine za [0,1,5,6,7,26] (zi h (fun h => ?_) fun h => ?_)
 exact aJ zI (aD (hj6 _ h))
 exact aV (zb (dI zI (hj6 _ h)))
 refine za [0,1,5,6,7,19] (zi h (fun h => ?_) fun h => ?_)
 exact aJ zI (aD (hj4 _ h))
 exact aV (zb (dI zI (hj4 _ h)))
 refine za [0,1,5,6,7,16] (zi h (fun h => ?_) fun h => ?_)
 exact aJ zI (aD (hj2 _ h))
 exact aV (zb (dI zI (hj2 _ h)))
def oS (v3 : Int) (j9 : Int → Option (bW × aW)) (y7 : (Int × aW)) : Nat → Int → Option (bW × aW)
 | 0,_ => none
 | n + 1,v11 => (dS n v3 v11).bind fun y12 => (if (!y12) = true then (if (decide ((Ju 0 (w6 (Int.tdiv v11 2))) < 2)) = true then j9 1 else oS v3 j9 y7 n (Ju 0 (w6 (Int.tdiv v11 2)))) else j9 v11)
def xO (n : Nat) (p0 : aW) (p1 : Int) : Option (bW × aW) := (cF n p0 22).bind fun y1 => (aS (fun (v3 : Int) => (cF n y1.2 8).bind fun y4 => (if (y4.1 == 0) = true then (cF n y4.2 4).bind fun y5 => (idx [(⟨#[105,110,107]⟩ : ByteArray),(⟨#[112,97,112,101,114]⟩ : ByteArray),(⟨#[115,112,97,99,101]⟩ : ByteArray),(⟨#[110,111,110,101]⟩ : ByteArray)] y5.1).bind fun e6 => some ((bW.mk v3 1 0 e6),y5.2) else (if (y4.1 == 1) = true then some ((bW.mk v3 2 0 nB),y4.2) else (if (y4.1 == 2) = true then some ((bW.mk v3 3 0 nB),y4.2) else (cF n y4.2 (List.length [0,1,2,3,4,8,12,20,40,90,300,(-1 : Int)] : Int)).bind fun y7 => (idx [0,1,2,3,4,8,12,20,40,90,300,(-1 : Int)] y7.1).bind fun e8 => (aS (fun (v14 : Int) => some ((bW.mk v3 0 v14 nB),y7.2)) (fun (j9 : Int → Option (bW × aW)) => oS v3 j9 y7 n e8)))))) (fun (j2 : Int → Option (bW × aW)) => (if (((oU .i64 p1 7) != 0) && ((y1.1 == 5) || (y1.1 == 21))) = true then j2 9 else j2 y1.1)))
theorem Qa (n : Nat) (p0 : aW) (p1 : Int) (r : (bW × aW)) (h : xO n p0 p1 = some r) : dC E 33 1 (Q6 p1) [D9 p0] (M7 r.1) [D9 r.2] := by
 refine eO Tryz.func33 rfl ?_
 unfold xO at h
 refine za [0,1,4] (zx fun _ => zk 1 (bK h fun y1 he h => zo [(0,0)] cK (bI n _ _ y1 he) (zk 3 (ze [0,1,4,5] (aR h (fun A j => ∀ v3,j v3 = some r → A (mk [G7,H4,O9] [D9 y1.2,M1,(2,.blk 81 [I v3,I 0,I 0,Sx nB])] 3)) (fun v3 h => ?_) (fun j2 Aj2 hj2 h => ?_))))))
 refine aM (zx fun _ => zk 1 (bK h fun y4 he h => zo [(0,0)] cK (bI n _ _ y4 he) (ze [0,4,5,25] (aI (za [0,4,5,25,26] (zi h (fun h => ?_) fun h => ?_))))))
 refine vK [[],[],[1],[0,2,1],[3,0,2,1],[],[5,2,1],[0,1,2,3,4,5,6],[7,4,6,0,1,2,3,5]] fun _ => zk 2 (bK h fun y5 he h => zo [(0,0)] cK (bI n _ _ y5 he) (bK h fun e6 he h => zd eS he (zk 5 (ze [4,5] (za [4] ?_)))))
 cases h
 exact aG zr
 refine za [0,4,5,25,36] (zi h (fun h => ?_) fun h => ?_)
 refine za [4,5] (za [4] ?_)
 cases h
 exact aG zr
 refine za [0,4,5,40] (zi h (fun h => ?_) fun h => ?_)
 refine za [4,5] (za [4] ?_)
 cases h
 exact aG zr
 refine aD (za [0,4,5,6] (zx fun _ => zk 3 (zl aL [0,1,2,3,4,8,12,20,40,90,300,(-1 : Int)] (bK h fun y7 he h => zo [(0,0)] cK (bI n _ _ y7 he) (bK h fun e8 he h => zd aL he (zk 3 (kS [4,5] (L2 := [H4,O9]) (G2 := [D9 y7.2,M1,(2,.blk 81 [I v3,I 0,I e8,Sx nB]),(11,.tok 3 1 (List.length [0,1,2,3,4,8,12,20,40,90,300,(-1 : Int)]))]) 22 (aR h (fun A j => ∀ v14,j v14 = some r → A (mk [H4,O9] [D9 y7.2,M1,(2,.blk 81 [I v3,I 0,I v14,Sx nB])] 3)) (fun v14 h => ?_) (fun j9 Aj9 hj9 h => ?_)))))))))
 refine za [4] ?_
 cases h
 exact aG zr
 refine aI (bB (fun n s => ∃ v11,oS v3 j9 y7 n v11 = some r ∧ s = mk [H4,O9] [D9 y7.2,M1,(2,.blk 81 [I v3,I 0,I v11,Sx nB])] 3) n _ zI ⟨_,h,rfl⟩ (fun s ⟨v11,h,_⟩ => nomatch h) ?_)
 rintro n s ⟨v11,h,rfl⟩
 rw [oS] at h
 refine aM (zx fun _ => zk 4 (bK h fun y12 he h => zc Yo (qH n _ _ y12 he) (zk 1 (ze [4,5,58] (zi h (fun h => ?_) fun h => ?_)))))
 refine aD (aI (zx fun _ => zk 3 (zw (v := .c (I (Ju 0 (w6 (Int.tdiv v11 2))))) [] (rdW_max (k := .i64) (p := 0) (q := (w6 (Int.tdiv v11 2))) (by kernel_rfl)) (zk 2 (ze [4,5] (za [4,5,66] (zi h (fun h => ?_) fun h => ?_)))))))
 exact za [4,5] (aJ zI (bF (hj9 _ h)))
 exact aJ zI (aD (⟨_,h,rfl⟩))
 exact aJ zI (bF (hj9 _ h))
 refine zx fun _ => zk 4 (zq (zq (zq (zF [(oU .i64 p1 7) != 0] (D7 (y1.1 == 5)) (zq (zq (zq (zp (zp (kS [0,4,5,22] (L2 := [G7,H4,A1 5 5 0,B4 22 (((oU .i64 p1 7) != 0) && ((y1.1 == 5) || (y1.1 == 21)))]) (G2 := [D9 y1.2,M1,(5,.blk 81 [I y1.1,I 0,I 0,Sx nB])]) 20 (zi h (fun h => ?_) fun h => ?_)))))))))))
 exact aV (zb (dI (zv [(0,0),(1,1),(5,2)] [0,4,5] 3) (hj2 _ h)))
 exact aJ (zv [(0,0),(1,1),(5,2)] [0,4,5] 3) (aD (hj2 _ h))
def lJ (v89 : Int) (j102 : List Int → Int → List bW → Option (bM × aW)) (v67 : Int) (v77 : Int) (v83 : ByteArray) (v95 : Int) (v101 : ByteArray) (v70 : List cM) : Nat → Int → List Int → Int → List bW → Option (bM × aW)
 | 0,_,_,_,_ => none
 | n + 1,v109,v110,v111,v112 => (if (decide (v109 > 0)) = true then (xO n (aW.mk v110 v111) v89).bind fun y113 => (pA 40 v112 [y113.1]).bind fun l114 => lJ v89 j102 v67 v77 v83 v95 v101 v70 n (w6 (v109 - 1)) y113.2.L y113.2.At l114 else j102 v110 v111 v112)
def lR (j1 : List Int → Int → List cM → Option (bM × aW)) : Nat → Int → List Int → Int → List cM → Option (bM × aW)
 | 0,_,_,_,_ => none
 | n + 1,v67,v68,v69,v70 => (if (decide (v67 > 0)) = true then (aS (fun (v126 : List Int) (v127 : Int) (v128 : List cM) => lR j1 n (w6 (v67 - 1)) v126 v127 v128) (fun (j71 : List Int → Int → List cM → Option (bM × aW)) => (aS (fun (v75 : List Int) (v76 : Int) (v77 : Int) => (aS (fun (v81 : List Int) (v82 : Int) (v83 : ByteArray) => (aS (fun (v87 : List Int) (v88 : Int) (v89 : Int) => (aS (fun (v93 : List Int) (v94 : Int) (v95 : Int) => (aS (fun (v99 : List Int) (v100 : Int) (v101 : ByteArray) => (aS (fun (v122 : List Int) (v123 : Int) (v124 : List bW) => (pA 80 v70 [(cM.mk v77 v83 v89 v95 v101 v124)]).bind fun l125 => j71 v122 v123 l125) (fun (j102 : List Int → Int → List bW → Option (bM × aW)) => (oR n (aW.mk v99 v100) 1 4).bind fun y103 => lJ v89 j102 v67 v77 v83 v95 v101 v70 n y103.1 y103.2.L y103.2.At ([] : List bW)))) (fun (j96 : List Int → Int → ByteArray → Option (bM × aW)) => (cF n (aW.mk v93 v94) 5).bind fun y97 => (if (y97.1 == 0) = true then (oZ n y97.2).bind fun y98 => j96 y98.2.L y98.2.At y98.1 else j96 y97.2.L y97.2.At nB)))) (fun (j90 : List Int → Int → Int → Option (bM × aW)) => (cF n (aW.mk v87 v88) 4).bind fun y91 => (if (y91.1 == 0) = true then (cF n y91.2 14).bind fun y92 => j90 y92.2.L y92.2.At y92.1 else j90 y91.2.L y91.2.At 0)))) (fun (j84 : List Int → Int → Int → Option (bM × aW)) => (cF n (aW.mk v81 v82) 4).bind fun y85 => (if (y85.1 == 0) = true then (cF n y85.2 32).bind fun y86 => j84 y86.2.L y86.2.At y86.1 else j84 y85.2.L y85.2.At 0)))) (fun (j78 : List Int → Int → ByteArray → Option (bM × aW)) => (cF n (aW.mk v75 v76) 3).bind fun y79 => (if (y79.1 == 0) = true then (oZ n y79.2).bind fun y80 => j78 y80.2.L y80.2.At y80.1 else j78 y79.2.L y79.2.At nB)))) (fun (j72 : List Int → Int → Int → Option (bM × aW)) => (cF n (aW.mk v68 v69) 2).bind fun y73 => (if (y73.1 == 0) = true then (cF n y73.2 14).bind fun y74 => j72 y74.2.L y74.2.At y74.1 else j72 y73.2.L y73.2.At 0))))) else j1 v68 v69 v70)
def uL (n : Nat) (p0 : aW) : Option (bM × aW) := (aS (fun (v139 : List Int) (v140 : Int) (v141 : List cM) => some ((bM.mk v141),(aW.mk v139 v140))) (fun (j1 : List Int → Int → List cM → Option (bM × aW)) => (cF n p0 7).bind fun y2 => lR j1 n y2.1 y2.2.L y2.2.At ([] : List cM)))
theorem Nr (n : Nat) (p0 : aW) (r : (bM × aW)) (h : uL n p0 = some r) : dC E 11 1 [D6 0 0] [D9 p0] (R0 r.1.Rules) [D9 r.2] := by
 refine eO Tryz.func11 rfl ?_
 unfold uL at h
 refine za [0,2] (za [0,2,3] (aR h (fun A j => ∀ v139 v140 v141,j v139 v140 v141 = some r → A (mk [N7,L5] [A6 v139 v140,I1 1 31 3,I1 2 31 4,(3,.vec 63 6 (List.map aY ([] : List cM))),(4,J4 v141)] 5)) (fun v139 v140 v141 h => ?_) (fun j1 Aj1 hj1 h => ?_)))
 refine za [2] (aJ (nM 4 (T := 63) (sz := 6) (l := List.map aY v141) (L2 := [N7]) (G2 := [A6 v139 v140,(1,.blk 31 [C4 v141]),(2,.blk 31 [C4 v141]),(3,.vec 63 6 (List.map aY ([] : List cM)))]) (by kernel_rfl) (by kernel_rfl) (by kernel_rfl)) ?_)
 cases h
 exact aG zr
 refine zx fun _ => zk 1 (bK h fun y2 he h => zo [(0,0)] cK (bI n _ _ y2 he) (zk 1 (ze [0,2,3,4] (aI (bB (fun n s => ∃ v67 v68 v69 v70,lR j1 n v67 v68 v69 v70 = some r ∧ s = mk [G7,N7,L5,A7 4 v67] [A6 v68 v69,I1 1 31 3,I1 2 31 4,(3,.vec 63 6 (List.map aY ([] : List cM))),(4,J4 v70)] 5) n _ (dZ.trans (zS (n := 1) (T0 := 31) (l := [bV]) (G2 := [D9 y2.2,I1 1 31 6,(2,.blk 31 [bV]),(6,.vec 63 6 (List.map aY ([] : List cM)))]) (lim2 := 7) 0 63 6 (by kernel_rfl) (by kernel_rfl) (by kernel_rfl) (by kernel_rfl)) (dZ.trans (zS (n := 2) (T0 := 31) (l := [bV]) (G2 := [D9 y2.2,I1 1 31 6,I1 2 31 7,(6,.vec 63 6 (List.map aY ([] : List cM))),(7,.vec 63 6 (List.map aY ([] : List cM)))]) (lim2 := 8) 0 63 6 (by kernel_rfl) (by kernel_rfl) (by kernel_rfl) (by kernel_rfl)) (zv [(0,0),(1,1),(2,2),(6,3),(7,4)] [0,2,3,4] 5))) ⟨_,_,_,_,h,rfl⟩ (fun s ⟨v67,v68,v69,v70,h,_⟩ => nomatch h) ?_)))))
 rintro n s ⟨v67,v68,v69,v70,h,rfl⟩
 rw [lR] at h
 refine aM (za [0,2,3,4,10] (zi h (fun h => ?_) fun h => ?_))
 refine aD (aR h (fun A j => ∀ v126 v127 v128,j v126 v127 v128 = some r → A (mk [G7,N7,L5,A7 4 v67] [A6 v126 v127,I1 1 31 3,I1 2 31 4,(3,.vec 63 6 (List.map aY ([] : List cM))),(4,J4 v128)] 5)) (fun v126 v127 v128 h => ?_) (fun j71 Aj71 hj71 h => ?_))
 exact aV (zb (dI zI (⟨_,_,_,_,h,rfl⟩)))
 refine aI (za [0,2,3,4,5] (aR h (fun A j => ∀ v75 v76 v77,j v75 v76 v77 = some r → A (mk [G7,N7,L5,A7 4 v67,A1 5 3 0] [A6 v75 v76,I1 1 31 4,I1 2 31 5,(3,.blk 63 [I v77,Sx nB,I 0,I 0,Sx nB,bV]),(4,.vec 63 6 (List.map aY ([] : List cM))),(5,J4 v70)] 6)) (fun v75 v76 v77 h => ?_) (fun j72 Aj72 hj72 h => ?_)))
 refine aR h (fun A j => ∀ v81 v82 v83,j v81 v82 v83 = some r → A (mk [G7,N7,L5,A7 4 v67,A1 5 3 0] [A6 v81 v82,I1 1 31 4,I1 2 31 5,(3,.blk 63 [I v77,Sx v83,I 0,I 0,Sx nB,bV]),(4,.vec 63 6 (List.map aY ([] : List cM))),(5,J4 v70)] 6)) (fun v81 v82 v83 h => ?_) (fun j78 Aj78 hj78 h => ?_)
 refine aR h (fun A j => ∀ v87 v88 v89,j v87 v88 v89 = some r → A (mk [G7,N7,L5,A7 4 v67,A1 5 3 0] [A6 v87 v88,I1 1 31 4,I1 2 31 5,(3,.blk 63 [I v77,Sx v83,I v89,I 0,Sx nB,bV]),(4,.vec 63 6 (List.map aY ([] : List cM))),(5,J4 v70)] 6)) (fun v87 v88 v89 h => ?_) (fun j84 Aj84 hj84 h => ?_)
 refine aR h (fun A j => ∀ v93 v94 v95,j v93 v94 v95 = some r → A (mk [G7,N7,L5,A7 4 v67,A1 5 3 0] [A6 v93 v94,I1 1 31 4,I1 2 31 5,(3,.blk 63 [I v77,Sx v83,I v89,I v95,Sx nB,bV]),(4,.vec 63 6 (List.map aY ([] : List cM))),(5,J4 v70)] 6)) (fun v93 v94 v95 h => ?_) (fun j90 Aj90 hj90 h => ?_)
 refine aR h (fun A j => ∀ v99 v100 v101,j v99 v100 v101 = some r → A (mk [G7,N7,L5,A7 4 v67,A1 5 3 0] [A6 v99 v100,I1 1 31 4,I1 2 31 5,(3,.blk 63 [I v77,Sx v83,I v89,I v95,Sx v101,bV]),(4,.vec 63 6 (List.map aY ([] : List cM))),(5,J4 v70)] 6)) (fun v99 v100 v101 h => ?_) (fun j96 Aj96 hj96 h => ?_)
 refine aR h (fun A j => ∀ v122 v123 v124,j v122 v123 v124 = some r → A (mk [G7,N7,L5,A7 4 v67,A1 5 3 0] [A6 v122 v123,I1 1 31 4,I1 2 31 5,(3,.blk 63 [I v77,Sx v83,I v89,I v95,Sx v101,.app 6 (List.map bL v124)]),(4,.vec 63 6 (List.map aY ([] : List cM))),(5,J4 v70),C1 6 81 4 v124] 7)) (fun v122 v123 v124 h => ?_) (fun j102 Aj102 hj102 h => ?_)
 exact aV (zy fun _ => zk 4 (bK h fun l125 he h => oK (enc := aY) (l := v70) (els := [cM.mk v77 v83 v89 v95 v101 v124]) (r := l125) (m := 5) (e := 63) (sz := 6) (bytes := 80) (nm := 11) he (by kernel_rfl) (fun x => by kernel_rfl) (by kernel_rfl) (by kernel_rfl) rfl rfl rfl (zk 2 (bT (dI (zv [(0,0),(1,1),(2,2),(4,3),(11,4)] [0,2,3,4] 5) (hj71 _ _ _ h))))))
 refine zx fun _ => zk 1 (bK h fun y103 he h => zo [(0,0)] Vy (rK n _ _ _ y103 he) (zk 1 (ze [0,2,3,4,5,6] (aI (bB (fun n s => ∃ v109 v110 v111 v112,lJ v89 j102 v67 v77 v83 v95 v101 v70 n v109 v110 v111 v112 = some r ∧ s = mk [G7,N7,L5,A7 4 v67,A1 5 3 0,A7 6 v109] [A6 v110 v111,I1 1 31 4,I1 2 31 5,(3,.blk 63 [I v77,Sx v83,I v89,I v95,Sx v101,.app 6 (List.map bL v112)]),(4,.vec 63 6 (List.map aY ([] : List cM))),(5,J4 v70),C1 6 81 4 v112] 7) n _ (dZ.trans (lZ (n := 3) (T0 := 63) (l := [I v77,Sx v83,I v89,I v95,Sx v101,bV]) (G2 := [D9 y103.2,I1 1 31 4,I1 2 31 5,(3,.blk 63 [I v77,Sx v83,I v89,I v95,Sx v101,.app 9 (List.map bL ([] : List bW))]),(4,.vec 63 6 (List.map aY ([] : List cM))),(5,J4 v70),(9,.tok 81 4 (List.length ([] : List bW)))]) (lim2 := 10) 5 81 4 (by kernel_rfl) (by kernel_rfl) (by kernel_rfl) (by kernel_rfl)) (zv [(0,0),(1,1),(2,2),(3,3),(4,4),(5,5),(9,6)] [0,2,3,4,5,6] 7)) ⟨_,_,_,_,h,rfl⟩ (fun s ⟨v109,v110,v111,v112,h,_⟩ => nomatch h) ?_)))))
 rintro n s ⟨v109,v110,v111,v112,h,rfl⟩
 rw [lJ] at h
 refine aM (za [0,2,3,4,5,6,47] (zi h (fun h => ?_) fun h => ?_))
 exact aD (aM (aI (Ov [[],[0],[],[],[3],[2,4,3],[5,2,4,3],[1,6,5,0,2,4,3],[0,1,2,3,4,5,6,7],[8,7,0,1,2,3,4,5,6]] fun _ => zk 5 (bK h fun y113 he h => zo [(0,0)] fok33 (Qa n _ _ y113 he) (zk 1 (bK h fun l114 he h => cI (enc := bL) (l := v112) (els := [y113.1]) (r := l114) (old := some 6) (e := 81) (sz := 4) (bytes := 40) (k := (H6 v112)) (nm := 16) he (by kernel_rfl) (by kernel_rfl) (fun x => by kernel_rfl) (by kernel_rfl) (by kernel_rfl) rfl rfl rfl (zk 2 (bT (aV (zb (dI (zv [(0,0),(1,1),(2,2),(3,3),(4,4),(5,5),(16,6)] [0,2,3,4,5,6] 7) (⟨_,_,_,_,h,rfl⟩))))))))))))
 exact aJ zI (bF (hj102 _ _ _ h))
 refine zx fun _ => zk 1 (bK h fun y97 he h => zo [(0,0)] cK (bI n _ _ y97 he) (zk 1 (ze [0,2,3,4,5,40] (zi h (fun h => ?_) fun h => ?_))))
 exact aV (zy fun _ => zk 1 (bK h fun y98 he h => zo [(0,0)] fok32 (xQ n _ y98 he) (zk 2 (bT (dI zI (hj96 _ _ _ h))))))
 exact aJ zI (aD (hj96 _ _ _ h))
 refine zx fun _ => zk 1 (bK h fun y91 he h => zo [(0,0)] cK (bI n _ _ y91 he) (zk 1 (ze [0,2,3,4,5,34] (zi h (fun h => ?_) fun h => ?_))))
 exact aV (zy fun _ => zk 1 (bK h fun y92 he h => zo [(0,0)] cK (bI n _ _ y92 he) (zk 2 (bT (dI zI (hj90 _ _ _ h))))))
 exact aJ zI (aD (hj90 _ _ _ h))
 refine zx fun _ => zk 1 (bK h fun y85 he h => zo [(0,0)] cK (bI n _ _ y85 he) (zk 1 (ze [0,2,3,4,5,28] (zi h (fun h => ?_) fun h => ?_))))
 exact aV (zy fun _ => zk 1 (bK h fun y86 he h => zo [(0,0)] cK (bI n _ _ y86 he) (zk 2 (bT (dI zI (hj84 _ _ _ h))))))
 exact aJ zI (aD (hj84 _ _ _ h))
 refine zx fun _ => zk 1 (bK h fun y79 he h => zo [(0,0)] cK (bI n _ _ y79 he) (zk 1 (ze [0,2,3,4,5,22] (zi h (fun h => ?_) fun h => ?_))))
 exact aV (zy fun _ => zk 1 (bK h fun y80 he h => zo [(0,0)] fok32 (xQ n _ y80 he) (zk 2 (bT (dI zI (hj78 _ _ _ h))))))
 exact aJ zI (aD (hj78 _ _ _ h))
 refine zx fun _ => zk 1 (bK h fun y73 he h => zo [(0,0)] cK (bI n _ _ y73 he) (zk 1 (ze [0,2,3,4,5,16] (zi h (fun h => ?_) fun h => ?_))))
 exact aV (zy fun _ => zk 1 (bK h fun y74 he h => zo [(0,0)] cK (bI n _ _ y74 he) (zk 2 (bT (dI (zv [(0,0),(1,1),(2,2),(8,3),(3,4),(4,5)] [0,2,3,4,5] 6) (hj72 _ _ _ h))))))
 exact aJ (zv [(0,0),(1,1),(2,2),(8,3),(3,4),(4,5)] [0,2,3,4,5] 6) (aD (hj72 _ _ _ h))
 exact aJ zI (bF (hj1 _ _ _ h))
def nL (j1 : List fJ → List Int → Int → Option (bS × aW)) : Nat → Int → List Int → Int → List fJ → Option (bS × aW)
 | 0,_,_,_,_ => none
 | n + 1,v12,v13,v14,v15 => (cF n (aW.mk v13 v14) 4).bind fun y16 => (if (decide (v12 < y16.1)) = true then (idx [(⟨#[105,110,107]⟩ : ByteArray),(⟨#[112,97,112,101,114]⟩ : ByteArray),(⟨#[115,112,97,99,101]⟩ : ByteArray)] v12).bind fun e17 => (cF n y16.2 200).bind fun y18 => (cF n y18.2 40).bind fun y19 => (cF n y19.2 16777216).bind fun y20 => (cF n y20.2 5).bind fun y21 => (pA 48 v15 [(fJ.mk e17 y18.1 (w6 (y19.1 - 1)) y20.1 y21.1)]).bind fun l22 => nL j1 n (w6 (v12 + 1)) y21.2.L y21.2.At l22 else j1 v15 y16.2.L y16.2.At)
def uA (n : Nat) (p0 : aW) : Option (bS × aW) := (aS (fun (v30 : List fJ) (v31 : List Int) (v32 : Int) => some ((bS.mk v30),(aW.mk v31 v32))) (fun (j1 : List fJ → List Int → Int → Option (bS × aW)) => nL j1 n 0 p0.L p0.At ([] : List fJ)))
theorem Nm (n : Nat) (p0 : aW) (r : (bS × aW)) (h : uA n p0 = some r) : dC E 12 1 [D6 0 0] [D9 p0] (O8 r.1.Tokens) [D9 r.2] := by
 refine eO Tryz.func12 rfl ?_
 unfold uA at h
 refine za [0,2] (za [0,2,3] (za [0,2,3,4] (aR h (fun A j => ∀ v30 v31 v32,j v30 v31 v32 = some r → A (mk [N7,L5] [A6 v31 v32,(1,.blk 35 [bV]),(2,.blk 35 [.app 3 (List.map bC v30)]),C1 3 85 5 v30] 4)) (fun v30 v31 v32 h => ?_) (fun j1 Aj1 hj1 h => ?_))))
 refine za [2] ?_
 cases h
 exact aG zr
 refine za [0,2,3,4,5] (aI (bB (fun n s => ∃ v12 v13 v14 v15,nL j1 n v12 v13 v14 v15 = some r ∧ s = mk [G7,N7,L5,(4,.c (.app 3 (List.map eS [(⟨#[105,110,107]⟩ : ByteArray),(⟨#[112,97,112,101,114]⟩ : ByteArray),(⟨#[115,112,97,99,101]⟩ : ByteArray)]))),A7 5 v12] [A6 v13 v14,(1,.blk 35 [bV]),(2,.blk 35 [.app 4 (List.map bC v15)]),(3,.tok 9 1 (List.length [(⟨#[105,110,107]⟩ : ByteArray),(⟨#[112,97,112,101,114]⟩ : ByteArray),(⟨#[115,112,97,99,101]⟩ : ByteArray)])),C1 4 85 5 v15] 5) n _ (dZ.trans (lZ (n := 2) (T0 := 35) (l := [bV]) (G2 := [D9 p0,(1,.blk 35 [bV]),(2,.blk 35 [.app 6 (List.map bC ([] : List fJ))]),(3,.tok 9 1 (List.length [(⟨#[105,110,107]⟩ : ByteArray),(⟨#[112,97,112,101,114]⟩ : ByteArray),(⟨#[115,112,97,99,101]⟩ : ByteArray)])),(6,.tok 85 5 (List.length ([] : List fJ)))]) (lim2 := 7) 0 85 5 (by kernel_rfl) (by kernel_rfl) (by kernel_rfl) (by kernel_rfl)) (zv [(0,0),(1,1),(2,2),(3,3),(6,4)] [0,2,3,4,5] 5)) ⟨_,_,_,_,h,rfl⟩ (fun s ⟨v12,v13,v14,v15,h,_⟩ => nomatch h) ?_))
 rintro n s ⟨v12,v13,v14,v15,h,rfl⟩
 rw [nL] at h
 refine aM (zx fun _ => zk 2 (bK h fun y16 he h => zo [(0,0)] cK (bI n _ _ y16 he) (zk 1 (ze [0,2,3,4,5,10] (zi h (fun h => ?_) fun h => ?_)))))
 exact aD (aM (aI (Ov [[],[0],[],[],[2,3],[4,2,3],[],[6],[],[8,7,6],[9,8,7,6],[],[11,9,8,7,6],[],[13,12,11,9,8,7,6],[5,7,10,12,14,4,2,3,6,9,8,11,13],[15,5,7,10,12,14,4,2,3,6,9,8,11,13],[1,16,14,0,15,5,7,10,12,4,2,3,6,9,8,11,13],[0,1,2,3,4,5,6,7,8,9,10,11,12,13,14,15,16,17],[18,17,0,1,2,3,4,5,6,7,8,9,10,11,12,13,14,15,16]] fun _ => zk 4 (bK h fun e17 he h => zd eS he (zk 2 (bK h fun y18 he h => zo [(0,0)] cK (bI n _ _ y18 he) (zk 1 (bK h fun y19 he h => zo [(0,0)] cK (bI n _ _ y19 he) (zk 2 (bK h fun y20 he h => zo [(0,0)] cK (bI n _ _ y20 he) (zk 1 (bK h fun y21 he h => zo [(0,0)] cK (bI n _ _ y21 he) (zk 2 (bK h fun l22 he h => cI (enc := bC) (l := v15) (els := [fJ.mk e17 y18.1 (w6 (y19.1 - 1)) y20.1 y21.1]) (r := l22) (old := some 4) (e := 85) (sz := 5) (bytes := 48) (k := (H6 v15)) (nm := 26) he (by kernel_rfl) (by kernel_rfl) (fun x => by kernel_rfl) (by kernel_rfl) (by kernel_rfl) rfl rfl rfl (zk 2 (bT (aV (zb (dI (zv [(0,0),(1,1),(2,2),(3,3),(26,4)] [0,2,3,4,5] 5) (⟨_,_,_,_,h,rfl⟩))))))))))))))))))))
 exact aJ (zv [(0,0),(1,1),(2,2),(4,3)] [2,3] 4) (bF (hj1 _ _ _ h))
def yC (n : Nat) (p0 : aW) : Option (cX × aW) := (cF n p0 2).bind fun y1 => (cF n y1.2 2).bind fun y2 => (cF n y2.2 5).bind fun y3 => (idx [100,100,50,150,400] y3.1).bind fun e4 => some ((cX.mk (y1.1 == 1) (y2.1 == 1) e4),y3.2)
theorem Ra (n : Nat) (p0 : aW) (r : (cX × aW)) (h : yC n p0 = some r) : dC E 13 1 [D6 0 0] [D9 p0] (F3 r.1) [D9 r.2] := by
 refine eO Tryz.func13 rfl ?_
 unfold yC at h
 refine za [0,2] (zx fun _ => zk 1 (bK h fun y1 he h => zo [(0,0)] cK (bI n _ _ y1 he) (zk 2 (bK h fun y2 he h => zo [(0,0)] cK (bI n _ _ y2 he) (zk 3 (bK h fun y3 he h => zo [(0,0)] cK (bI n _ _ y3 he) (bK h fun e4 he h => zd aL he (zk 3 (ze [2] ?_)))))))))
 cases h
 exact aG zr
def kN (p1 : bA) (j1 : List aO → List Int → Int → Option ((List aO) × aW)) : Nat → List aO → Int → List Int → Int → Option ((List aO) × aW)
 | 0,_,_,_,_ => none
 | n + 1,v10,v11,v12,v13 => (if (decide (v11 < (List.length p1.Nodes : Int))) = true then (aS (fun (v19 : List aO) (v20 : List Int) (v21 : Int) => kN p1 j1 n v19 (w6 (v11 + 1)) v20 v21) (fun (j14 : List aO → List Int → Int → Option ((List aO) × aW)) => (cF n (aW.mk v12 v13) 4).bind fun y15 => (if (y15.1 == 0) = true then (idx p1.Nodes v11).bind fun e16 => (cF n y15.2 32).bind fun y17 => (pA 16 v10 [(aO.mk e16.ID y17.1)]).bind fun l18 => j14 l18 y17.2.L y17.2.At else j14 v10 y15.2.L y15.2.At))) else j1 v10 v12 v13)
def qF (n : Nat) (p0 : aW) (p1 : bA) : Option ((List aO) × aW) := (aS (fun (v26 : List aO) (v27 : List Int) (v28 : Int) => some (v26,(aW.mk v27 v28))) (fun (j1 : List aO → List Int → Int → Option ((List aO) × aW)) => kN p1 j1 n ([] : List aO) 0 p0.L p0.At))
theorem zM (n : Nat) (p0 : aW) (p1 : bA) (r : ((List aO) × aW)) (h : qF n p0 p1 = some r) : dC E 14 1 [D6 0 0,B5 p1] [D9 p0] (B7 r.1) [D9 r.2] := by
 refine eO Tryz.func14 rfl ?_
 unfold qF at h
 refine za [0,3] (za [0,3,5] (aR h (fun A j => ∀ v26 v27 v28,j v26 v27 v28 = some r → A (mk [(5,.c (.app 1 (List.map aH v26)))] [A6 v27 v28,C1 1 67 2 v26] 2)) (fun v26 v27 v28 h => ?_) (fun j1 Aj1 hj1 h => ?_)))
 refine za [4] ?_
 cases h
 exact aG zr
 refine za [0,3,5,6] (aI (bB (fun n s => ∃ v10 v11 v12 v13,kN p1 j1 n v10 v11 v12 v13 = some r ∧ s = mk [G7,N0,(5,.c (.app 2 (List.map aH v10))),A7 6 v11] [A6 v12 v13,G4 1 p1,C1 2 67 2 v10] 3) n _ (dZ.trans (mB (L2 := [G7,N0,(5,.c (.app 5 (List.map aH ([] : List aO)))),I4 6]) (G2 := [D9 p0,G4 1 p1,(5,.tok 67 2 (List.length ([] : List aO)))]) (lim2 := 6) 5 67 2 (by kernel_rfl) (by kernel_rfl) (by kernel_rfl) (by kernel_rfl)) (zv [(0,0),(1,1),(5,2)] [0,3,5,6] 3)) ⟨_,_,_,_,h,rfl⟩ (fun s ⟨v10,v11,v12,v13,h,_⟩ => nomatch h) ?_))
 rintro n s ⟨v10,v11,v12,v13,h,rfl⟩
 rw [kN] at h
 refine aM (zx fun _ => zk 3 (zl aE p1.Nodes (zk 1 (ze [0,3,5,6,11] (zi h (fun h => ?_) fun h => ?_)))))
 refine aD (aR h (fun A j => ∀ v19 v20 v21,j v19 v20 v21 = some r → A (mk [G7,N0,(5,.c (.app 2 (List.map aH v19))),A7 6 v11] [A6 v20 v21,G4 1 p1,C1 2 67 2 v19] 3)) (fun v19 v20 v21 h => ?_) (fun j14 Aj14 hj14 h => ?_))
 exact aV (zb (dI zI (⟨_,_,_,_,h,rfl⟩)))
 refine aI (zx fun _ => zk 1 (bK h fun y15 he h => zo [(0,0)] cK (bI n _ _ y15 he) (zk 1 (ze [0,3,5,6,16] (zi h (fun h => ?_) fun h => ?_)))))
 exact aV (Ov [[],[],[1],[],[2,3,1],[4,2,3,1],[5,4,2,3,1],[],[7],[6,8,5,4,2,3,1,7],[9,6,8,5,4,2,3,1,7],[0,10,8,9,6,5,4,2,3,1,7],[11,0,1,2,3,4,5,6,7,8,9,10]] fun _ => zk 4 (bK h fun e16 he h => zd aE he (zk 3 (bK h fun y17 he h => zo [(0,0)] cK (bI n _ _ y17 he) (zk 2 (bK h fun l18 he h => cI (enc := aH) (l := v10) (els := [aO.mk e16.ID y17.1]) (r := l18) (old := some 2) (e := 67) (sz := 2) (bytes := 16) (k := (H6 v10)) (nm := 22) he (by kernel_rfl) (by kernel_rfl) (fun x => by kernel_rfl) (by kernel_rfl) (by kernel_rfl) rfl rfl rfl (zk 1 (bT (dI (zv [(0,0),(1,1),(22,2)] [0,3,5,6] 3) (hj14 _ _ _ h))))))))))
 exact aJ zI (aD (hj14 _ _ _ h))
 exact aJ (zv [(0,0),(2,1)] [5] 2) (bF (hj1 _ _ _ h))
def fE (p0 : ByteArray) (j1 : Unit → Option Bool) : Nat → Int → Option Bool
 | 0,_ => none
 | n + 1,v3 => (if (decide (v3 < (ByteArray.size p0 : Int))) = true then (Ae p0 v3).bind fun u4 => (if ((!(((decide (u4 ≥ 97)) && (decide (u4 ≤ 122))) || ((decide (u4 ≥ 65)) && (decide (u4 ≤ 90))))) && ((v3 == 0) || ((((decide (u4 < 48)) || (decide (u4 > 57))) && (u4 != 45)) && (u4 != 95)))) = true then some false else fE p0 j1 n (w6 (v3 + 1))) else j1 ())
def eX (n : Nat) (p0 : ByteArray) : Option Bool := (if (((ByteArray.size p0 : Int) == 0) || (decide ((ByteArray.size p0 : Int) > 24))) = true then some false else (aS (fun (_ : Unit) => some true) (fun (j1 : Unit → Option Bool) => fE p0 j1 n 0)))
theorem lO (n : Nat) (p0 : ByteArray) (r : Bool) (h : eX n p0 = some r) : dC E 66 0 [G0 p0] [] (D7 r) [] := by
 refine eO Tryz.func66 rfl ?_
 unfold eX at h
 refine za [0] (aM (zx fun _ => zk 4 (zq (zq (zq (zp (ze [0,13] (zi h (fun h => ?_) fun h => ?_))))))))
 refine za [2] ?_
 cases h
 exact aG zr
 refine aD (aR h (fun A j => ∀ u,j u = some r → A (M5)) (fun u h => ?_) (fun j1 Aj1 hj1 h => ?_))
 refine za [2] ?_
 cases h
 exact aG zr
 refine za [0,15,16] (aI (bB (fun n s => ∃ v3,fE p0 j1 n v3 = some r ∧ s = mk [(0,G0 p0),(15,.c (I (ByteArray.size p0 : Int))),A7 16 v3] [] 0) n _ zI ⟨_,h,rfl⟩ (fun s ⟨v3,h,_⟩ => nomatch h) ?_))
 rintro n s ⟨v3,h,rfl⟩
 rw [fE] at h
 refine za [0,15,16,17] (aM (zi h (fun h => ?_) fun h => ?_))
 refine aD (aM (aI (za [0,3,15,16] (zx fun _ => zk 2 (bK h fun u4 he h => zs he (zk 1 (ze [0,3,4,15,16] (zx fun _ => zk 3 (zq (zq (zp (zk 1 (zq (zq (zF [!((P9 u4 97) && (Q0 u4 122))] (D7 (P9 u4 65)) (zq (zq (zp (zp (zk 1 (kS [0,3,4,5,15,16] (L2 := [(0,G0 p0),(15,.c (I (ByteArray.size p0 : Int))),A7 16 v3,A7 3 v3,(4,P0 u4),B4 5 (F0 u4)]) (G2 := []) 22 (zx fun _ => zk 3 (zq (zq (zF [!(F0 u4)] (D7 (v3 == 0)) (zq (zq ?_)))))))))))))))))))))))))))
 refine zF [!(F0 u4),!(v3 == 0)] (D7 (Q2 u4)) (zq (zq (zp (zF [!(F0 u4),!(v3 == 0)] (D7 (B0 u4 48 57)) (zq (zq (zp (zF [!(F0 u4),!(v3 == 0)] (D7 ((B0 u4 48 57) && (u4 != 45))) (zq (zq (zp (zp (zP (.bool ((!(F0 u4)) && ((v3 == 0) || (((B0 u4 48 57) && (u4 != 45)) && (u4 != 95))))) (kS [0,15,16,57] (L2 := [(0,G0 p0),(15,.c (I (ByteArray.size p0 : Int))),A7 16 v3,B4 57 ((!(F0 u4)) && ((v3 == 0) || (((B0 u4 48 57) && (u4 != 45)) && (u4 != 95))))]) (G2 := []) 44 (zi h (fun h => ?_) fun h => ?_)))))))))))))))
 refine za [2] ?_
 cases h
 exact aG zr
 exact aD (aV (zb (dI zI (⟨_,h,rfl⟩))))
 exact aJ zI (bF (hj1 _ h))
def iV (n : Nat) (p0 : Int) : Option Bool := some ((decide (p0 ≥ 0)) && (decide (p0 < 22)))
theorem rB (n : Nat) (p0 : Int) (r : Bool) (h : iV n p0 = some r) : dC E 50 0 [C7 p0] [] (D7 r) [] := by
 refine eO Tryz.func50 rfl ?_
 unfold iV at h
 refine za [0] (zx fun _ => zk 3 (zq (zq (zp (zk 1 (ze [2] ?_))))))
 cases h
 exact aG zr
end Go.Proofs.YtojkihhnioeggaaGreatDoor.S
