import Derived.Test.YtojkihhnioeggaaGreatDoorQEGM1
set_option linter.all false
set_option maxRecDepth 100000
set_option maxHeartbeats 4000000
namespace Go.Proofs.YtojkihhnioeggaaGreatDoor.S
open Go Go.Bm
def rD (self_ref11_join : bD → bD → Option (bD × Bool)) (n : Nat) (p0 : bD) (p1 : bD) : Option (bD × Bool) := (if (p0.Kind != p1.Kind) = true then some ((bD.mk 0 ([] : List bD)),false) else (if ((List.length p0.Of : Int) == 0) = true then some (p1,true) else (if ((List.length p1.Of : Int) == 0) = true then some (p0,true) else (idx p0.Of 0).bind fun e1 => (idx p1.Of 0).bind fun e2 => (self_ref11_join e1 e2).bind fun y3 => (if (!y3.2) = true then some ((bD.mk 0 ([] : List bD)),false) else some ((bD.mk p0.Kind [y3.1]),true)))))
theorem Ag (self_ref11_join : bD → bD → Option (bD × Bool)) (ih_ref11_join : ∀ (p0 : bD) (p1 : bD) (r : (bD × Bool)),self_ref11_join p0 p1 = some r → dC E 146 0 [D3 p0,D3 p1] [] (.tup [D3 r.1,D7 r.2]) []) (n : Nat) (p0 : bD) (p1 : bD) (r : (bD × Bool)) (h : rD self_ref11_join n p0 p1 = some r) : dC E 146 0 [D3 p0,D3 p1] [] (.tup [D3 r.1,D7 r.2]) [] := by
 refine eO Tryz.func146 rfl ?_
 unfold rD at h
 refine za [2,3,4] (aM (za [2,3,4,12] (zi h (fun h => ?_) fun h => ?_)))
 refine za [4,5] ?_
 cases h
 exact aG zr
 refine aD (aM (zx fun _ => zk 2 (zl bN p0.Of (zk 1 (ze [2,3,4,17] (zi h (fun h => ?_) fun h => ?_))))))
 refine za [4,5] ?_
 cases h
 exact aG zr
 refine aD (aM (zx fun _ => zk 2 (zl bN p1.Of (zk 1 (ze [2,3,4,22] (zi h (fun h => ?_) fun h => ?_))))))
 refine za [4,5] ?_
 cases h
 exact aG zr
 refine aD (vK [[],[0],[1,0],[2,1,0],[],[4],[5,4],[6,5,4],[3,7,2,1,0,6,5,4],[8,3,7,2,1,0,6,5,4],[9,8,3,7,2,1,0,6,5,4],[9,8,3,7,2,1,0,6,5,4],[],[12,10,8,0,1,2,3,4,5,6,7,9],[11,13,0,1,2,3,4,5,6,7,8,9,10,12]] fun _ => zk 2 (bK h fun e1 he h => cY (v := .c (M6 e1)) (foot := []) (dU (enc := bN) (sz := 2) (l := p0.Of) (ix := 0) he (by kernel_rfl) (gV e1) (by kernel_rfl)) (by kernel_rfl) rfl rfl (zk 3 (bK h fun e2 he h => cY (v := .c (M6 e2)) (foot := []) (dU (enc := bN) (sz := 2) (l := p1.Of) (ix := 0) he (by kernel_rfl) (gV e2) (by kernel_rfl)) (by kernel_rfl) rfl rfl (zk 1 (bK h fun y3 he h => zc Zn (ih_ref11_join _ _ y3 he) (zk 6 (kS [2,4,6,7] (L2 := [J2,A1 4 2 0,A1 6 29 0,B4 7 y3.2]) (G2 := [(0,J1 p0),(1,J1 p1),(2,H1),(29,J1 y3.1)]) 32 (aM (za [2,4,6,37] (zi h (fun h => ?_) fun h => ?_)))))))))))
 refine za [4,5] ?_
 cases h
 exact aG zr
 refine aD (zx fun _ => zk 3 (rF (e := 190) (sz := 2) (len := 1) (r := [I y3.1.Kind,F5 y3.1.Of]) (l' := List.map bN [y3.1]) (nm := 37) (by kernel_rfl) (by simp only [List.map_cons,List.map_nil,gV]; kernel_rfl) (by kernel_rfl) (by kernel_rfl) rfl rfl rfl (zk 3 (ze [4,5] ?_))))
 cases h
 exact aG zr
def mK : Nat → bD → bD → Option (bD × Bool)
 | 0,_,_ => none
 | n + 1,p0,p1 => rD (fun a0 a1 => mK n a0 a1) n p0 p1
theorem Kb (n : Nat) : (∀ (p0 : bD) (p1 : bD) (r : (bD × Bool)),mK n p0 p1 = some r → dC E 146 0 [D3 p0,D3 p1] [] (.tup [D3 r.1,D7 r.2]) []) := by
 induction n with
 | zero => intro p0 p1 r h; rw [mK] at h; cases h
 | succ n ih => intro p0 p1 r h; rw [mK] at h; exact Ag _ ih n _ _ r h
def fA (p0 : aP) (self_ref11_check : aP → Int → Int → Option (bD × Int × Int)) (p1 : Int) (j2 : Int → Bool → List bD → Option (bD × Int × Int)) : Nat → Int → Bool → Int → List bD → Option (bD × Int × Int)
 | 0,_,_,_,_ => none
 | n + 1,v16,v17,v18,v19 => (if (decide (v18 < (List.length p0.L : Int))) = true then (aS (fun (v25 : Bool) (v26 : Int) (v27 : List bD) => fA p0 self_ref11_check p1 j2 n v26 v25 (w6 (v18 + 1)) v27) (fun (j20 : Bool → Int → List bD → Option (bD × Int × Int)) => (idx p0.L v18).bind fun e21 => (self_ref11_check e21 (w6 (p1 + 1)) v16).bind fun y22 => (if (y22.2.2 != 0) = true then some ((bD.mk 0 ([] : List bD)),y22.2.1,y22.2.2) else (if (!v17) = true then j20 v17 y22.2.1 v19 else (if ((List.length v19 : Int) == 0) = true then j20 v17 y22.2.1 [y22.1] else (idx v19 0).bind fun e23 => (mK n e23 y22.1).bind fun y24 => j20 y24.2 y22.2.1 [y24.1]))))) else j2 v16 v17 v19)
def eH (self_ref11_check : aP → Int → Int → Option (bD × Int × Int)) (n : Nat) (p0 : aP) (p1 : Int) (p2 : Int) : Option (bD × Int × Int) := (if ((p0.Kind == 4) && (decide (p1 > 16))) = true then some ((bD.mk 0 ([] : List bD)),(w6 (p2 + 1)),8) else (if (((((decide (p0.Kind < 1)) || (decide (p0.Kind > 4))) || (((p0.N != 0) && (p0.Kind != 1)) && (p0.Kind != 2))) || ((!(bP p0.S nB)) && (p0.Kind != 3))) || ((decide ((List.length p0.L : Int) > 0)) && (!(p0.Kind == 4)))) = true then some ((bD.mk 0 ([] : List bD)),(w6 (p2 + 1)),9) else (if (((p0.Kind == 1) && ((decide (p0.N < (-1099511627776 : Int))) || (decide (p0.N > 1099511627776)))) || (((p0.Kind == 2) && (p0.N != 0)) && (p0.N != 1))) = true then some ((bD.mk 0 ([] : List bD)),(w6 (p2 + 1)),1) else (if (((decide ((ByteArray.size p0.S : Int) > 2000)) || (decide ((List.length p0.L : Int) > 100))) || (decide ((w6 (p2 + 1)) > 1000))) = true then some ((bD.mk 0 ([] : List bD)),(w6 (p2 + 1)),2) else (sM n p0.S).bind fun y1 => (if (!y1) = true then some ((bD.mk 0 ([] : List bD)),(w6 (p2 + 1)),3) else (aS (fun (v35 : Int) (v36 : Bool) (v37 : List bD) => (if (!v36) = true then some ((bD.mk 0 ([] : List bD)),v35,5) else some ((bD.mk p0.Kind v37),v35,0))) (fun (j2 : Int → Bool → List bD → Option (bD × Int × Int)) => fA p0 self_ref11_check p1 j2 n (w6 (p2 + 1)) true 0 ([] : List bD))))))))
theorem yU (self_ref11_check : aP → Int → Int → Option (P4)) (ih_ref11_check : ∀ (p0 : aP) (p1 : Int) (p2 : Int) (r : (P4)),self_ref11_check p0 p1 p2 = some r → dC E 143 0 [C0 p0,C7 p1,C7 p2] [] (.tup [D3 r.1,C7 r.2.1,C7 r.2.2]) []) (n : Nat) (p0 : aP) (p1 : Int) (p2 : Int) (r : (P4)) (h : eH self_ref11_check n p0 p1 p2 = some r) : dC E 143 0 [C0 p0,C7 p1,C7 p2] [] (.tup [D3 r.1,C7 r.2.1,C7 r.2.2]) [] := by
 refine eO Tryz.func143 rfl ?_
 unfold eH at h
 refine za [1,2,3,6] (za [1,2,3,6] (za [1,2,3,6,9] (aM (zx fun _ => zk 2 (zq (zq (zp (ze [1,2,3,6,9,27] (zi h (fun h => ?_) fun h => ?_)))))))))
 refine za [6,7,8] ?_
 cases h
 exact aG zr
 refine aD (aM (zx fun _ => zk 4 (zq (zq (zq (zp (zk 1 (zq (zq (zq (zF [!(Q1 p0.Kind)] (D7 (p0.N != 0)) (zq (zq (zq (zp (zF [!(Q1 p0.Kind)] (D7 ((p0.N != 0) && (p0.Kind != 1))) (zq (zq (zq (zp (zp (Ry 1 (L' := [A7 1 p1,A7 2 (w6 (p2 + 1)),I8,J0,B4 9 (p0.Kind == 4),B4 27 ((p0.Kind == 4) && (F2 p1 16)),A1 30 0 0,A7 31 p0.Kind,B4 32 (D4 p0.Kind 1),B4 33 (D4 p0.Kind 1),(34,.cnd [!(D4 p0.Kind 1)] (D6 0 0)),N5 35 p0.Kind 1,(36,.cnd [!(D4 p0.Kind 1)] (D7 (F2 p0.Kind 4))),B4 37 (Q1 p0.Kind),B4 38 (Q1 p0.Kind),(39,.cnd [!(Q1 p0.Kind)] (D6 0 1)),(40,.cnd [!(Q1 p0.Kind)] (C7 p0.N)),(41,.cnd [!(Q1 p0.Kind)] (D7 (p0.N != 0))),(42,.cnd [!(Q1 p0.Kind)] (D7 (p0.N != 0))),(43,.cnd [!(Q1 p0.Kind),p0.N != 0] (D6 0 0)),(44,.cnd [!(Q1 p0.Kind),p0.N != 0] (C7 p0.Kind)),(45,.cnd [!(Q1 p0.Kind),p0.N != 0] (D7 (p0.Kind != 1))),(46,.cnd [!(Q1 p0.Kind)] (D7 ((p0.N != 0) && (p0.Kind != 1)))),(47,.cnd [!(Q1 p0.Kind)] (D7 ((p0.N != 0) && (p0.Kind != 1)))),(48,.cnd [!(Q1 p0.Kind),(p0.N != 0) && (p0.Kind != 1)] (D6 0 0)),(49,.cnd [!(Q1 p0.Kind),(p0.N != 0) && (p0.Kind != 1)] (C7 p0.Kind)),(50,.cnd [!(Q1 p0.Kind),(p0.N != 0) && (p0.Kind != 1)] (D7 (p0.Kind != 2))),(51,.cnd [!(Q1 p0.Kind)] (D7 (((p0.N != 0) && (p0.Kind != 1)) && (p0.Kind != 2)))),B4 52 ((Q1 p0.Kind) || (((p0.N != 0) && (p0.Kind != 1)) && (p0.Kind != 2))),B4 53 ((Q1 p0.Kind) || (((p0.N != 0) && (p0.Kind != 1)) && (p0.Kind != 2)))]) (G' := [(0,E7 p0),(1,H1)]) (X' := []) (zq (zq (zq (zF [!((Q1 p0.Kind) || (((p0.N != 0) && (p0.Kind != 1)) && (p0.Kind != 2)))] (D7 (!(G9 p0.S))) (zq (zq (zq ?_)))))))))))))))))))))))))))))
 refine zp (zp (zk 1 (zq (zq (kX (e := [!(((Q1 p0.Kind) || (((p0.N != 0) && (p0.Kind != 1)) && (p0.Kind != 2))) || ((!(G9 p0.S)) && (p0.Kind != 3)))]) [(65,O7 p0.L,some 1)] (v := .c (I (List.length p0.L : Int))) (foot := []) (by kernel_rfl) (by kernel_rfl) (by kernel_rfl) (fun hg => mO (enc := aT) (l := p0.L) (by kernel_rfl)) rfl rfl (zq (zF [!(((Q1 p0.Kind) || (((p0.N != 0) && (p0.Kind != 1)) && (p0.Kind != 2))) || ((!(G9 p0.S)) && (p0.Kind != 3)))] (.c (Bo (decide ((List.length p0.L : Int) > 0)))) (zq (zq (zp (zp (kS [1,2,3,6,72] (L2 := [A7 1 p1,A7 2 (w6 (p2 + 1)),I8,J0,(72,.c (Bo ((((Q1 p0.Kind) || (((p0.N != 0) && (p0.Kind != 1)) && (p0.Kind != 2))) || ((!(G9 p0.S)) && (p0.Kind != 3))) || ((decide ((List.length p0.L : Int) > 0)) && (!(p0.Kind == 4))))))]) (G2 := [(0,E7 p0),(1,H1)]) 59 (zi h (fun h => ?_) fun h => ?_)))))))))))))
 refine za [6,7,8] ?_
 cases h
 exact aG zr
 refine aD (aM (zx fun _ => zk 4 (zq (zq (zq (zF [p0.Kind == 1] (.c (Bo (decide (p0.N < (-1099511627776 : Int))))) (zq (zq (zq (zp (zp (zk 1 (zq (zq (zq (zF [(!((p0.Kind == 1) && ((decide (p0.N < (-1099511627776 : Int))) || (O0 p0.N))))] (D7 (p0.Kind == 2)) (zq (zq (zq (zp (zF [(!((p0.Kind == 1) && ((decide (p0.N < (-1099511627776 : Int))) || (O0 p0.N))))] (D7 ((p0.Kind == 2) && (p0.N != 0))) (zq (zq (zq (zp (zp (kS [1,2,3,6,102] (L2 := [A7 1 p1,A7 2 (w6 (p2 + 1)),I8,J0,(102,.c (Bo (((p0.Kind == 1) && ((decide (p0.N < (-1099511627776 : Int))) || (O0 p0.N))) || (((p0.Kind == 2) && (p0.N != 0)) && (p0.N != 1)))))]) (G2 := [(0,E7 p0),(1,H1)]) 87 (zi h (fun h => ?_) fun h => ?_))))))))))))))))))))))))))))
 refine za [6,7,8] ?_
 cases h
 exact aG zr
 refine aD (aM (zx fun _ => zk 5 (zq (zq (kX (e := [(!(decide ((ByteArray.size p0.S : Int) > 2000)))]) [(111,O7 p0.L,some 1)] (v := .c (I (List.length p0.L : Int))) (foot := []) (by kernel_rfl) (by kernel_rfl) (by kernel_rfl) (fun hg => mO (enc := aT) (l := p0.L) (by kernel_rfl)) rfl rfl (zq (zp (zk 1 (zq (zq (zp (kS [1,2,3,6,118] (L2 := [A7 1 p1,A7 2 (w6 (p2 + 1)),I8,J0,(118,.c (Bo (((decide ((ByteArray.size p0.S : Int) > 2000)) || (decide ((List.length p0.L : Int) > 100))) || (decide ((w6 (p2 + 1)) > 1000)))))]) (G2 := [(0,E7 p0),(1,H1)]) 101 (zi h (fun h => ?_) fun h => ?_)))))))))))))
 refine za [6,7,8] ?_
 cases h
 exact aG zr
 refine aD (aM (zx fun _ => zk 2 (bK h fun y1 he h => zc fok145 (Ke n _ y1 he) (zk 1 (ze [1,2,3,6,124] (zi h (fun h => ?_) fun h => ?_))))))
 refine za [6,7,8] ?_
 cases h
 exact aG zr
 refine aD (za [1,2,3,6,10] (za [1,2,3,6,10,11] (aR h (fun A j => ∀ v35 v36 v37,j v35 v36 v37 = some r → A (mk [A7 2 v35,A1 6 0 0,A1 10 1 0,B4 11 v36] [(0,H1),(1,.blk 190 [I p0.Kind,R4 2 v37]),C1 2 190 2 v37] 3)) (fun v35 v36 v37 h => ?_) (fun j2 Aj2 hj2 h => ?_))))
 refine aM (za [2,6,10,179] (zi h (fun h => ?_) fun h => ?_))
 refine za [6,7,8] ?_
 cases h
 exact aG zr
 refine aD (za [6,7,8] ?_)
 cases h
 exact aG zr
 refine za [1,2,3,6,10,11,12] (aI (bB (fun n s => ∃ v16 v17 v18 v19,fA p0 self_ref11_check p1 j2 n v16 v17 v18 v19 = some r ∧ s = mk [A7 1 p1,A7 2 v16,I8,J0,K2,B4 11 v17,A7 12 v18] [(0,E7 p0),(1,H1),(2,.blk 190 [I p0.Kind,R4 3 v19]),C1 3 190 2 v19] 4) n _ (dZ.trans (lZ (n := 108) (T0 := 190) (l := [I p0.Kind,bV]) (G2 := [(0,E7 p0),(1,H1),(108,.blk 190 [I p0.Kind,.app 112 (List.map bN ([] : List bD))]),(112,.tok 190 2 (List.length ([] : List bD)))]) (lim2 := 113) 1 190 2 (by kernel_rfl) (by kernel_rfl) (by kernel_rfl) (by kernel_rfl)) (zv [(0,0),(1,1),(108,2),(112,3)] [1,2,3,6,10,11,12] 4)) ⟨_,_,_,_,h,rfl⟩ (fun s ⟨v16,v17,v18,v19,h,_⟩ => nomatch h) ?_))
 rintro n s ⟨v16,v17,v18,v19,h,rfl⟩
 rw [fA] at h
 refine aM (zx fun _ => zk 3 (zl aT p0.L (zk 1 (ze [1,2,3,6,10,11,12,134] (zi h (fun h => ?_) fun h => ?_)))))
 refine aD (aR h (fun A j => ∀ v25 v26 v27,j v25 v26 v27 = some r → A (mk [A7 1 p1,I8,J0,K2,B4 11 v25,A7 12 v18,A7 2 v26] [(0,E7 p0),(1,H1),(2,.blk 190 [I p0.Kind,R4 3 v27]),C1 3 190 2 v27] 4)) (fun v25 v26 v27 h => ?_) (fun j20 Aj20 hj20 h => ?_))
 exact aV (zb (dI zI (⟨_,_,_,_,h,rfl⟩)))
 refine aI (zx fun _ => zk 3 (bK h fun e21 he h => cY (v := .c (K1 e21)) (foot := []) (dU (enc := aT) (sz := 4) (l := p0.L) (ix := v18) he (by kernel_rfl) (eE e21) (by kernel_rfl)) (by kernel_rfl) rfl rfl (zk 4 (bK h fun y22 he h => zc fok143 (ih_ref11_check _ _ _ y22 he) (zk 8 (ze [1,3,6,10,11,12,13,14,15] (za [1,2,3,6,10,11,12,13,15] (aM (za [1,2,3,6,10,11,12,13,15,152] (zi h (fun h => ?_) fun h => ?_))))))))))
 refine za [6,7,8] ?_
 cases h
 exact aG zr
 refine aD (aM (za [1,2,3,6,10,11,12,13,157] (zi h (fun h => ?_) fun h => ?_)))
 exact aJ zI (bF (hj20 _ _ _ h))
 refine aD (aM (zx fun _ => zk 2 (zl bN v19 (zk 1 (kS [1,2,3,6,10,11,12,13,161] (L2 := [A7 1 p1,I8,J0,K2,B4 11 v17,A7 12 v18,A1 13 22 0,A7 2 y22.2.1,(161,.c (Bo ((List.length v19 : Int) == 0)))]) (G2 := [(0,E7 p0),(1,H1),(2,.blk 190 [I p0.Kind,R4 3 v19]),C1 3 190 2 v19,(22,J1 y22.1)]) 36 (zi h (fun h => ?_) fun h => ?_))))))
 exact zx fun _ => zk 1 (rF (e := 190) (sz := 2) (len := 1) (r := [I y22.1.Kind,F5 y22.1.Of]) (l' := List.map bN [y22.1]) (nm := 37) (by kernel_rfl) (by simp only [List.map_cons,List.map_nil,gV]; kernel_rfl) (by kernel_rfl) (by kernel_rfl) rfl rfl rfl (zk 2 (ze [1,2,3,6,10,11,12] (aJ (zv [(0,0),(1,1),(2,2),(37,3)] [1,3,6,10,11,12,2] 4) (bF (hj20 _ _ _ h))))))
 exact aD (vK [[],[0],[1,0],[2,1,0],[],[3,4,2,1,0],[5,3,4,2,1,0],[6,5,3,4,2,1,0],[6,5,3,4,2,1,0],[],[9,7,5,0,1,2,3,4,6],[8,10,0,1,2,3,4,5,6,7,9]] fun _ => zk 2 (bK h fun e23 he h => cY (v := .c (M6 e23)) (foot := []) (dU (enc := bN) (sz := 2) (l := v19) (ix := 0) he (by kernel_rfl) (gV e23) (by kernel_rfl)) (by kernel_rfl) rfl rfl (zk 2 (bK h fun y24 he h => zc Zn (Kb n _ _ y24 he) (zk 6 (ze [1,2,3,6,10,12,16,17] (za [1,2,3,6,10,11,12,16] (aV (zy fun _ => zk 1 (rF (e := 190) (sz := 2) (len := 1) (r := [I y24.1.Kind,F5 y24.1.Of]) (l' := List.map bN [y24.1]) (nm := 51) (by kernel_rfl) (by simp only [List.map_cons,List.map_nil,gV]; kernel_rfl) (by kernel_rfl) (by kernel_rfl) rfl rfl rfl (zk 2 (bT (dI (zv [(0,0),(1,1),(2,2),(51,3)] [1,3,6,10,11,12,2] 4) (hj20 _ _ _ h))))))))))))))
 exact aJ (zv [(1,0),(2,1),(3,2)] [2,6,10,11] 3) (bF (hj2 _ _ _ h))
def dT : Nat → aP → Int → Int → Option (bD × Int × Int)
 | 0,_,_,_ => none
 | n + 1,p0,p1,p2 => eH (fun a0 a1 a2 => dT n a0 a1 a2) n p0 p1 p2
theorem Jh (n : Nat) : (∀ (p0 : aP) (p1 : Int) (p2 : Int) (r : (P4)),dT n p0 p1 p2 = some r → dC E 143 0 [C0 p0,C7 p1,C7 p2] [] (.tup [D3 r.1,C7 r.2.1,C7 r.2.2]) []) := by
 induction n with
 | zero => intro p0 p1 p2 r h; rw [dT] at h; cases h
 | succ n ih => intro p0 p1 p2 r h; rw [dT] at h; exact yU _ ih n _ _ _ r h
def lP (n : Nat) (p0 : aP) : Option (bD × Int) := (dT n p0 1 0).bind fun y1 => some (y1.1,y1.2.2)
theorem Ez (n : Nat) (p0 : aP) (r : (bD × Int)) (h : lP n p0 = some r) : dC E 135 0 [C0 p0] [] (.tup [D3 r.1,C7 r.2]) [] := by
 refine eO Tryz.func135 rfl ?_
 unfold lP at h
 refine za [1,2] (zx fun _ => zk 1 (bK h fun y1 he h => zc fok143 (Jh n _ _ _ y1 he) (zk 8 (ze [2,4,6] (za [2,3] ?_)))))
 cases h
 exact aG zr
def jU (n : Nat) (p0 : aP) : Option Int := (lP n p0).bind fun y1 => some y1.2
theorem xK (n : Nat) (p0 : aP) (r : Int) (h : jU n p0 = some r) : dC E 124 0 [C0 p0] [] (C7 r) [] := by
 refine eO Tryz.func124 rfl ?_
 unfold jU at h
 refine za [1] (zx fun _ => zk 1 (bK h fun y1 he h => zc fok135 (Ez n _ y1 he) (zk 6 (ze [4] (za [2] ?_)))))
 cases h
 exact aG zr
def dD (p0 : aN) (self_ref14_validate : aN → Int → Int → Option (Int × Int)) (p1 : Int) (j63 : Int → Option (Int × Int)) : Nat → Int → Int → Option (Int × Int)
 | 0,_,_ => none
 | n + 1,v66,v67 => (if (decide (v67 < (List.length p0.Kids : Int))) = true then (idx p0.Kids v67).bind fun e68 => (self_ref14_validate e68 (w6 (p1 + 1)) v66).bind fun y69 => (if (y69.2 != 0) = true then some (y69.1,y69.2) else dD p0 self_ref14_validate p1 j63 n y69.1 (w6 (v67 + 1))) else j63 v66)
def dG (v52 : Int) (p0 : aN) (p2 : Int) (j53 : Unit → Option (Int × Int)) (p1 : Int) : Nat → Int → Option (Int × Int)
 | 0,_ => none
 | n + 1,v57 => (if (decide (v57 < v52)) = true then (idx p0.Kids v52).bind fun e58 => (gd [(!(bP e58.Key nB))] (idx p0.Kids v52)).bind fun e59 => (gd [(!(bP e58.Key nB))] (idx p0.Kids v57)).bind fun e60 => (if ((!(bP e58.Key nB)) && (bP e59.Key e60.Key)) = true then some ((w6 (p2 + 1)),6) else dG v52 p0 p2 j53 p1 n (w6 (v57 + 1))) else j53 ())
def dE (p0 : aN) (p2 : Int) (p1 : Int) (j42 : Unit → Option (Int × Int)) : Nat → Int → Option (Int × Int)
 | 0,_ => none
 | n + 1,v52 => (if (decide (v52 < (List.length p0.Kids : Int))) = true then (aS (fun (_ : Unit) => dE p0 p2 p1 j42 n (w6 (v52 + 1))) (fun (j53 : Unit → Option (Int × Int)) => dG v52 p0 p2 j53 p1 n 0)) else j42 ())
def fS (e31 : cS) (p2 : Int) (j30 : Unit → Option (Int × Int)) (p1 : Int) (v29 : Int) (p0 : aN) : Nat → Int → Option (Int × Int)
 | 0,_ => none
 | n + 1,v37 => (if (decide (v37 < (List.length e31.Args : Int))) = true then (idx e31.Args v37).bind fun e38 => (jU n e38).bind fun y39 => (if (y39 != 0) = true then some ((w6 (p2 + 1)),y39) else fS e31 p2 j30 p1 v29 p0 n (w6 (v37 + 1))) else j30 ())
def dN (p0 : aN) (p2 : Int) (p1 : Int) (j17 : Unit → Option (Int × Int)) : Nat → Int → Option (Int × Int)
 | 0,_ => none
 | n + 1,v29 => (if (decide (v29 < (List.length p0.Actions : Int))) = true then (aS (fun (_ : Unit) => dN p0 p2 p1 j17 n (w6 (v29 + 1))) (fun (j30 : Unit → Option (Int × Int)) => (idx p0.Actions v29).bind fun e31 => (eD n e31.Event).bind fun y32 => (gd [(!(!y32))] (eD n e31.Handler)).bind fun y33 => (if ((!y32) || (!y33)) = true then some ((w6 (p2 + 1)),4) else (gd [(decide (v29 > 0))] (idx p0.Actions (w6 (v29 - 1)))).bind fun e34 => (if ((decide (v29 > 0)) && (Rx e31.Event e34.Event)) = true then some ((w6 (p2 + 1)),10) else (if ((decide ((ByteArray.size e31.Instance : Int) > 400)) || (decide ((List.length e31.Args : Int) > 100))) = true then some ((w6 (p2 + 1)),2) else fS e31 p2 j30 p1 v29 p0 n 0))))) else j17 ())
def gD (p0 : aN) (p2 : Int) (j2 : Unit → Option (Int × Int)) (p1 : Int) : Nat → Int → Option (Int × Int)
 | 0,_ => none
 | n + 1,v9 => (if (decide (v9 < (List.length p0.Attrs : Int))) = true then (idx p0.Attrs v9).bind fun e10 => (eD n e10.Name).bind fun y11 => (if (!y11) = true then some ((w6 (p2 + 1)),4) else (gd [(decide (v9 > 0))] (idx p0.Attrs v9)).bind fun e12 => (gd [(decide (v9 > 0))] (idx p0.Attrs (w6 (v9 - 1)))).bind fun e13 => (if ((decide (v9 > 0)) && (Rx e12.Name e13.Name)) = true then some ((w6 (p2 + 1)),10) else (idx p0.Attrs v9).bind fun e14 => (jU n e14.Value).bind fun y15 => (if (y15 != 0) = true then some ((w6 (p2 + 1)),y15) else gD p0 p2 j2 p1 n (w6 (v9 + 1))))) else j2 ())
def iU (self_ref14_validate : aN → Int → Int → Option (Int × Int)) (n : Nat) (p0 : aN) (p1 : Int) (p2 : Int) : Option (Int × Int) := (if (decide (p1 > 16)) = true then some ((w6 (p2 + 1)),8) else (if (decide ((w6 (p2 + 1)) > 400)) = true then some ((w6 (p2 + 1)),2) else (if ((decide (p0.Kind < 1)) || (decide (p0.Kind > 13))) = true then some ((w6 (p2 + 1)),9) else (yR n p0.Key).bind fun y1 => (if (!y1) = true then some ((w6 (p2 + 1)),4) else (if (((decide ((List.length p0.Attrs : Int) > 24)) || (decide ((List.length p0.Actions : Int) > 24))) || (decide ((List.length p0.Kids : Int) > 100))) = true then some ((w6 (p2 + 1)),2) else (aS (fun (_ : Unit) => (aS (fun (_ : Unit) => (aS (fun (_ : Unit) => (aS (fun (v72 : Int) => some (v72,0)) (fun (j63 : Int → Option (Int × Int)) => dD p0 self_ref14_validate p1 j63 n (w6 (p2 + 1)) 0))) (fun (j42 : Unit → Option (Int × Int)) => dE p0 p2 p1 j42 n 0))) (fun (j17 : Unit → Option (Int × Int)) => dN p0 p2 p1 j17 n 0))) (fun (j2 : Unit → Option (Int × Int)) => gD p0 p2 j2 p1 n 0)))))))
theorem wA (self_ref14_validate : aN → Int → Int → Option (O3)) (ih_ref14_validate : ∀ (p0 : aN) (p1 : Int) (p2 : Int) (r : (O3)),self_ref14_validate p0 p1 p2 = some r → dC E 98 0 [A9 p0,C7 p1,C7 p2] [] (.tup [C7 r.1,C7 r.2]) []) (n : Nat) (p0 : aN) (p1 : Int) (p2 : Int) (r : (O3)) (h : iU self_ref14_validate n p0 p1 p2 = some r) : dC E 98 0 [A9 p0,C7 p1,C7 p2] [] (.tup [C7 r.1,C7 r.2]) [] := by
 refine eO Tryz.func98 rfl ?_
 unfold iU at h
 refine za [1,2,3] (za [1,2,3] (aM (za [1,2,3,22] (zi h (fun h => ?_) fun h => ?_))))
 refine za [6,7] ?_
 cases h
 exact aG zr
 refine aD (aM (za [1,2,3,25] (zi h (fun h => ?_) fun h => ?_)))
 refine za [6,7] ?_
 cases h
 exact aG zr
 refine aD (aM (zx fun _ => zk 4 (zq (zq (zq (zp (ze [1,2,3,34] (zi h (fun h => ?_) fun h => ?_))))))))
 refine za [6,7] ?_
 cases h
 exact aG zr
 refine aD (aM (zx fun _ => zk 2 (bK h fun y1 he h => zc fok123 (Nw n _ y1 he) (zk 1 (kS [1,2,3,39] (L2 := [A7 1 p1,A7 2 (w6 (p2 + 1)),I8,B4 39 (!y1)]) (G2 := [N9 0 p0]) 22 (zi h (fun h => ?_) fun h => ?_))))))
 refine za [6,7] ?_
 cases h
 exact aG zr
 refine aD (aM (zx fun _ => zk 2 (zl aF p0.Attrs (zk 2 (zq (zq (kX (e := [(!(decide ((List.length p0.Attrs : Int) > 24)))]) [(47,.c (C6 p0.Actions),some 1)] (v := .c (I (List.length p0.Actions : Int))) (foot := []) (by kernel_rfl) (by kernel_rfl) (by kernel_rfl) (fun hg => mO (enc := aC) (l := p0.Actions) (by kernel_rfl)) rfl rfl (zq (zp (zk 1 (zq (zq (kX (e := [(!((decide ((List.length p0.Attrs : Int) > 24)) || (decide ((List.length p0.Actions : Int) > 24))))]) [(53,.c (E6 p0.Kids),some 1)] (v := .c (I (List.length p0.Kids : Int))) (foot := []) (by kernel_rfl) (by kernel_rfl) (by kernel_rfl) (fun hg => mO (enc := aQ) (l := p0.Kids) (by kernel_rfl)) rfl rfl (zq (zp (kS [1,2,3,56] (L2 := [A7 1 p1,A7 2 (w6 (p2 + 1)),I8,(56,.c (Bo (((decide ((List.length p0.Attrs : Int) > 24)) || (decide ((List.length p0.Actions : Int) > 24))) || (decide ((List.length p0.Kids : Int) > 100)))))]) (G2 := [N9 0 p0]) 38 (zi h (fun h => ?_) fun h => ?_)))))))))))))))))
 refine za [6,7] ?_
 cases h
 exact aG zr
 refine aD (aR h (fun A j => ∀ u,j u = some r → A (mk [A7 1 p1,A7 2 (w6 (p2 + 1)),I8] [N9 0 p0] 1)) (fun u h => ?_) (fun j2 Aj2 hj2 h => ?_))
 refine aR h (fun A j => ∀ u,j u = some r → A (mk [A7 1 p1,A7 2 (w6 (p2 + 1)),I8] [N9 0 p0] 1)) (fun u h => ?_) (fun j17 Aj17 hj17 h => ?_)
 refine aR h (fun A j => ∀ u,j u = some r → A (mk [A7 1 p1,A7 2 (w6 (p2 + 1)),I8] [N9 0 p0] 1)) (fun u h => ?_) (fun j42 Aj42 hj42 h => ?_)
 refine aR h (fun A j => ∀ v72,j v72 = some r → A (mk [A7 2 v72] [] 0)) (fun v72 h => ?_) (fun j63 Aj63 hj63 h => ?_)
 refine za [6,7] ?_
 cases h
 exact aG zr
 refine za [1,2,3,16] (aI (bB (fun n s => ∃ v66 v67,dD p0 self_ref14_validate p1 j63 n v66 v67 = some r ∧ s = mk [A7 1 p1,A7 2 v66,I8,A7 16 v67] [N9 0 p0] 1) n _ zI ⟨_,_,h,rfl⟩ (fun s ⟨v66,v67,h,_⟩ => nomatch h) ?_))
 rintro n s ⟨v66,v67,h,rfl⟩
 rw [dD] at h
 refine aM (zx fun _ => zk 3 (zl aQ p0.Kids (zk 1 (ze [1,2,3,16,209] (zi h (fun h => ?_) fun h => ?_)))))
 refine aD (aM (aI (zx fun _ => zk 3 (bK h fun e68 he h => cY (v := .c (F6 e68)) (foot := []) (dU (enc := aQ) (sz := 5) (l := p0.Kids) (ix := v67) he (by kernel_rfl) (cB e68) (by kernel_rfl)) (by kernel_rfl) rfl rfl (zk 4 (bK h fun y69 he h => zc fok98 (ih_ref14_validate _ _ _ y69 he) (zk 5 (ze [1,3,16,17,18] (za [1,2,3,16,18] (za [1,2,3,16,18,226] (zi h (fun h => ?_) fun h => ?_)))))))))))
 refine za [6,7] ?_
 cases h
 exact aG zr
 exact aD (aV (zb (dI zI (⟨_,_,h,rfl⟩))))
 exact aJ zI (bF (hj63 _ h))
 refine za [1,2,3,14] (aI (bB (fun n s => ∃ v52,dE p0 p2 p1 j42 n v52 = some r ∧ s = mk [A7 1 p1,A7 2 (w6 (p2 + 1)),I8,A7 14 v52] [N9 0 p0] 1) n _ zI ⟨_,h,rfl⟩ (fun s ⟨v52,h,_⟩ => nomatch h) ?_))
 rintro n s ⟨v52,h,rfl⟩
 rw [dE] at h
 refine aM (zx fun _ => zk 3 (zl aQ p0.Kids (zk 1 (ze [1,2,3,14,174] (zi h (fun h => ?_) fun h => ?_)))))
 refine aD (aR h (fun A j => ∀ u,j u = some r → A (mk [A7 1 p1,A7 2 (w6 (p2 + 1)),I8,A7 14 v52] [N9 0 p0] 1)) (fun u h => ?_) (fun j53 Aj53 hj53 h => ?_))
 exact aV (zb (dI zI (⟨_,h,rfl⟩)))
 refine aI (za [1,2,3,14,15] (aI (bB (fun n s => ∃ v57,dG v52 p0 p2 j53 p1 n v57 = some r ∧ s = mk [A7 1 p1,A7 2 (w6 (p2 + 1)),I8,A7 14 v52,A7 15 v57] [N9 0 p0] 1) n _ zI ⟨_,h,rfl⟩ (fun s ⟨v57,h,_⟩ => nomatch h) ?_)))
 rintro n s ⟨v57,h,rfl⟩
 rw [dG] at h
 refine aM (za [1,2,3,14,15,179] (zi h (fun h => ?_) fun h => ?_))
 refine aD (aM (aI (vK [[],[0],[],[1,2,0],[3,1,2,0],[4,3,1,2,0],[5,4,3,1,2,0],[6,5,4,3,1,2,0],[7,6,5,4,3,1,2,0],[8,7,6,5,4,3,1,2,0],[7,6,5,4,3,1,2,0],[9,10,7,8,6,5,4,3,1,2,0],[11,7,9,10,8,6,5,4,3,1,2,0],[12,7,11,9,10,8,6,5,4,3,1,2,0],[7,6,5,4,3,1,2,0],[14,7,6,5,4,3,1,2,0],[7,6,5,4,3,1,2,0],[15,16,7,14,6,5,4,3,1,2,0],[17,7,15,16,14,6,5,4,3,1,2,0],[18,7,17,15,16,14,6,5,4,3,1,2,0],[13,19,7,12,11,9,10,8,6,5,4,3,1,2,0,18,17,15,16,14],[7,20,6,5,4,3,1,2,0,13,19,12,11,9,10,8,18,17,15,16,14]] fun _ => zk 3 (bK h fun e58 he h => cY (v := .c (F6 e58)) (foot := []) (dU (enc := aQ) (sz := 5) (l := p0.Kids) (ix := v52) he (by kernel_rfl) (cB e58) (by kernel_rfl)) (by kernel_rfl) rfl rfl (zk 4 (zq (zq (zq (bK h fun e59 he h => kX (e := [!(G9 e58.Key)]) [(191,.c (E6 p0.Kids),some 1),(192,C7 v52,some 1)] (v := .c (F6 e59)) (foot := []) (by kernel_rfl) (by kernel_rfl) (by kernel_rfl) (fun hg => dU (enc := aQ) (sz := 5) (l := p0.Kids) (ix := v52) (bQ he hg) (by kernel_rfl) (cB e59) (by kernel_rfl)) rfl rfl (zq (zq (zq (zq (zq (bK h fun e60 he h => kX (e := [!(G9 e58.Key)]) [(197,.c (E6 p0.Kids),some 1),(198,C7 v57,some 1)] (v := .c (F6 e60)) (foot := []) (by kernel_rfl) (by kernel_rfl) (by kernel_rfl) (fun hg => dU (enc := aQ) (sz := 5) (l := p0.Kids) (ix := v57) (bQ he hg) (by kernel_rfl) (cB e60) (by kernel_rfl)) rfl rfl (zq (zq (zq (zp (kS [1,2,3,14,15,203] (L2 := [A7 1 p1,A7 2 (w6 (p2 + 1)),I8,A7 14 v52,A7 15 v57,B4 203 ((!(G9 e58.Key)) && (bP e59.Key e60.Key))]) (G2 := [N9 0 p0]) 26 (zi h (fun h => ?_) fun h => ?_)))))))))))))))))))))
 refine za [6,7] ?_
 cases h
 exact aG zr
 exact aD (aV (zb (dI zI (⟨_,h,rfl⟩))))
 exact aJ zI (bF (hj53 _ h))
 exact aJ zI (bF (hj42 _ h))
 refine za [1,2,3,10] (aI (bB (fun n s => ∃ v29,dN p0 p2 p1 j17 n v29 = some r ∧ s = mk [A7 1 p1,A7 2 (w6 (p2 + 1)),I8,A7 10 v29] [N9 0 p0] 1) n _ zI ⟨_,h,rfl⟩ (fun s ⟨v29,h,_⟩ => nomatch h) ?_))
 rintro n s ⟨v29,h,rfl⟩
 rw [dN] at h
 refine aM (zx fun _ => zk 3 (zl aC p0.Actions (zk 1 (ze [1,2,3,10,108] (zi h (fun h => ?_) fun h => ?_)))))
 refine aD (aR h (fun A j => ∀ u,j u = some r → A (mk [A7 1 p1,A7 2 (w6 (p2 + 1)),I8,A7 10 v29] [N9 0 p0] 1)) (fun u h => ?_) (fun j30 Aj30 hj30 h => ?_))
 exact aV (zb (dI zI (⟨_,h,rfl⟩)))
 refine aI (zx fun _ => zk 3 (bK h fun e31 he h => zd aC he (zk 3 (ze [1,2,3,10,11] (aM (zx fun _ => zk 2 (bK h fun y32 he h => zc zN (kP n _ y32 he) (zk 2 (zq (zq (bK h fun y33 he h => yW [!(!y32)] zN (fun hg => kP n _ y33 (bQ he hg)) (zq (zp (kS [1,2,3,10,11,125] (L2 := [A7 1 p1,A7 2 (w6 (p2 + 1)),I8,A7 10 v29,A1 11 11 0,B4 125 ((!y32) || (!y33))]) (G2 := [N9 0 p0,(11,H3 e31)]) 23 (zi h (fun h => ?_) fun h => ?_)))))))))))))))
 refine za [6,7] ?_
 cases h
 exact aG zr
 refine aD (aM (vK [[],[0],[1,0],[2,1,0],[3,2,1,0],[2,1,0],[5,2,1,0],[2,1,0],[7,2,1,0],[6,8,2,5,1,0,7],[9,2,6,8,5,1,0,7],[10,2,9,6,8,5,1,0,7],[4,11,2,3,1,0,10,9,6,8,5,7],[2,12,1,0,4,11,3,10,9,6,8,5,7]] fun _ => zk 3 (zq (zq (zq (zq (zq (zq (bK h fun e34 he h => kX (e := [F2 v29 0]) [(133,.c (C6 p0.Actions),some 1),(135,C7 (w6 (v29 - 1)),some 1)] (v := .c (.imm [Sx e34.Event,Sx e34.Instance,Sx e34.Handler,D8 e34.Args])) (foot := []) (by kernel_rfl) (by kernel_rfl) (by kernel_rfl) (fun hg => dU (enc := aC) (sz := 4) (l := p0.Actions) (ix := (w6 (v29 - 1))) (bQ he hg) (by kernel_rfl) (by kernel_rfl) (by kernel_rfl)) rfl rfl (zq (zq (zq (zp (kS [1,2,3,10,11,140] (L2 := [A7 1 p1,A7 2 (w6 (p2 + 1)),I8,A7 10 v29,A1 11 11 0,B4 140 ((F2 v29 0) && (Rx e31.Event e34.Event))]) (G2 := [N9 0 p0,(11,H3 e31)]) 37 (zi h (fun h => ?_) fun h => ?_)))))))))))))))
 refine za [6,7] ?_
 cases h
 exact aG zr
 refine aD (aM (zx fun _ => zk 5 (zq (zq (kX (e := [(!(decide ((ByteArray.size e31.Instance : Int) > 400)))]) [(148,O7 e31.Args,some 1)] (v := .c (I (List.length e31.Args : Int))) (foot := []) (by kernel_rfl) (by kernel_rfl) (by kernel_rfl) (fun hg => mO (enc := aT) (l := e31.Args) (by kernel_rfl)) rfl rfl (zq (zp (ze [1,2,3,10,11,151] (zi h (fun h => ?_) fun h => ?_)))))))))
 refine za [6,7] ?_
 cases h
 exact aG zr
 refine aD (za [1,2,3,10,11,12] (aI (bB (fun n s => ∃ v37,fS e31 p2 j30 p1 v29 p0 n v37 = some r ∧ s = mk [A7 1 p1,A7 2 (w6 (p2 + 1)),I8,A7 10 v29,A1 11 1 0,A7 12 v37] [N9 0 p0,(1,H3 e31)] 2) n _ (zv [(0,0),(11,1)] [1,2,3,10,11,12] 2) ⟨_,h,rfl⟩ (fun s ⟨v37,h,_⟩ => nomatch h) ?_)))
 rintro n s ⟨v37,h,rfl⟩
 rw [fS] at h
 refine aM (zx fun _ => zk 3 (zl aT e31.Args (zk 1 (ze [1,2,3,10,11,12,157] (zi h (fun h => ?_) fun h => ?_)))))
 refine aD (aM (aI (zx fun _ => zk 3 (bK h fun e38 he h => cY (v := .c (K1 e38)) (foot := []) (dU (enc := aT) (sz := 4) (l := e31.Args) (ix := v37) he (by kernel_rfl) (eE e38) (by kernel_rfl)) (by kernel_rfl) rfl rfl (zk 1 (bK h fun y39 he h => zc fok124 (xK n _ y39 he) (zk 1 (ze [1,2,3,10,11,12,13] (za [1,2,3,10,11,12,13,167] (zi h (fun h => ?_) fun h => ?_))))))))))
 refine za [6,7] ?_
 cases h
 exact aG zr
 exact aD (aV (zb (dI zI (⟨_,h,rfl⟩))))
 exact aJ zI (bF (hj30 _ h))
 exact aJ zI (bF (hj17 _ h))
 refine za [1,2,3,8] (aI (bB (fun n s => ∃ v9,gD p0 p2 j2 p1 n v9 = some r ∧ s = mk [A7 1 p1,A7 2 (w6 (p2 + 1)),I8,A7 8 v9] [N9 0 p0] 1) n _ zI ⟨_,h,rfl⟩ (fun s ⟨v9,h,_⟩ => nomatch h) ?_))
 rintro n s ⟨v9,h,rfl⟩
 rw [gD] at h
 refine aM (zx fun _ => zk 3 (zl aF p0.Attrs (zk 1 (ze [1,2,3,8,62] (zi h (fun h => ?_) fun h => ?_)))))
 refine aD (aM (aI (aM (zx fun _ => zk 3 (bK h fun e10 he h => zd aF he (zk 2 (bK h fun y11 he h => zc zN (kP n _ y11 he) (zk 1 (ze [1,2,3,8,72] (zi h (fun h => ?_) fun h => ?_))))))))))
 refine za [6,7] ?_
 cases h
 exact aG zr
 refine aD (aM (vK [[],[0],[1,0],[2,1,0],[3,2,1,0],[2,1,0],[4,5,2,3,1,0],[6,2,4,5,3,1,0],[7,2,6,4,5,3,1,0],[2,1,0],[9,2,1,0],[2,1,0],[11,2,1,0],[10,12,2,9,1,0,11],[13,2,10,12,9,1,0,11],[14,2,13,10,12,9,1,0,11],[8,15,2,7,6,4,5,3,1,0,14,13,10,12,9,11],[2,16,1,0,8,15,7,6,4,5,3,14,13,10,12,9,11]] fun _ => zk 3 (zq (zq (zq (bK h fun e12 he h => kX (e := [F2 v9 0]) [(78,R5 p0.Attrs,some 1),(79,C7 v9,some 1)] (v := .c (N3 e12.Name e12.Value)) (foot := []) (by kernel_rfl) (by kernel_rfl) (by kernel_rfl) (fun hg => dU (enc := aF) (sz := 5) (l := p0.Attrs) (ix := v9) (bQ he hg) (by kernel_rfl) (by kernel_rfl) (by kernel_rfl)) rfl rfl (zq (zq (zq (zq (zq (zq (bK h fun e13 he h => kX (e := [F2 v9 0]) [(84,R5 p0.Attrs,some 1),(86,C7 (w6 (v9 - 1)),some 1)] (v := .c (N3 e13.Name e13.Value)) (foot := []) (by kernel_rfl) (by kernel_rfl) (by kernel_rfl) (fun hg => dU (enc := aF) (sz := 5) (l := p0.Attrs) (ix := (w6 (v9 - 1))) (bQ he hg) (by kernel_rfl) (by kernel_rfl) (by kernel_rfl)) rfl rfl (zq (zq (zq (zp (kS [1,2,3,8,91] (L2 := [A7 1 p1,A7 2 (w6 (p2 + 1)),I8,A7 8 v9,B4 91 ((F2 v9 0) && (Rx e12.Name e13.Name))]) (G2 := [N9 0 p0]) 32 (zi h (fun h => ?_) fun h => ?_)))))))))))))))))))
 refine za [6,7] ?_
 cases h
 exact aG zr
 refine aD (zx fun _ => zk 3 (bK h fun e14 he h => zd aF he (zk 2 (bK h fun y15 he h => zc fok124 (xK n _ y15 he) (zk 1 (ze [1,2,3,8,9] (za [1,2,3,8,9,101] (zi h (fun h => ?_) fun h => ?_))))))))
 refine za [6,7] ?_
 cases h
 exact aG zr
 exact aD (aV (zb (dI zI (⟨_,h,rfl⟩))))
 exact aJ zI (bF (hj2 _ h))
def dH : Nat → aN → Int → Int → Option (Int × Int)
 | 0,_,_,_ => none
 | n + 1,p0,p1,p2 => iU (fun a0 a1 a2 => dH n a0 a1 a2) n p0 p1 p2
theorem Cj (n : Nat) : (∀ (p0 : aN) (p1 : Int) (p2 : Int) (r : (O3)),dH n p0 p1 p2 = some r → dC E 98 0 [A9 p0,C7 p1,C7 p2] [] (.tup [C7 r.1,C7 r.2]) []) := by
 induction n with
 | zero => intro p0 p1 p2 r h; rw [dH] at h; cases h
 | succ n ih => intro p0 p1 p2 r h; rw [dH] at h; exact wA _ ih n _ _ _ r h
def eY (n : Nat) (p0 : aN) : Option Int := (dH n p0 1 0).bind fun y1 => some y1.2
theorem mE (n : Nat) (p0 : aN) (r : Int) (h : eY n p0 = some r) : dC E 59 0 [A9 p0] [] (C7 r) [] := by
 refine eO Tryz.func59 rfl ?_
 unfold eY at h
 refine za [1] (zx fun _ => zk 1 (bK h fun y1 he h => zc fok98 (Cj n _ _ _ y1 he) (zk 5 (ze [4] (za [2] ?_)))))
 cases h
 exact aG zr
def yF (n : Nat) (p0 : aW) (p1 : Int) : Option (aN × aW) := (pR n p0 p1).bind fun y1 => (eY n y1.1).bind fun y2 => (if (y2 != 0) = true then some ((aN.mk 1 nB ([] : List bJ) ([] : List cS) ([] : List aN)),y1.2) else some (y1.1,y1.2))
theorem Qk (n : Nat) (p0 : aW) (p1 : Int) (r : (aN × aW)) (h : yF n p0 p1 = some r) : dC E 27 1 (Q6 p1) [D9 p0] (A9 r.1) [D9 r.2] := by
 refine eO Tryz.func27 rfl ?_
 unfold yF at h
 refine za [0,1,4] (zx fun _ => zk 2 (bK h fun y1 he h => zo [(0,0)] fok58 (Ej n _ _ y1 he) (zk 2 (ze [4,5] (aM (zx fun _ => zk 1 (bK h fun y2 he h => zc Wg (mE n _ y2 he) (zk 1 (ze [4,5,11] (zi h (fun h => ?_) fun h => ?_))))))))))
 refine za [4] ?_
 cases h
 exact aG zr
 refine aD (za [4] ?_)
 cases h
 exact aG zr
end Go.Proofs.YtojkihhnioeggaaGreatDoor.S
