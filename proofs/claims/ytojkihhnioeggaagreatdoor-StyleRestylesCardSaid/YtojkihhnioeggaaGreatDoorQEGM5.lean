import Derived.Test.YtojkihhnioeggaaGreatDoorQEGM4
set_option linter.all false
set_option maxRecDepth 100000
set_option maxHeartbeats 4000000
namespace Go.Proofs.YtojkihhnioeggaaGreatDoor.S
open Go Go.Bm
def tI (p0 : ByteArray) (j1 : Unit → Option Bool) : Nat → Int → Option Bool
 | 0,_ => none
 | n + 1,v3 => (if (decide (v3 < (ByteArray.size p0 : Int))) = true then (Ae p0 v3).bind fun u4 => (if ((((((decide (u4 < 97)) || (decide (u4 > 122))) && ((decide (u4 < 65)) || (decide (u4 > 90)))) && ((decide (u4 < 48)) || (decide (u4 > 57)))) && (u4 != 45)) && (u4 != 95)) = true then some false else tI p0 j1 n (w6 (v3 + 1))) else j1 ())
def Bb (n : Nat) (p0 : ByteArray) : Option Bool := (aS (fun (_ : Unit) => some (decide ((ByteArray.size p0 : Int) ≤ 24))) (fun (j1 : Unit → Option Bool) => tI p0 j1 n 0))
theorem Rc (n : Nat) (p0 : ByteArray) (r : Bool) (h : Bb n p0 = some r) : dC E 130 0 [G0 p0] [] (D7 r) [] := by
 refine eO Tryz.func130 rfl ?_
 unfold Bb at h
 refine za [0] (aR h (fun A j => ∀ u,j u = some r → A (mk [(0,G0 p0)] [] 0)) (fun u h => ?_) (fun j1 Aj1 hj1 h => ?_))
 refine za [2] ?_
 cases h
 exact aG zr
 refine za [0,6,7] (aI (bB (fun n s => ∃ v3,tI p0 j1 n v3 = some r ∧ s = mk [(0,G0 p0),(6,.c (I (ByteArray.size p0 : Int))),A7 7 v3] [] 0) n _ zI ⟨_,h,rfl⟩ (fun s ⟨v3,h,_⟩ => nomatch h) ?_))
 rintro n s ⟨v3,h,rfl⟩
 rw [tI] at h
 refine za [0,6,7,8] (aM (zi h (fun h => ?_) fun h => ?_))
 refine aD (aM (aI (za [0,3,6,7] (zx fun _ => zk 2 (bK h fun u4 he h => zs he (zk 1 (ze [0,4,6,7] (zx fun _ => zk 3 (zq (zq (zp (zk 1 (zq (zq (zF [H7 u4] (D7 (D4 u4 65)) (zq (zq (zp (zp (zk 1 (zq (zq (zF [(H7 u4) && (L8 u4)] (D7 (Q2 u4)) (zq (zq (zp (zp (Ry 1 (L' := [(0,G0 p0),(6,.c (I (ByteArray.size p0 : Int))),A7 7 v3,(4,P0 u4),(13,P0 u4),B4 14 (D4 u4 97),B4 15 (D4 u4 97),(16,.cnd [!(D4 u4 97)] (P0 u4)),(17,.cnd [!(D4 u4 97)] (D7 (F2 u4 122))),B4 18 (H7 u4),B4 19 (H7 u4),(20,.cnd [H7 u4] (P0 u4)),(21,.cnd [H7 u4] (D7 (D4 u4 65))),(22,.cnd [H7 u4] (D7 (D4 u4 65))),(23,.cnd [H7 u4,!(D4 u4 65)] (P0 u4)),(24,.cnd [H7 u4,!(D4 u4 65)] (D7 (F2 u4 90))),(25,.cnd [H7 u4] (D7 (L8 u4))),B4 26 ((H7 u4) && (L8 u4)),B4 27 ((H7 u4) && (L8 u4)),(28,.cnd [(H7 u4) && (L8 u4)] (P0 u4)),(29,.cnd [(H7 u4) && (L8 u4)] (D7 (Q2 u4))),(30,.cnd [(H7 u4) && (L8 u4)] (D7 (Q2 u4))),(31,.cnd [(H7 u4) && (L8 u4),!(Q2 u4)] (P0 u4)),(32,.cnd [(H7 u4) && (L8 u4),!(Q2 u4)] (D7 (F2 u4 57))),(33,.cnd [(H7 u4) && (L8 u4)] (D7 (B0 u4 48 57))),B4 34 (((H7 u4) && (L8 u4)) && (B0 u4 48 57)),B4 35 (((H7 u4) && (L8 u4)) && (B0 u4 48 57))]) (G' := []) (X' := []) ?_))))))))))))))))))))))))))))
 refine zq (zq (zp (zk 1 (zq (zq (zP (.bool (((((H7 u4) && (L8 u4)) && (B0 u4 48 57)) && (u4 != 45)) && (u4 != 95))) (ze [0,6,7,42] (zi h (fun h => ?_) fun h => ?_))))))))
 refine za [2] ?_
 cases h
 exact aG zr
 exact aD (aV (zb (dI zI (⟨_,h,rfl⟩))))
 exact aJ zI (bF (hj1 _ h))
def jV (n : Nat) (p0 : aP) : Option Bool := (aS (fun (v2 : Bool) => (if v2 = true then some ((bP p0.S nB) && ((List.length p0.L : Int) == 0)) else (if (p0.Kind == 3) = true then some ((p0.N == 0) && ((List.length p0.L : Int) == 0)) else (if (p0.Kind == 4) = true then some ((p0.N == 0) && (bP p0.S nB)) else some false)))) (fun (j1 : Bool → Option Bool) => (if (p0.Kind == 1) = true then j1 (p0.Kind == 1) else j1 (p0.Kind == 2))))
theorem Ie (n : Nat) (p0 : aP) (r : Bool) (h : jV n p0 = some r) : dC E 149 0 [C0 p0] [] (D7 r) [] := by
 refine eO Tryz.func149 rfl ?_
 unfold jV at h
 refine za [1] (aM (za [1,4] (aI (aR h (fun A j => ∀ v2,j v2 = some r → A (mk [H9,A7 4 p0.Kind,B4 5 v2] [(0,E7 p0)] 1)) (fun v2 h => ?_) (fun j1 Aj1 hj1 h => ?_)))))
 refine zi h (fun h => ?_) fun h => ?_
 refine zx fun _ => zk 4 (zq (zq (kX (e := [G9 p0.S]) [(13,O7 p0.L,some 1)] (v := .c (I (List.length p0.L : Int))) (foot := []) (by kernel_rfl) (by kernel_rfl) (by kernel_rfl) (fun hg => mO (enc := aT) (l := p0.L) (by kernel_rfl)) rfl rfl (zq (zp (zk 1 (ze [2] ?_)))))))
 cases h
 exact aG zr
 refine za [1,4,17] (zi h (fun h => ?_) fun h => ?_)
 refine zx fun _ => zk 4 (zq (zq (kX (e := [p0.N == 0]) [(24,O7 p0.L,some 1)] (v := .c (I (List.length p0.L : Int))) (foot := []) (by kernel_rfl) (by kernel_rfl) (by kernel_rfl) (fun hg => mO (enc := aT) (l := p0.L) (by kernel_rfl)) rfl rfl (zq (zp (zk 1 (ze [2] ?_)))))))
 cases h
 exact aG zr
 refine za [1,28] (zi h (fun h => ?_) fun h => ?_)
 refine zx fun _ => zk 4 (zq (zq (zq (zp (zk 1 (ze [2] ?_))))))
 cases h
 exact aG zr
 refine aD (za [2] ?_)
 cases h
 exact aG zr
 refine za [1,4,5] (zi h (fun h => ?_) fun h => ?_)
 exact aJ zI (aD (hj1 _ h))
 exact aV (zb (dI zI (hj1 _ h)))
def jR (n : Nat) (p0 : Int) : Option Bool := some ((decide (p0 ≥ (-1099511627776 : Int))) && (decide (p0 ≤ 1099511627776)))
theorem Gq (n : Nat) (p0 : Int) (r : Bool) (h : jR n p0 = some r) : dC E 150 0 [C7 p0] [] (D7 r) [] := by
 refine eO Tryz.func150 rfl ?_
 unfold jR at h
 refine za [0] (zx fun _ => zk 3 (zq (zq (zp (zk 1 (ze [2] ?_))))))
 cases h
 exact aG zr
def qR (n : Nat) (p0 : bD) : Option bD := some (bD.mk 4 [p0])
theorem sO (n : Nat) (p0 : bD) (r : bD) (h : qR n p0 = some r) : dC E 153 0 [D3 p0] [] (D3 r) [] := by
 refine eO Tryz.func153 rfl ?_
 unfold qR at h
 refine za [1,2] (zx fun _ => zk 1 (rF (e := 190) (sz := 2) (len := 1) (r := [I p0.Kind,F5 p0.Of]) (l' := List.map bN [p0]) (nm := 3) (by kernel_rfl) (by simp only [List.map_cons,List.map_nil,gV]; kernel_rfl) (by kernel_rfl) (by kernel_rfl) rfl rfl rfl (zk 2 (ze [2] ?_))))
 cases h
 exact aG zr
def sY (self_expr_join : bD → bD → Option (bD × Bool)) (n : Nat) (p0 : bD) (p1 : bD) : Option (bD × Bool) := (if (p0.Kind != p1.Kind) = true then some ((bD.mk 0 ([] : List bD)),false) else (if ((List.length p0.Of : Int) == 0) = true then some (p1,true) else (if ((List.length p1.Of : Int) == 0) = true then some (p0,true) else (idx p0.Of 0).bind fun e1 => (idx p1.Of 0).bind fun e2 => (self_expr_join e1 e2).bind fun y3 => (if (!y3.2) = true then some ((bD.mk 0 ([] : List bD)),false) else (qR n y3.1).bind fun y4 => some (y4,true)))))
theorem Ci (self_expr_join : bD → bD → Option (bD × Bool)) (ih_expr_join : ∀ (p0 : bD) (p1 : bD) (r : (bD × Bool)),self_expr_join p0 p1 = some r → dC E 155 0 [D3 p0,D3 p1] [] (.tup [D3 r.1,D7 r.2]) []) (n : Nat) (p0 : bD) (p1 : bD) (r : (bD × Bool)) (h : sY self_expr_join n p0 p1 = some r) : dC E 155 0 [D3 p0,D3 p1] [] (.tup [D3 r.1,D7 r.2]) [] := by
 refine eO Tryz.func155 rfl ?_
 unfold sY at h
 refine za [2,3,4] (aM (aI (za [2,3,4,8] (zi h (fun h => ?_) fun h => ?_))))
 refine za [4,5] ?_
 cases h
 exact aG zr
 refine zx fun _ => zk 2 (zl bN p0.Of (zk 2 (ze [2,3,4,15] (zi h (fun h => ?_) fun h => ?_))))
 refine za [4,5] ?_
 cases h
 exact aG zr
 refine zx fun _ => zk 2 (zl bN p1.Of (zk 2 (ze [2,3,4,21] (zi h (fun h => ?_) fun h => ?_))))
 refine za [4,5] ?_
 cases h
 exact aG zr
 refine aD (vK [[],[0],[1,0],[2,1,0],[],[4],[5,4],[6,5,4],[3,7,2,1,0,6,5,4],[8,3,7,2,1,0,6,5,4],[9,8,3,7,2,1,0,6,5,4],[9,8,3,7,2,1,0,6,5,4],[],[12,10,8,0,1,2,3,4,5,6,7,9],[11,13,0,1,2,3,4,5,6,7,8,9,10,12]] fun _ => zk 2 (bK h fun e1 he h => cY (v := .c (M6 e1)) (foot := []) (dU (enc := bN) (sz := 2) (l := p0.Of) (ix := 0) he (by kernel_rfl) (gV e1) (by kernel_rfl)) (by kernel_rfl) rfl rfl (zk 3 (bK h fun e2 he h => cY (v := .c (M6 e2)) (foot := []) (dU (enc := bN) (sz := 2) (l := p1.Of) (ix := 0) he (by kernel_rfl) (gV e2) (by kernel_rfl)) (by kernel_rfl) rfl rfl (zk 1 (bK h fun y3 he h => zc fok155 (ih_expr_join _ _ y3 he) (zk 6 (kS [4,6,7] (L2 := [A1 4 2 0,A1 6 32 0,B4 7 y3.2]) (G2 := [(0,J1 p0),(1,J1 p1),(2,H1),(32,J1 y3.1)]) 35 (aM (za [4,6,40] (zi h (fun h => ?_) fun h => ?_)))))))))))
 refine za [4,5] ?_
 cases h
 exact aG zr
 refine aD (zx fun _ => zk 1 (bK h fun y4 he h => zc Sl (sO n _ y4 he) (zk 2 (ze [4,5] ?_))))
 cases h
 exact aG zr
def tY : Nat → bD → bD → Option (bD × Bool)
 | 0,_,_ => none
 | n + 1,p0,p1 => sY (fun a0 a1 => tY n a0 a1) n p0 p1
theorem Oq (n : Nat) : (∀ (p0 : bD) (p1 : bD) (r : (bD × Bool)),tY n p0 p1 = some r → dC E 155 0 [D3 p0,D3 p1] [] (.tup [D3 r.1,D7 r.2]) []) := by
 induction n with
 | zero => intro p0 p1 r h; rw [tY] at h; cases h
 | succ n ih => intro p0 p1 r h; rw [tY] at h; exact Ci _ ih n _ _ r h
def pP (l3 : List bD) (j2 : Int → List bD → Option (bD × Bool)) : Nat → Int → Int → List bD → Option (bD × Bool)
 | 0,_,_,_ => none
 | n + 1,v6,v7,v8 => (if (decide (v6 < (List.length l3 : Int))) = true then (idx l3 v6).bind fun e9 => (tY n (bD.mk v7 v8) e9).bind fun y10 => (if (!y10.2) = true then some ((bD.mk 0 ([] : List bD)),false) else pP l3 j2 n (w6 (v6 + 1)) y10.1.Kind y10.1.Of) else j2 v7 v8)
def oQ (n : Nat) (p0 : (List bD)) : Option (bD × Bool) := (if ((List.length p0 : Int) == 0) = true then some ((bD.mk 4 ([] : List bD)),true) else (idx p0 0).bind fun e1 => (aS (fun (v14 : Int) (v15 : List bD) => (qR n (bD.mk v14 v15)).bind fun y16 => some (y16,true)) (fun (j2 : Int → List bD → Option (bD × Bool)) => (Bm.Fd p0 1 (List.length p0 : Int)).bind fun l3 => pP l3 j2 n 0 e1.Kind e1.Of)))
theorem Gn (n : Nat) (p0 : (List bD)) (r : (bD × Bool)) (h : oQ n p0 = some r) : dC E 152 0 [.c (F5 p0)] [] (.tup [D3 r.1,D7 r.2]) [] := by
 refine eO Tryz.func152 rfl ?_
 unfold oQ at h
 refine za [0,2] (aM (zx fun _ => zk 1 (zl bN p0 (zk 1 (ze [0,2,10] (zi h (fun h => ?_) fun h => ?_))))))
 refine za [2,3] ?_
 cases h
 exact aG zr
 refine aD (zx fun _ => zk 1 (bK h fun e1 he h => cY (v := .c (M6 e1)) (foot := []) (dU (enc := bN) (sz := 2) (l := p0) (ix := 0) he (by kernel_rfl) (gV e1) (by kernel_rfl)) (by kernel_rfl) rfl rfl (zk 3 (ze [0,2,4] (aR h (fun A j => ∀ v14 v15,j v14 v15 = some r → A (mk [J2,H4] [(0,H1),(1,.blk 190 [I v14,F5 v15])] 2)) (fun v14 v15 h => ?_) (fun j2 Aj2 hj2 h => ?_))))))
 refine zx fun _ => zk 1 (bK h fun y16 he h => zc Sl (sO n _ y16 he) (zk 2 (ze [2,3] ?_)))
 cases h
 exact aG zr
 refine zx fun _ => zk 1 (bK h fun l3 he h => zw (v := .c (F5 l3)) [] (rZ (enc := bN) (l := p0) (p := 1) (q := (List.length p0 : Int)) (sz := 2) he (by kernel_rfl) (fun x => by rw [gV]; rfl)) (zl bN l3 (zk 1 (kS [2,4,16,17,18] (L2 := [J2,A1 4 8 0,(16,.c (F5 l3)),(17,.c (I (List.length l3 : Int))),I4 18]) (G2 := [(0,H1),(8,J1 e1)]) 14 (aI (bB (fun n s => ∃ v6 v7 v8,pP l3 j2 n v6 v7 v8 = some r ∧ s = mk [J2,H4,(16,.c (F5 l3)),(17,.c (I (List.length l3 : Int))),O6 v6] [(0,H1),(1,.blk 190 [I v7,F5 v8])] 2) n _ (zv [(0,0),(8,1)] [2,4,16,17,18] 2) ⟨_,_,_,h,rfl⟩ (fun s ⟨v6,v7,v8,h,_⟩ => nomatch h) ?_))))))
 rintro n s ⟨v6,v7,v8,h,rfl⟩
 rw [pP] at h
 refine za [2,4,16,17,18,19] (aM (zi h (fun h => ?_) fun h => ?_))
 refine aD (aM (aI (zx fun _ => bK h fun e9 he h => cY (v := .c (M6 e9)) (foot := []) (dU (enc := bN) (sz := 2) (l := l3) (ix := v6) he (by kernel_rfl) (gV e9) (by kernel_rfl)) (by kernel_rfl) rfl rfl (zk 3 (ze [2,4,6,16,17,18] (za [2,4,6,16,17,18] (zx fun _ => zk 2 (bK h fun y10 he h => zc fok155 (Oq n _ _ y10 he) (zk 5 (ze [2,4,7,16,17,18] (za [2,4,16,17,18,29] (zi h (fun h => ?_) fun h => ?_))))))))))))
 refine za [2,3] ?_
 cases h
 exact aG zr
 exact aD (aV (zb (dI zI (⟨_,_,_,h,rfl⟩))))
 exact aJ zI (bF (hj2 _ _ h))
def kJ (p0 : aP) (self_expr_check : aP → Int → Int → Option (bD × Int × Int)) (p1 : Int) (j6 : List bD → Int → Option (bD × Int × Int)) : Nat → List bD → Int → Int → Option (bD × Int × Int)
 | 0,_,_,_ => none
 | n + 1,v10,v11,v12 => (if (decide (v11 < (List.length p0.L : Int))) = true then (idx p0.L v11).bind fun e13 => (self_expr_check e13 (w6 (p1 + 1)) v12).bind fun y14 => (if (y14.2.1 != 0) = true then some ((bD.mk 0 ([] : List bD)),y14.2.1,y14.2.2) else (pA 32 v10 [y14.1]).bind fun l15 => kJ p0 self_expr_check p1 j6 n l15 (w6 (v11 + 1)) y14.2.2) else j6 v10 v12)
def fD (self_expr_check : aP → Int → Int → Option (bD × Int × Int)) (n : Nat) (p0 : aP) (p1 : Int) (p2 : Int) : Option (bD × Int × Int) := (if ((p0.Kind == 4) && (decide (p1 ≥ 16))) = true then some ((bD.mk 0 ([] : List bD)),8,p2) else (jV n p0).bind fun y1 => (if (!y1) = true then some ((bD.mk 0 ([] : List bD)),9,(w6 (p2 + 1))) else (aS (fun (v4 : Bool) => (if v4 = true then some ((bD.mk 0 ([] : List bD)),1,(w6 (p2 + 1))) else (if (((decide ((ByteArray.size p0.S : Int) > 2000)) || (decide ((List.length p0.L : Int) > 100))) || (decide ((w6 (p2 + 1)) > 1000))) = true then some ((bD.mk 0 ([] : List bD)),2,(w6 (p2 + 1))) else (utf8_ValidString n p0.S).bind fun y5 => (if (!y5) = true then some ((bD.mk 0 ([] : List bD)),3,(w6 (p2 + 1))) else (if (p0.Kind != 4) = true then some ((bD.mk p0.Kind ([] : List bD)),0,(w6 (p2 + 1))) else (aS (fun (v19 : List bD) (v20 : Int) => (oQ n v19).bind fun y21 => (if (!y21.2) = true then some ((bD.mk 0 ([] : List bD)),5,v20) else some (y21.1,0,v20))) (fun (j6 : List bD → Int → Option (bD × Int × Int)) => kJ p0 self_expr_check p1 j6 n ([] : List bD) 0 (w6 (p2 + 1))))))))) (fun (j2 : Bool → Option (bD × Int × Int)) => (gd [(p0.Kind == 1)] (jR n p0.N)).bind fun y3 => (if ((p0.Kind == 1) && (!y3)) = true then j2 ((p0.Kind == 1) && (!y3)) else j2 (((p0.Kind == 2) && (p0.N != 0)) && (p0.N != 1)))))))
theorem zO (self_expr_check : aP → Int → Int → Option (P4)) (ih_expr_check : ∀ (p0 : aP) (p1 : Int) (p2 : Int) (r : (P4)),self_expr_check p0 p1 p2 = some r → dC E 147 1 [C0 p0,C7 p1,D6 0 0] [H0 p2] (.tup [D3 r.1,C7 r.2.1]) [H0 r.2.2]) (n : Nat) (p0 : aP) (p1 : Int) (p2 : Int) (r : (P4)) (h : fD self_expr_check n p0 p1 p2 = some r) : dC E 147 1 [C0 p0,C7 p1,D6 0 0] [H0 p2] (.tup [D3 r.1,C7 r.2.1]) [H0 r.2.2] := by
 refine eO Tryz.func147 rfl ?_
 unfold fD at h
 refine za [1,2,3,6] (aM (zx fun _ => zk 4 (zq (zq (zp (ze [1,2,3,6,21] (zi h (fun h => ?_) fun h => ?_)))))))
 refine za [6,7] ?_
 cases h
 exact aG zr
 refine aD (za [1,2,3,6] (aM (aI (zx fun _ => zk 1 (bK h fun y1 he h => zc fok149 (Ie n _ y1 he) (zk 2 (ze [1,2,3,6,28] (zi h (fun h => ?_) fun h => ?_))))))))
 refine za [6,7] ?_
 cases h
 exact aG zr
 refine aR h (fun A j => ∀ v4,j v4 = some r → A (mk [A7 1 p1,J2,N0,O5,B4 33 v4] [H0 (w6 (p2 + 1)),(1,E7 p0),(2,H1)] 3)) (fun v4 h => ?_) (fun j2 Aj2 hj2 h => ?_)
 refine zi h (fun h => ?_) fun h => ?_
 refine za [6,7] ?_
 cases h
 exact aG zr
 refine zx fun _ => zk 5 (zq (zq (kX (e := [(!(decide ((ByteArray.size p0.S : Int) > 2000)))]) [(64,O7 p0.L,some 1)] (v := .c (I (List.length p0.L : Int))) (foot := []) (by kernel_rfl) (by kernel_rfl) (by kernel_rfl) (fun hg => mO (enc := aT) (l := p0.L) (by kernel_rfl)) rfl rfl (zq (zp (zk 1 (zq (zq (zq (zq (zp (zk 1 (kS [1,2,3,6,57] (L2 := [A7 1 p1,J2,N0,O5,(57,.c (Bo (((decide ((ByteArray.size p0.S : Int) > 2000)) || (decide ((List.length p0.L : Int) > 100))) || (decide ((w6 (p2 + 1)) > 1000)))))]) (G2 := [H0 (w6 (p2 + 1)),(1,E7 p0),(2,H1)]) 20 (zi h (fun h => ?_) fun h => ?_))))))))))))))
 refine za [6,7] ?_
 cases h
 exact aG zr
 refine zx fun _ => zk 2 (bK h fun y5 he h => zc fok151 (zC n _ y5 he) (zk 2 (ze [1,2,3,6,75] (zi h (fun h => ?_) fun h => ?_))))
 refine za [6,7] ?_
 cases h
 exact aG zr
 refine za [1,2,3,6,81] (zi h (fun h => ?_) fun h => ?_)
 refine za [6,7] ?_
 cases h
 exact aG zr
 refine aD (za [1,2,3,6,8] (aR h (fun A j => ∀ v19 v20,j v19 v20 = some r → A (mk [J0,(8,.c (R4 2 v19))] [H0 v20,(1,H1),C1 2 190 2 v19] 3)) (fun v19 v20 h => ?_) (fun j6 Aj6 hj6 h => ?_)))
 refine zx fun _ => zk 1 (bK h fun y21 he h => zc fok152 (Gn n _ y21 he) (zk 6 (ze [6,13,14] (aM (za [6,13,118] (zi h (fun h => ?_) fun h => ?_))))))
 refine za [6,7] ?_
 cases h
 exact aG zr
 refine aD (za [6,7] ?_)
 cases h
 exact aG zr
 refine zx fun _ => zk 2 (zl aT p0.L (zk 1 (ze [1,2,6,8,89,90,91] (aI (bB (fun n s => ∃ v10 v11 v12,kJ p0 self_expr_check p1 j6 n v10 v11 v12 = some r ∧ s = mk [A7 1 p1,J2,J0,(8,.c (R4 2 v10)),(89,O7 p0.L),(90,.c (I (List.length p0.L : Int))),A7 91 v11] [H0 v12,(1,H1),C1 2 190 2 v10] 3) n _ (dZ.trans (mB (L2 := [A7 1 p1,J2,O5,(8,.c (.app 34 (List.map bN ([] : List bD)))),(89,O7 p0.L),(90,.c (I (List.length p0.L : Int))),I4 91]) (G2 := [H0 (w6 (p2 + 1)),(1,E7 p0),(2,H1),(34,.tok 190 2 (List.length ([] : List bD)))]) (lim2 := 35) 8 190 2 (by kernel_rfl) (by kernel_rfl) (by kernel_rfl) (by kernel_rfl)) (zv [(0,0),(2,1),(34,2)] [1,2,6,8,89,90,91] 3)) ⟨_,_,_,h,rfl⟩ (fun s ⟨v10,v11,v12,h,_⟩ => nomatch h) ?_)))))
 rintro n s ⟨v10,v11,v12,h,rfl⟩
 rw [kJ] at h
 refine za [1,2,6,8,89,90,91,92] (aM (zi h (fun h => ?_) fun h => ?_))
 refine aD (aM (aI (zx fun _ => bK h fun e13 he h => cY (v := .c (K1 e13)) (foot := []) (dU (enc := aT) (sz := 4) (l := p0.L) (ix := v11) he (by kernel_rfl) (eE e13) (by kernel_rfl)) (by kernel_rfl) rfl rfl (zk 3 (ze [1,2,6,8,10,89,90,91] (zx fun _ => zk 4 (bK h fun y14 he h => zo [(0,0)] Zt (ih_expr_check _ _ _ y14 he) (zk 6 (ze [1,2,6,8,11,12,89,90,91] (aM (za [1,2,6,8,11,12,89,90,91,104] (zi h (fun h => ?_) fun h => ?_))))))))))))
 refine za [6,7] ?_
 cases h
 exact aG zr
 exact aD (zy fun _ => zk 2 (rF (e := 190) (sz := 2) (len := 1) (r := [I y14.1.Kind,F5 y14.1.Of]) (l' := List.map bN [y14.1]) (nm := 23) (by kernel_rfl) (by simp only [List.map_cons,List.map_nil,gV]; kernel_rfl) (by kernel_rfl) (by kernel_rfl) rfl rfl rfl (bK h fun l15 he h => cI (enc := bN) (l := v10) (els := [y14.1]) (r := l15) (old := some 2) (e := 190) (sz := 2) (bytes := 32) (k := (H6 v10)) (nm := 24) he (by kernel_rfl) (by kernel_rfl) (fun x => by rw [gV]; rfl) (by kernel_rfl) (by kernel_rfl) rfl rfl rfl (zk 1 (bT (aV (zb (dI (zv [(0,0),(1,1),(24,2)] [1,2,6,8,89,90,91] 3) (⟨_,_,_,h,rfl⟩)))))))))
 exact aJ zI (bF (hj6 _ _ h))
 refine zx fun _ => zk 4 (zq (zq (bK h fun y3 he h => yW [p0.Kind == 1] fok150 (fun hg => Gq n _ y3 (bQ he hg)) (zq (zp (zk 1 (kS [1,2,3,6,33] (L2 := [A7 1 p1,J2,N0,O5,B4 33 ((p0.Kind == 1) && (!y3))]) (G2 := [H0 (w6 (p2 + 1)),(1,E7 p0),(2,H1)]) 31 (zi h (fun h => ?_) fun h => ?_))))))))
 exact aJ zI (aD (hj2 _ h))
 exact aV (zy fun _ => zk 4 (zq (zq (zq (zp (zk 1 (zq (zq (zq (zp (zk 1 (bT (dI zI (hj2 _ h))))))))))))))
def eP : Nat → aP → Int → Int → Option (bD × Int × Int)
 | 0,_,_,_ => none
 | n + 1,p0,p1,p2 => fD (fun a0 a1 a2 => eP n a0 a1 a2) n p0 p1 p2
theorem Kd (n : Nat) : (∀ (p0 : aP) (p1 : Int) (p2 : Int) (r : (P4)),eP n p0 p1 p2 = some r → dC E 147 1 [C0 p0,C7 p1,D6 0 0] [H0 p2] (.tup [D3 r.1,C7 r.2.1]) [H0 r.2.2]) := by
 induction n with
 | zero => intro p0 p1 p2 r h; rw [eP] at h; cases h
 | succ n ih => intro p0 p1 p2 r h; rw [eP] at h; exact zO _ ih n _ _ _ r h
def lI (self_expr_copyType : bD → Option bD) (n : Nat) (p0 : bD) : Option bD := (if ((List.length p0.Of : Int) == 0) = true then some (bD.mk p0.Kind ([] : List bD)) else (idx p0.Of 0).bind fun e1 => (self_expr_copyType e1).bind fun y2 => (qR n y2).bind fun y3 => some y3)
theorem wN (self_expr_copyType : bD → Option bD) (ih_expr_copyType : ∀ (p0 : bD) (r : bD),self_expr_copyType p0 = some r → dC E 148 0 [D3 p0] [] (D3 r) []) (n : Nat) (p0 : bD) (r : bD) (h : lI self_expr_copyType n p0 = some r) : dC E 148 0 [D3 p0] [] (D3 r) [] := by
 refine eO Tryz.func148 rfl ?_
 unfold lI at h
 refine za [1,2] (aM (zx fun _ => zk 2 (zl bN p0.Of (zk 1 (ze [1,2,6] (zi h (fun h => ?_) fun h => ?_))))))
 refine za [2] ?_
 cases h
 exact aG zr
 refine aD (zx fun _ => zk 2 (bK h fun e1 he h => cY (v := .c (M6 e1)) (foot := []) (dU (enc := bN) (sz := 2) (l := p0.Of) (ix := 0) he (by kernel_rfl) (gV e1) (by kernel_rfl)) (by kernel_rfl) rfl rfl (zk 1 (bK h fun y2 he h => zc Yv (ih_expr_copyType _ y2 he) (bK h fun y3 he h => zc Sl (sO n _ y3 he) (zk 1 (kS [2] (L2 := [N7]) (G2 := [(0,J1 p0),(1,J1 y3)]) 13 ?_)))))))
 cases h
 exact aG zr
def hY : Nat → bD → Option bD
 | 0,_ => none
 | n + 1,p0 => lI (fun a0 => hY n a0) n p0
theorem Dx (n : Nat) : (∀ (p0 : bD) (r : bD),hY n p0 = some r → dC E 148 0 [D3 p0] [] (D3 r) []) := by
 induction n with
 | zero => intro p0 r h; rw [hY] at h; cases h
 | succ n ih => intro p0 r h; rw [hY] at h; exact wN _ ih n _ r h
def mP (n : Nat) (p0 : aP) : Option (bD × Int) := (eP n p0 0 0).bind fun y1 => (if (y1.2.1 != 0) = true then some ((bD.mk 0 ([] : List bD)),y1.2.1) else (hY n y1.1).bind fun y2 => some (y2,0))
theorem Gz (n : Nat) (p0 : aP) (r : (bD × Int)) (h : mP n p0 = some r) : dC E 144 0 [C0 p0] [] (.tup [D3 r.1,C7 r.2]) [] := by
 refine eO Tryz.func144 rfl ?_
 unfold mP at h
 refine za [1,2] (za [1,2,4] (zx fun _ => zk 1 (bK h fun y1 he h => zo [(0,3)] Zt (Kd n _ _ _ y1 he) (zk 6 (ze [2,5,6] (aM (za [2,5,6,13] (zi h (fun h => ?_) fun h => ?_))))))))
 refine za [2,3] ?_
 cases h
 exact aG zr
 refine aD (zx fun _ => zk 1 (bK h fun y2 he h => zc Yv (Dx n _ y2 he) (zk 2 (ze [2,3] ?_))))
 cases h
 exact aG zr
def lF (n : Nat) (p0 : aP) : Option Int := (mP n p0).bind fun y1 => some y1.2
theorem zG (n : Nat) (p0 : aP) (r : Int) (h : lF n p0 = some r) : dC E 139 0 [C0 p0] [] (C7 r) [] := by
 refine eO Tryz.func139 rfl ?_
 unfold lF at h
 refine za [1] (zx fun _ => zk 1 (bK h fun y1 he h => zc fok144 (Gz n _ y1 he) (zk 6 (ze [4] (za [2] ?_)))))
 cases h
 exact aG zr
def fH (p0 : (List bJ)) (j1 : Unit → Option Int) : Nat → Int → Option Int
 | 0,_ => none
 | n + 1,v6 => (if (decide (v6 < (List.length p0 : Int))) = true then (idx p0 v6).bind fun e7 => (eX n e7.Name).bind fun y8 => (if (!y8) = true then some 4 else (gd [(decide (v6 > 0))] (idx p0 (w6 (v6 - 1)))).bind fun e9 => (if ((decide (v6 > 0)) && (!(Rz e9.Name e7.Name))) = true then some 10 else (lF n e7.Value).bind fun y10 => (if (y10 != 0) = true then some y10 else fH p0 j1 n (w6 (v6 + 1))))) else j1 ())
def oA (n : Nat) (p0 : (List bJ)) : Option Int := (aS (fun (_ : Unit) => some 0) (fun (j1 : Unit → Option Int) => fH p0 j1 n 0))
theorem zR (n : Nat) (p0 : (List bJ)) (r : Int) (h : oA n p0 = some r) : dC E 131 0 [R5 p0] [] (C7 r) [] := by
 refine eO Tryz.func131 rfl ?_
 unfold oA at h
 refine za [0] (aR h (fun A j => ∀ u,j u = some r → A (M5)) (fun u h => ?_) (fun j1 Aj1 hj1 h => ?_))
 refine za [2] ?_
 cases h
 exact aG zr
 refine zx fun _ => zk 1 (zl aF p0 (zk 1 (ze [0,6,7,8] (aI (bB (fun n s => ∃ v6,fH p0 j1 n v6 = some r ∧ s = mk [(0,R5 p0),(6,R5 p0),(7,.c (I (List.length p0 : Int))),A7 8 v6] [] 0) n _ zI ⟨_,h,rfl⟩ (fun s ⟨v6,h,_⟩ => nomatch h) ?_)))))
 rintro n s ⟨v6,h,rfl⟩
 rw [fH] at h
 refine za [0,6,7,8,9] (aM (zi h (fun h => ?_) fun h => ?_))
 refine aD (aM (aI (zx fun _ => zk 1 (bK h fun e7 he h => zd aF he (zk 4 (ze [0,3,4,6,7,8] (aM (aI (zx fun _ => zk 2 (bK h fun y8 he h => zc Hg (lO n _ y8 he) (zk 2 (ze [0,3,4,6,7,8,13] (zi h (fun h => ?_) fun h => ?_)))))))))))))
 refine za [2] ?_
 cases h
 exact aG zr
 refine vK [[],[0],[1,0],[2,1,0],[2,1,0],[4,2,1,0],[3,5,2,1,0,4],[6,2,3,5,1,0,4],[7,2,6,3,5,1,0,4],[2,1,0],[9,2,1,0],[8,10,2,7,6,3,5,1,0,4,9],[2,11,1,0,8,10,7,6,3,5,4,9],[12,2,11,1,0,8,10,7,6,3,5,4,9]] fun _ => zk 3 (zq (zq (zq (bK h fun e9 he h => kX (e := [F2 v6 0]) [(22,R5 p0,some 1),(24,C7 (w6 (v6 - 1)),some 1)] (v := .c (N3 e9.Name e9.Value)) (foot := []) (by kernel_rfl) (by kernel_rfl) (by kernel_rfl) (fun hg => dU (enc := aF) (sz := 5) (l := p0) (ix := (w6 (v6 - 1))) (bQ he hg) (by kernel_rfl) (by kernel_rfl) (by kernel_rfl)) rfl rfl (zq (zq (zq (zq (zq (zp (zk 1 (kS [0,4,6,7,8,18] (L2 := [(0,R5 p0),(6,R5 p0),(7,.c (I (List.length p0 : Int))),A7 8 v6,A1 4 4 0,B4 18 ((F2 v6 0) && (!(Rz e9.Name e7.Name)))]) (G2 := [(4,.blk 172 [Sx e7.Name,I e7.Value.Kind,I e7.Value.N,Sx e7.Value.S,D8 e7.Value.L])]) 26 (zi h (fun h => ?_) fun h => ?_)))))))))))))
 refine za [2] ?_
 cases h
 exact aG zr
 refine aD (zx fun _ => zk 2 (bK h fun y10 he h => zc fok139 (zG n _ y10 he) (zk 1 (ze [0,5,6,7,8] (za [0,5,6,7,8,36] (zi h (fun h => ?_) fun h => ?_))))))
 refine za [2] ?_
 cases h
 exact aG zr
 exact aD (aV (zb (dI zI (⟨_,h,rfl⟩))))
 exact aJ zI (bF (hj1 _ h))
def iM (e15 : cS) (j14 : Unit → Option Int) (p0 : (List cS)) (v13 : Int) : Nat → Int → Option Int
 | 0,_ => none
 | n + 1,v21 => (if (decide (v21 < (List.length e15.Args : Int))) = true then (idx e15.Args v21).bind fun e22 => (lF n e22).bind fun y23 => (if (y23 != 0) = true then some y23 else iM e15 j14 p0 v13 n (w6 (v21 + 1))) else j14 ())
def fB (p0 : (List cS)) (j1 : Unit → Option Int) : Nat → Int → Option Int
 | 0,_ => none
 | n + 1,v13 => (if (decide (v13 < (List.length p0 : Int))) = true then (aS (fun (_ : Unit) => fB p0 j1 n (w6 (v13 + 1))) (fun (j14 : Unit → Option Int) => (idx p0 v13).bind fun e15 => (eX n e15.Event).bind fun y16 => (gd [(!(!y16))] (eX n e15.Handler)).bind fun y17 => (if ((!y16) || (!y17)) = true then some 4 else (gd [(decide (v13 > 0))] (idx p0 (w6 (v13 - 1)))).bind fun e18 => (if ((decide (v13 > 0)) && (!(Rz e18.Event e15.Event))) = true then some 10 else (if ((decide ((ByteArray.size e15.Instance : Int) > 400)) || (decide ((List.length e15.Args : Int) > 100))) = true then some 2 else iM e15 j14 p0 v13 n 0))))) else j1 ())
def oY (n : Nat) (p0 : (List cS)) : Option Int := (aS (fun (_ : Unit) => some 0) (fun (j1 : Unit → Option Int) => fB p0 j1 n 0))
theorem Fg (n : Nat) (p0 : (List cS)) (r : Int) (h : oY n p0 = some r) : dC E 132 0 [.c (C6 p0)] [] (C7 r) [] := by
 refine eO Tryz.func132 rfl ?_
 unfold oY at h
 refine za [0] (aR h (fun A j => ∀ u,j u = some r → A (M5)) (fun u h => ?_) (fun j1 Aj1 hj1 h => ?_))
 refine za [2] ?_
 cases h
 exact aG zr
 refine zx fun _ => zk 1 (zl aC p0 (zk 1 (ze [0,8,9,10] (aI (bB (fun n s => ∃ v13,fB p0 j1 n v13 = some r ∧ s = mk [Q5 0 p0,Q5 8 p0,(9,.c (I (List.length p0 : Int))),A7 10 v13] [] 0) n _ zI ⟨_,h,rfl⟩ (fun s ⟨v13,h,_⟩ => nomatch h) ?_)))))
 rintro n s ⟨v13,h,rfl⟩
 rw [fB] at h
 refine za [0,8,9,10,11] (aM (zi h (fun h => ?_) fun h => ?_))
 refine aD (aR h (fun A j => ∀ u,j u = some r → A (mk [Q5 0 p0,Q5 8 p0,(9,.c (I (List.length p0 : Int))),A7 10 v13] [] 0)) (fun u h => ?_) (fun j14 Aj14 hj14 h => ?_))
 exact aV (zb (dI zI (⟨_,h,rfl⟩)))
 refine aI (zx fun _ => zk 1 (bK h fun e15 he h => zd aC he (zk 4 (ze [0,3,4,8,9,10] (aM (aI (zx fun _ => zk 2 (bK h fun y16 he h => zc Hg (lO n _ y16 he) (zk 2 (zq (zq (bK h fun y17 he h => yW [!(!y16)] Hg (fun hg => lO n _ y17 (bQ he hg)) (zq (zp (zk 1 (kS [0,3,4,8,9,10,15] (L2 := [Q5 0 p0,Q5 8 p0,(9,.c (I (List.length p0 : Int))),A7 10 v13,A1 4 4 0,A7 3 v13,B4 15 ((!y16) || (!y17))]) (G2 := [(4,H3 e15)]) 18 (zi h (fun h => ?_) fun h => ?_)))))))))))))))))
 refine za [2] ?_
 cases h
 exact aG zr
 refine vK [[],[0],[1,0],[2,1,0],[2,1,0],[4,2,1,0],[3,5,2,1,0,4],[6,2,3,5,1,0,4],[7,2,6,3,5,1,0,4],[2,1,0],[9,2,1,0],[8,10,2,7,6,3,5,1,0,4,9],[2,11,1,0,8,10,7,6,3,5,4,9],[12,2,11,1,0,8,10,7,6,3,5,4,9]] fun _ => zk 3 (zq (zq (zq (bK h fun e18 he h => kX (e := [F2 v13 0]) [(30,.c (C6 p0),some 1),(32,C7 (w6 (v13 - 1)),some 1)] (v := .c (.imm [Sx e18.Event,Sx e18.Instance,Sx e18.Handler,D8 e18.Args])) (foot := []) (by kernel_rfl) (by kernel_rfl) (by kernel_rfl) (fun hg => dU (enc := aC) (sz := 4) (l := p0) (ix := (w6 (v13 - 1))) (bQ he hg) (by kernel_rfl) (by kernel_rfl) (by kernel_rfl)) rfl rfl (zq (zq (zq (zq (zq (zp (zk 1 (kS [0,4,8,9,10,26] (L2 := [Q5 0 p0,Q5 8 p0,(9,.c (I (List.length p0 : Int))),A7 10 v13,A1 4 4 0,B4 26 ((F2 v13 0) && (!(Rz e18.Event e15.Event)))]) (G2 := [(4,H3 e15)]) 32 (zi h (fun h => ?_) fun h => ?_)))))))))))))
 refine za [2] ?_
 cases h
 exact aG zr
 refine zx fun _ => zk 5 (zq (zq (kX (e := [(!(decide ((ByteArray.size e15.Instance : Int) > 400)))]) [(47,O7 e15.Args,some 1)] (v := .c (I (List.length e15.Args : Int))) (foot := []) (by kernel_rfl) (by kernel_rfl) (by kernel_rfl) (fun hg => mO (enc := aT) (l := e15.Args) (by kernel_rfl)) rfl rfl (zq (zp (zk 1 (ze [0,4,8,9,10,40] (zi h (fun h => ?_) fun h => ?_))))))))
 refine za [2] ?_
 cases h
 exact aG zr
 refine aD (zx fun _ => zk 2 (zl aT e15.Args (zk 1 (kS [0,8,9,10,52,53,54] (L2 := [Q5 0 p0,Q5 8 p0,(9,.c (I (List.length p0 : Int))),A7 10 v13,(52,O7 e15.Args),(53,.c (I (List.length e15.Args : Int))),I4 54]) (G2 := [(4,H3 e15)]) 47 (aI (bB (fun n s => ∃ v21,iM e15 j14 p0 v13 n v21 = some r ∧ s = mk [Q5 0 p0,Q5 8 p0,(9,.c (I (List.length p0 : Int))),A7 10 v13,(52,O7 e15.Args),(53,.c (I (List.length e15.Args : Int))),A7 54 v21] [] 0) n _ zI ⟨_,h,rfl⟩ (fun s ⟨v21,h,_⟩ => nomatch h) ?_))))))
 rintro n s ⟨v21,h,rfl⟩
 rw [iM] at h
 refine za [0,8,9,10,52,53,54,55] (aM (zi h (fun h => ?_) fun h => ?_))
 refine aD (aM (aI (zx fun _ => bK h fun e22 he h => cY (v := .c (K1 e22)) (foot := []) (dU (enc := aT) (sz := 4) (l := e15.Args) (ix := v21) he (by kernel_rfl) (eE e22) (by kernel_rfl)) (by kernel_rfl) rfl rfl (zk 3 (ze [0,6,8,9,10,52,53,54] (zx fun _ => zk 1 (bK h fun y23 he h => zc fok139 (zG n _ y23 he) (zk 1 (ze [0,7,8,9,10,52,53,54] (za [0,7,8,9,10,52,53,54,61] (zi h (fun h => ?_) fun h => ?_)))))))))))
 refine za [2] ?_
 cases h
 exact aG zr
 exact aD (aV (zb (dI zI (⟨_,h,rfl⟩))))
 exact aJ zI (bF (hj14 _ h))
 exact aJ zI (bF (hj1 _ h))
end Go.Proofs.YtojkihhnioeggaaGreatDoor.S
