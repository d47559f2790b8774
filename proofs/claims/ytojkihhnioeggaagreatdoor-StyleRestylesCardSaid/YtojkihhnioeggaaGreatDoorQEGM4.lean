import Derived.Test.YtojkihhnioeggaaGreatDoorQEGM3
set_option linter.all false
set_option maxRecDepth 100000
set_option maxHeartbeats 4000000
namespace Go.Proofs.YtojkihhnioeggaaGreatDoor.S
open Go Go.Bm
def dM (n : Nat) (p0 : Int) (p1 : Int) : Option Bool := (iV n p0).bind fun y1 => (gd [y1] (idx bE p0)).bind fun e2 => (gd [(y1 && (decide (p1 ≥ e2.low)))] (idx bE p0)).bind fun e3 => some ((y1 && (decide (p1 ≥ e2.low))) && (decide (p1 ≤ e3.high)))
theorem vB (n : Nat) (p0 : Int) (p1 : Int) (r : Bool) (h : dM n p0 p1 = some r) : dC E 21 0 [C7 p0,C7 p1] [] (D7 r) [] := by
 refine eO Tryz.func21 rfl ?_
 unfold dM at h
 refine za [0,1] (zx fun _ => zk 1 (bK h fun y1 he h => zc Yp (rB n _ y1 he) (zk 1 (zq (zq (bK h fun e2 he h => Gk (es := [y1]) [(9,C7 p0,some 1)] (enc := kF) (xs := bE) (ix := p0) (e := e2) (c := [Bo e2.inherited,I e2.low,I e2.high,I e2.start]) (len := 22) (sz := 4) (fun hg => bQ he hg) (by kernel_rfl) (by kernel_rfl) (by kernel_rfl) (by kernel_rfl) (by kernel_rfl) (by kernel_rfl) (fun x => by kernel_rfl) rfl rfl (zq (zq (zq (zp (zk 1 (zq (zq (bK h fun e3 he h => Gk (es := [y1 && (P9 p1 e2.low)]) [(17,C7 p0,some 1)] (enc := kF) (xs := bE) (ix := p0) (e := e3) (c := [Bo e3.inherited,I e3.low,I e3.high,I e3.start]) (len := 22) (sz := 4) (fun hg => bQ he hg) (by kernel_rfl) (by kernel_rfl) (by kernel_rfl) (by kernel_rfl) (by kernel_rfl) (by kernel_rfl) (fun x => by kernel_rfl) rfl rfl (zq (zq (zq (zp (zk 1 (kS [4] (L2 := [B4 4 ((y1 && (P9 p1 e2.low)) && (Q0 p1 e3.high))]) (G2 := []) 20 ?_))))))))))))))))))))
 cases h
 exact aG zr
def jS (n : Nat) (p0 : bW) (p1 : Int) : Option Int := (iV n p0.Prop_).bind fun y1 => (if (!y1) = true then some 1 else (aS (fun (v3 : Bool) => (if v3 = true then some 9 else (gd [(p0.Source == 0)] (dM n p0.Prop_ p0.N)).bind fun y4 => (if ((p0.Source == 0) && (!y4)) = true then some 1 else (gd [(p0.Source == 1)] (eX n p0.Token)).bind fun y5 => (if ((p0.Source == 1) && (!y5)) = true then some 4 else (if (((p0.Prop_ == 5) || (p0.Prop_ == 21)) && ((oU .i64 p1 7) != 0)) = true then some 13 else some 0))))) (fun (j2 : Bool → Option Int) => (if ((decide (p0.Source < 0)) || (decide (p0.Source > 3))) = true then j2 ((decide (p0.Source < 0)) || (decide (p0.Source > 3))) else (if ((p0.N != 0) && (p0.Source != 0)) = true then j2 ((p0.N != 0) && (p0.Source != 0)) else j2 ((!(bP p0.Token nB)) && (p0.Source != 1)))))))
theorem yB (n : Nat) (p0 : bW) (p1 : Int) (r : Int) (h : jS n p0 p1 = some r) : dC E 67 0 [M7 p0,C7 p1] [] (C7 r) [] := by
 refine eO Tryz.func67 rfl ?_
 unfold jS at h
 refine za [1,2] (aM (aI (zx fun _ => zk 2 (bK h fun y1 he h => zc Yp (rB n _ y1 he) (zk 2 (ze [1,2,5] (zi h (fun h => ?_) fun h => ?_)))))))
 refine za [4] ?_
 cases h
 exact aG zr
 refine aR h (fun A j => ∀ v3,j v3 = some r → A (mk [A7 1 p1,J2,B4 10 v3] [(0,E4 p0)] 1)) (fun v3 h => ?_) (fun j2 Aj2 hj2 h => ?_)
 refine zi h (fun h => ?_) fun h => ?_
 refine za [4] ?_
 cases h
 exact aG zr
 refine zx fun _ => zk 4 (zq (zq (zq (zq (bK h fun y4 he h => yW [p0.Source == 0] fok21 (fun hg => vB n _ _ y4 (bQ he hg)) (zq (zp (zk 1 (ze [1,2,35] (zi h (fun h => ?_) fun h => ?_))))))))))
 refine za [4] ?_
 cases h
 exact aG zr
 refine zx fun _ => zk 4 (zq (zq (bK h fun y5 he h => yW [p0.Source == 1] Hg (fun hg => lO n _ y5 (bQ he hg)) (zq (zp (zk 1 (kS [1,2,47] (L2 := [A7 1 p1,J2,B4 47 ((p0.Source == 1) && (!y5))]) (G2 := [(0,E4 p0)]) 23 (zi h (fun h => ?_) fun h => ?_))))))))
 refine za [4] ?_
 cases h
 exact aG zr
 refine zx fun _ => zk 4 (zq (zq (zq (zp (zk 1 (zq (zq (zq (zp (zk 1 (kS [57] (L2 := [B4 57 (((p0.Prop_ == 5) || (p0.Prop_ == 21)) && ((oU .i64 p1 7) != 0))]) (G2 := [(0,E4 p0)]) 37 (zi h (fun h => ?_) fun h => ?_))))))))))))
 refine za [4] ?_
 cases h
 exact aG zr
 refine aD (za [4] ?_)
 cases h
 exact aG zr
 refine zx fun _ => zk 4 (zq (zq (zq (zp (zk 1 (kS [1,2,10] (L2 := [A7 1 p1,J2,B4 10 (B0 p0.Source 0 3)]) (G2 := [(0,E4 p0)]) 16 (zi h (fun h => ?_) fun h => ?_)))))))
 exact aJ zI (aD (hj2 _ h))
 refine zx fun _ => zk 4 (zq (zq (zq (zp (zk 1 (ze [1,2,10] (zi h (fun h => ?_) fun h => ?_)))))))
 exact aJ zI (aD (hj2 _ h))
 exact aV (zy fun _ => zk 4 (zq (zq (zq (zp (zk 1 (bT (dI zI (hj2 _ h)))))))))
def fP (e14 : cM) (j13 : Unit → Option Int) (p0 : bM) (v12 : Int) : Nat → Int → Option Int
 | 0,_ => none
 | n + 1,v19 => (if (decide (v19 < (List.length e14.Decls : Int))) = true then (idx e14.Decls v19).bind fun e20 => (jS n e20 e14.States).bind fun y21 => (if (y21 != 0) = true then some y21 else fP e14 j13 p0 v12 n (w6 (v19 + 1))) else j13 ())
def eR (p0 : bM) (j1 : Unit → Option Int) : Nat → Int → Option Int
 | 0,_ => none
 | n + 1,v12 => (if (decide (v12 < (List.length p0.Rules : Int))) = true then (aS (fun (_ : Unit) => eR p0 j1 n (w6 (v12 + 1))) (fun (j13 : Unit → Option Int) => (idx p0.Rules v12).bind fun e14 => (if ((((decide (e14.Kind < 0)) || (decide (e14.Kind > 13))) || (decide (e14.UnderKind < 0))) || (decide (e14.UnderKind > 13))) = true then some 9 else (gd [(!(bP e14.Class nB))] (eX n e14.Class)).bind fun y15 => (gd [(!((!(bP e14.Class nB)) && (!y15))),(!(bP e14.UnderClass nB))] (eX n e14.UnderClass)).bind fun y16 => (if (((!(bP e14.Class nB)) && (!y15)) || ((!(bP e14.UnderClass nB)) && (!y16))) = true then some 4 else (if ((decide (e14.States < 0)) || (decide (e14.States > 31))) = true then some 1 else (if (decide ((List.length e14.Decls : Int) > 50)) = true then some 2 else fP e14 j13 p0 v12 n 0)))))) else j1 ())
def nE (n : Nat) (p0 : bM) : Option Int := (if (decide ((List.length p0.Rules : Int) > 100)) = true then some 2 else (aS (fun (_ : Unit) => some 0) (fun (j1 : Unit → Option Int) => eR p0 j1 n 0)))
theorem Cf (n : Nat) (p0 : bM) (r : Int) (h : nE n p0 = some r) : dC E 34 0 [R0 p0.Rules] [] (C7 r) [] := by
 refine eO Tryz.func34 rfl ?_
 unfold nE at h
 refine za [1] (aM (zx fun _ => zk 2 (zl aY p0.Rules (zk 1 (ze [1,11] (zi h (fun h => ?_) fun h => ?_))))))
 refine za [2] ?_
 cases h
 exact aG zr
 refine aD (aR h (fun A j => ∀ u,j u = some r → A (M5)) (fun u h => ?_) (fun j1 Aj1 hj1 h => ?_))
 refine za [2] ?_
 cases h
 exact aG zr
 refine zx fun _ => zk 2 (zl aY p0.Rules (zk 1 (ze [13,14,15] (aI (bB (fun n s => ∃ v12,eR p0 j1 n v12 = some r ∧ s = mk [(13,.c (C4 p0.Rules)),(14,.c (I (List.length p0.Rules : Int))),A7 15 v12] [] 0) n _ zI ⟨_,h,rfl⟩ (fun s ⟨v12,h,_⟩ => nomatch h) ?_)))))
 rintro n s ⟨v12,h,rfl⟩
 rw [eR] at h
 refine za [13,14,15,16] (aM (zi h (fun h => ?_) fun h => ?_))
 refine aD (aR h (fun A j => ∀ u,j u = some r → A (mk [(13,.c (C4 p0.Rules)),(14,.c (I (List.length p0.Rules : Int))),A7 15 v12] [] 0)) (fun u h => ?_) (fun j13 Aj13 hj13 h => ?_))
 exact aV (zb (dI zI (⟨_,h,rfl⟩)))
 refine aI (zx fun _ => bK h fun e14 he h => zd aY he (zk 3 (ze [4,13,14,15] (aM (aI (zx fun _ => zk 4 (zq (zq (zq (zp (zk 1 (zq (zq (zq (zp (zk 1 (zq (zq (zq (zp (zk 1 (kS [4,13,14,15,19] (L2 := [(13,.c (C4 p0.Rules)),(14,.c (I (List.length p0.Rules : Int))),A7 15 v12,A1 4 3 0,B4 19 (((B0 e14.Kind 0 13) || (D4 e14.UnderKind 0)) || (F2 e14.UnderKind 13))]) (G2 := [K7 3 e14]) 24 (zi h (fun h => ?_) fun h => ?_)))))))))))))))))))))))
 refine za [2] ?_
 cases h
 exact aG zr
 refine zx fun _ => zk 4 (zq (zq (bK h fun y15 he h => yW [!(G9 e14.Class)] Hg (fun hg => lO n _ y15 (bQ he hg)) (zq (zp (zk 1 (zq (zq (zq (zF [!((!(G9 e14.Class)) && (!y15))] (D7 (!(G9 e14.UnderClass))) (zq (zq (bK h fun y16 he h => yW [!((!(G9 e14.Class)) && (!y15)),!(G9 e14.UnderClass)] Hg (fun hg => lO n _ y16 (bQ he hg)) (zq (zp (zp (zk 1 (kS [4,13,14,15,38] (L2 := [(13,.c (C4 p0.Rules)),(14,.c (I (List.length p0.Rules : Int))),A7 15 v12,A1 4 3 0,B4 38 (((!(G9 e14.Class)) && (!y15)) || ((!(G9 e14.UnderClass)) && (!y16)))]) (G2 := [K7 3 e14]) 45 (zi h (fun h => ?_) fun h => ?_)))))))))))))))))))
 refine za [2] ?_
 cases h
 exact aG zr
 refine zx fun _ => zk 4 (zq (zq (zq (zp (zk 1 (ze [4,13,14,15,59] (zi h (fun h => ?_) fun h => ?_)))))))
 refine za [2] ?_
 cases h
 exact aG zr
 refine zx fun _ => zk 2 (zl bL e14.Decls (zk 2 (ze [4,13,14,15,68] (zi h (fun h => ?_) fun h => ?_))))
 refine za [2] ?_
 cases h
 exact aG zr
 refine aD (zx fun _ => zk 2 (zl bL e14.Decls (zk 1 (kS [4,13,14,15,74,75,76] (L2 := [(13,.c (C4 p0.Rules)),(14,.c (I (List.length p0.Rules : Int))),A7 15 v12,A1 4 3 0,K9 74 e14.Decls,(75,.c (I (List.length e14.Decls : Int))),I4 76]) (G2 := [K7 3 e14]) 63 (aI (bB (fun n s => ∃ v19,fP e14 j13 p0 v12 n v19 = some r ∧ s = mk [(13,.c (C4 p0.Rules)),(14,.c (I (List.length p0.Rules : Int))),A7 15 v12,H5,K9 74 e14.Decls,(75,.c (I (List.length e14.Decls : Int))),A7 76 v19] [K7 0 e14] 1) n _ (zv [(3,0)] [13,14,15,4,74,75,76] 1) ⟨_,h,rfl⟩ (fun s ⟨v19,h,_⟩ => nomatch h) ?_))))))
 rintro n s ⟨v19,h,rfl⟩
 rw [fP] at h
 refine za [4,13,14,15,74,75,76,77] (aM (zi h (fun h => ?_) fun h => ?_))
 refine aD (aM (aI (zx fun _ => bK h fun e20 he h => zd bL he (zk 3 (ze [4,6,13,14,15,74,75,76] (zx fun _ => zk 3 (bK h fun y21 he h => zc fok67 (yB n _ _ y21 he) (zk 1 (ze [4,7,13,14,15,74,75,76] (za [4,7,13,14,15,74,75,76,85] (zi h (fun h => ?_) fun h => ?_)))))))))))
 refine za [2] ?_
 cases h
 exact aG zr
 exact aD (aV (zb (dI zI (⟨_,h,rfl⟩))))
 exact aJ zI (bF (hj13 _ h))
 exact aJ zI (bF (hj1 _ h))
def qY (n : Nat) (p0 : Int) : Option Bool := some ((decide (p0 ≥ 0)) && (decide (p0 ≤ 16777215)))
theorem Ja (n : Nat) (p0 : Int) (r : Bool) (h : qY n p0 = some r) : dC E 68 0 [C7 p0] [] (D7 r) [] := by
 refine eO Tryz.func68 rfl ?_
 unfold qY at h
 refine za [0] (zx fun _ => zk 3 (zq (zq (zp (zk 1 (ze [2] ?_))))))
 cases h
 exact aG zr
def dX (e15 : fJ) (j14 : List (ByteArray × Bool) → Option Int) (v13 : List (ByteArray × Bool)) (p0 : bS) (v12 : Int) : Nat → Int → Option Int
 | 0,_ => none
 | n + 1,v19 => (if (decide (v19 < 4)) = true then (idx (gY.toL (gY.mk e15.Light e15.Dark e15.HighLight e15.HighDark)) v19).bind fun e20 => (gd [(e20 != (-1 : Int))] (qY n e20)).bind fun y21 => (if ((e20 != (-1 : Int)) && (!y21)) = true then some 1 else dX e15 j14 v13 p0 v12 n (w6 (v19 + 1))) else j14 (gS e15.Name true v13))
def fW (p0 : bS) (j1 : Unit → Option Int) : Nat → Int → List (ByteArray × Bool) → Option Int
 | 0,_,_ => none
 | n + 1,v12,v13 => (if (decide (v12 < (List.length p0.Tokens : Int))) = true then (aS (fun (v23 : List (ByteArray × Bool)) => fW p0 j1 n (w6 (v12 + 1)) v23) (fun (j14 : List (ByteArray × Bool) → Option Int) => (idx p0.Tokens v12).bind fun e15 => (eX n e15.Name).bind fun y16 => (if (!y16) = true then some 4 else (some (cZ e15.Name v13,iG e15.Name v13)).bind fun y17 => (if y17.1 = true then some 6 else dX e15 j14 v13 p0 v12 n 0)))) else j1 ())
def mN (n : Nat) (p0 : bS) : Option Int := (if (decide ((List.length p0.Tokens : Int) > 100)) = true then some 2 else (aS (fun (_ : Unit) => some 0) (fun (j1 : Unit → Option Int) => fW p0 j1 n 0 ([] : List (ByteArray × Bool)))))
theorem Cd (n : Nat) (p0 : bS) (r : Int) (h : mN n p0 = some r) : dC E 35 0 [O8 p0.Tokens] [] (C7 r) [] := by
 refine eO Tryz.func35 rfl ?_
 unfold mN at h
 refine za [1] (aM (zx fun _ => zk 2 (zl bC p0.Tokens (zk 1 (ze [1,11] (zi h (fun h => ?_) fun h => ?_))))))
 refine za [2] ?_
 cases h
 exact aG zr
 refine aD (za [1,3] (aR h (fun A j => ∀ u,j u = some r → A (M5)) (fun u h => ?_) (fun j1 Aj1 hj1 h => ?_)))
 refine za [2] ?_
 cases h
 exact aG zr
 refine zx fun _ => zk 2 (zl bC p0.Tokens (zk 1 (ze [3,14,15,16] (aI (bB (fun n s => ∃ v12 v13,fW p0 j1 n v12 v13 = some r ∧ s = mk [F1 3 0,(14,.c (F7 p0.Tokens)),(15,.c (I (List.length p0.Tokens : Int))),A7 16 v12] [(0,.map false (O2 v13))] 1) n _ (zv [(6,0)] [3,14,15,16] 1) ⟨_,_,h,rfl⟩ (fun s ⟨v12,v13,h,_⟩ => nomatch h) ?_)))))
 rintro n s ⟨v12,v13,h,rfl⟩
 rw [fW] at h
 refine za [3,14,15,16,17] (aM (zi h (fun h => ?_) fun h => ?_))
 refine aD (aR h (fun A j => ∀ v23,j v23 = some r → A (mk [F1 3 0,(14,.c (F7 p0.Tokens)),(15,.c (I (List.length p0.Tokens : Int))),A7 16 v12] [(0,.map false (O2 v23))] 1)) (fun v23 h => ?_) (fun j14 Aj14 hj14 h => ?_))
 exact aV (zb (dI zI (⟨_,_,h,rfl⟩)))
 refine aI (zx fun _ => bK h fun e15 he h => zd bC he (zk 3 (ze [3,5,14,15,16] (aM (aI (zx fun _ => zk 2 (bK h fun y16 he h => zc Hg (lO n _ y16 he) (zk 2 (ze [3,5,14,15,16,20] (zi h (fun h => ?_) fun h => ?_))))))))))
 refine za [2] ?_
 cases h
 exact aG zr
 refine zx fun _ => zk 3 (bK h fun y17 he h => zw (v := .c (Bo y17.1)) [0] (cW (kf := Value.string) (enc := eB) (l := v13) (k := e15.Name) (ok := false) (kk := .str) (j := ⟨.boo,1,1,[.bool false]⟩) (p := y17) (v := .c (Bo y17.1)) he (by kernel_rfl) Ol (by kernel_rfl) (by kernel_rfl) (by kernel_rfl)) (zk 1 (ze [3,5,14,15,16,25] (zi h (fun h => ?_) fun h => ?_))))
 refine za [2] ?_
 cases h
 exact aG zr
 refine aD (zx fun _ => zk 3 (kT (kf := Value.string) (enc := eB) (l := v13) (k := e15.Name) (v := true) (n := 0) (ag := false) (kk := .str) (by kernel_rfl) Ol (by kernel_rfl) (by kernel_rfl) rfl rfl (kS [3,5,14,15,16] (L2 := [F1 3 0,(14,.c (F7 p0.Tokens)),(15,.c (I (List.length p0.Tokens : Int))),A7 16 v12,A1 5 4 0]) (G2 := [(0,.map false (O2 (gS e15.Name true v13))),(4,I0 e15)]) 20 (za [3,14,15,16,41,42] (aI (bB (fun n s => ∃ v19,dX e15 j14 v13 p0 v12 n v19 = some r ∧ s = mk [F1 3 0,(14,.c (F7 p0.Tokens)),(15,.c (I (List.length p0.Tokens : Int))),A7 16 v12,(41,.agg [I e15.Light,I e15.Dark,I e15.HighLight,I e15.HighDark]),A7 42 v19] [(0,.map false (O2 (gS e15.Name true v13)))] 1) n _ zI ⟨_,h,rfl⟩ (fun s ⟨v19,h,_⟩ => nomatch h) ?_))))))
 rintro n s ⟨v19,h,rfl⟩
 rw [dX] at h
 refine za [3,14,15,16,41,42,43] (aM (zi h (fun h => ?_) fun h => ?_))
 refine aD (aM (aI (zx fun _ => bK h fun e20 he h => cY (v := .c (I e20)) (foot := []) (yN (enc := aL) (xs := (gY.toL (gY.mk e15.Light e15.Dark e15.HighLight e15.HighDark))) (ix := v19) (e := e20) (len := 4) (j := ⟨.int .i64,1,8,[.int .i64 0]⟩) (v := .c (I e20)) he (by kernel_rfl) (by kernel_rfl) (fun x => by kernel_rfl) (by decide) (by kernel_rfl)) (by kernel_rfl) rfl rfl (zk 1 (ze [3,7,14,15,16,41,42] (zx fun _ => zk 3 (zq (bK h fun y21 he h => yW [(e20 != (-1 : Int))] fok68 (fun hg => Ja n _ y21 (bQ he hg)) (zq (zp (ze [3,14,15,16,41,42,51] (zi h (fun h => ?_) fun h => ?_))))))))))))
 refine za [2] ?_
 cases h
 exact aG zr
 exact aD (aV (zb (dI zI (⟨_,h,rfl⟩))))
 exact aJ zI (bF (hj14 _ h))
 exact aJ zI (bF (hj1 _ h))
def gX (y2 : (aU × Bool)) (self_view_preorder : (List (Int × aU)) → Int → Option (List Int)) (p0 : (List (Int × aU))) (j1 : List Int → Option (List Int)) : Nat → List Int → Int → Option (List Int)
 | 0,_,_ => none
 | n + 1,v6,v7 => (if (decide (v7 < (List.length y2.1.Kids : Int))) = true then (idx y2.1.Kids v7).bind fun e8 => (self_view_preorder p0 e8).bind fun y9 => (pA 8 v6 y9).bind fun l10 => gX y2 self_view_preorder p0 j1 n l10 (w6 (v7 + 1)) else j1 v6)
def lN (self_view_preorder : (List (Int × aU)) → Int → Option (List Int)) (n : Nat) (p0 : (List (Int × aU))) (p1 : Int) : Option (List Int) := (aS (fun (v13 : List Int) => some v13) (fun (j1 : List Int → Option (List Int)) => (some (cZ p1 p0,iG p1 p0)).bind fun y2 => gX y2 self_view_preorder p0 j1 n [p1] 0))
theorem wU (self_view_preorder : (M3) → Int → Option (K4)) (ih_view_preorder : ∀ (p0 : (M3)) (p1 : Int) (r : (K4)),self_view_preorder p0 p1 = some r → dC E 74 0 [O4 p0,C7 p1] [] (.c (C2 r)) []) (n : Nat) (p0 : (M3)) (p1 : Int) (r : (K4)) (h : lN self_view_preorder n p0 p1 = some r) : dC E 74 0 [O4 p0,C7 p1] [] (.c (C2 r)) [] := by
 refine eO Tryz.func74 rfl ?_
 unfold lN at h
 refine za [0,1] (za [0,1,5] (aR h (fun A j => ∀ v13,j v13 = some r → A (mk [(5,G3 0 v13)] [C1 0 3 1 v13] 1)) (fun v13 h => ?_) (fun j1 Aj1 hj1 h => ?_)))
 refine za [4] ?_
 cases h
 exact aG zr
 refine zx fun _ => zk 2 (bK h fun y2 he h => zw (v := .agg [I y2.1.ID,I y2.1.Parent,I y2.1.Kind,Sx y2.1.Key,C5 y2.1.Attrs,C6 y2.1.Actions,C2 y2.1.Kids]) [] (cW (kf := (B6)) (enc := aE) (l := p0) (k := p1) (ok := false) (kk := .int .i64) (j := ⟨.st [(3,0,1),(3,1,1),(3,2,1),(9,3,1),(55,4,1),(56,5,1),(22,6,1)],7,112,[.int .i64 0,.int .i64 0,.int .i64 0,.string ⟨#[]⟩,.slice none 0 0,.slice none 0 0,.slice none 0 0]⟩) (p := y2) (v := .agg [I y2.1.ID,I y2.1.Parent,I y2.1.Kind,Sx y2.1.Key,C5 y2.1.Attrs,C6 y2.1.Actions,C2 y2.1.Kids]) he (by kernel_rfl) eQ (by kernel_rfl) (by kernel_rfl) (by kernel_rfl)) (zk 1 (zl aL y2.1.Kids (zk 1 (ze [0,5,13,14,15] (aI (bB (fun n s => ∃ v6 v7,gX y2 self_view_preorder p0 j1 n v6 v7 = some r ∧ s = mk [(0,O4 p0),(5,G3 0 v6),F8 13 y2.1.Kids,(14,.c (I (List.length y2.1.Kids : Int))),A7 15 v7] [C1 0 3 1 v6] 1) n _ (zv [(2,0)] [0,5,13,14,15] 1) ⟨_,_,h,rfl⟩ (fun s ⟨v6,v7,h,_⟩ => nomatch h) ?_)))))))
 rintro n s ⟨v6,v7,h,rfl⟩
 rw [gX] at h
 refine za [0,5,13,14,15,16] (aM (zi h (fun h => ?_) fun h => ?_))
 exact aD (aM (aI (zx fun _ => bK h fun e8 he h => zd aL he (zk 2 (ze [0,5,7,13,14,15] (zy fun _ => zk 3 (bK h fun y9 he h => zc fok74 (ih_view_preorder _ _ y9 he) (bK h fun l10 he h => cI (enc := aL) (l := v6) (els := y9) (r := l10) (old := some 0) (e := 3) (sz := 1) (bytes := 8) (k := (H6 v6)) (nm := 9) he (by kernel_rfl) (by kernel_rfl) (fun x => by kernel_rfl) (by kernel_rfl) (by kernel_rfl) rfl rfl rfl (zk 1 (bT (aV (zb (dI (zv [(9,0)] [0,5,13,14,15] 1) (⟨_,_,h,rfl⟩))))))))))))))
 exact aJ zI (bF (hj1 _ h))
def fN : Nat → (List (Int × aU)) → Int → Option (List Int)
 | 0,_,_ => none
 | n + 1,p0,p1 => lN (fun a0 a1 => fN n a0 a1) n p0 p1
theorem uP (n : Nat) : (∀ (p0 : (M3)) (p1 : Int) (r : (K4)),fN n p0 p1 = some r → dC E 74 0 [O4 p0,C7 p1] [] (.c (C2 r)) []) := by
 induction n with
 | zero => intro p0 p1 r h; rw [fN] at h; cases h
 | succ n ih => intro p0 p1 r h; rw [fN] at h; exact wU _ ih n _ _ r h
def kD (e29 : aU) (v10 : List (Int × aU)) (j28 : List (Int × Bool) → Option ((List (Int × aU)) × Bool)) (p0 : bA) (v26 : Int) : Nat → Int → List (Int × Bool) → Option ((List (Int × aU)) × Bool)
 | 0,_,_ => none
 | n + 1,v33,v34 => (if (decide (v33 < (List.length e29.Kids : Int))) = true then (idx e29.Kids v33).bind fun e35 => (some (cZ e35 v10,iG e35 v10)).bind fun y36 => (gd [(!((!y36.2) || (y36.1.Parent != e29.ID)))] (some (cZ e35 v34,iG e35 v34))).bind fun y37 => (if (((!y36.2) || (y36.1.Parent != e29.ID)) || y37.1) = true then some (([] : List (Int × aU)),false) else kD e29 v10 j28 p0 v26 n (w6 (v33 + 1)) (gS e35 true v34)) else j28 v34)
def iY (p0 : bA) (v10 : List (Int × aU)) (j12 : List (Int × Bool) → Option ((List (Int × aU)) × Bool)) : Nat → Int → List (Int × Bool) → Option ((List (Int × aU)) × Bool)
 | 0,_,_ => none
 | n + 1,v26,v27 => (if (decide (v26 < (List.length p0.Nodes : Int))) = true then (aS (fun (v40 : List (Int × Bool)) => iY p0 v10 j12 n (w6 (v26 + 1)) v40) (fun (j28 : List (Int × Bool) → Option ((List (Int × aU)) × Bool)) => (idx p0.Nodes v26).bind fun e29 => kD e29 v10 j28 p0 v26 n 0 v27)) else j12 v27)
def kG (p0 : bA) (j1 : List (Int × aU) → Option ((List (Int × aU)) × Bool)) : Nat → Int → Int → List (Int × aU) → Option ((List (Int × aU)) × Bool)
 | 0,_,_,_ => none
 | n + 1,v3,v4,v5 => (if (decide (v4 < (List.length p0.Nodes : Int))) = true then (idx p0.Nodes v4).bind fun e6 => (if (((decide (e6.ID ≤ v3)) || (decide (e6.ID ≥ p0.Next))) || ((e6.Parent == 0) != (e6.ID == p0.Root))) = true then some (([] : List (Int × aU)),false) else kG p0 j1 n e6.ID (w6 (v4 + 1)) (gS e6.ID e6 v5)) else j1 v5)
def sX (n : Nat) (p0 : bA) : Option ((List (Int × aU)) × Bool) := (if ((((decide (p0.Next < 2)) || (decide (p0.Next > 1099511627776))) || (decide ((List.length p0.Nodes : Int) < 1))) || (decide ((List.length p0.Nodes : Int) > 400))) = true then some (([] : List (Int × aU)),false) else (aS (fun (v10 : List (Int × aU)) => (some (cZ p0.Root v10,iG p0.Root v10)).bind fun y11 => (if (!y11.2) = true then some (([] : List (Int × aU)),false) else (aS (fun (v43 : List (Int × Bool)) => (if ((List.length v43 : Int) != (List.length v10 : Int)) = true then some (([] : List (Int × aU)),false) else (fN n v10 p0.Root).bind fun y44 => some (v10,((List.length y44 : Int) == (List.length v10 : Int))))) (fun (j12 : List (Int × Bool) → Option ((List (Int × aU)) × Bool)) => iY p0 v10 j12 n 0 (gS p0.Root true ([] : List (Int × Bool))))))) (fun (j1 : List (Int × aU) → Option ((List (Int × aU)) × Bool)) => kG p0 j1 n 0 0 ([] : List (Int × aU)))))
theorem Kn (n : Nat) (p0 : bA) (r : ((M3) × Bool)) (h : sX n p0 = some r) : dC E 93 0 [B5 p0] [] (.tup [O4 r.1,D7 r.2]) [] := by
 refine eO Tryz.func93 rfl ?_
 unfold sX at h
 refine za [1] (aM (zx fun _ => zk 4 (zq (zq (zq (zp (zk 1 (zq (zq (kX (e := [!(Q8 p0.Next)]) [(27,P1 p0.Nodes,some 1)] (v := .c (I (List.length p0.Nodes : Int))) (foot := []) (by kernel_rfl) (by kernel_rfl) (by kernel_rfl) (fun hg => mO (enc := aE) (l := p0.Nodes) (by kernel_rfl)) rfl rfl (zq (zp (zk 1 (zq (zq (kX (e := [(!((Q8 p0.Next) || (decide ((List.length p0.Nodes : Int) < 1))))]) [(33,P1 p0.Nodes,some 1)] (v := .c (I (List.length p0.Nodes : Int))) (foot := []) (by kernel_rfl) (by kernel_rfl) (by kernel_rfl) (fun hg => mO (enc := aE) (l := p0.Nodes) (by kernel_rfl)) rfl rfl (zq (zp (kS [1,36] (L2 := [H9,(36,.c (Bo (((Q8 p0.Next) || (decide ((List.length p0.Nodes : Int) < 1))) || (decide ((List.length p0.Nodes : Int) > 400)))))]) (G2 := [G4 0 p0]) 23 (zi h (fun h => ?_) fun h => ?_))))))))))))))))))))
 refine za [2,3] (aJ (rY 2 true (L2 := [(2,.c (.lmap true (List.map (eM (B6) aE) ([] : List (Int × aU))))),M0 3]) (by kernel_rfl) (by kernel_rfl)) ?_)
 cases h
 exact aG zr
 refine aD (za [1,4] (za [1,4,5] (aR h (fun A j => ∀ v10,j v10 = some r → A (mk [H9,F1 4 1] [G4 0 p0,(1,.map true (I7 v10))] 2)) (fun v10 h => ?_) (fun j1 Aj1 hj1 h => ?_))))
 refine aM (zx fun _ => zk 3 (bK h fun y11 he h => zw (v := .tup [B2 y11.1,D7 y11.2]) [1] (cW (kf := (B6)) (enc := aE) (l := v10) (k := p0.Root) (ok := true) (kk := .int .i64) (j := ⟨.st [(3,0,1),(3,1,1),(3,2,1),(9,3,1),(55,4,1),(56,5,1),(22,6,1)],7,112,[.int .i64 0,.int .i64 0,.int .i64 0,.string ⟨#[]⟩,.slice none 0 0,.slice none 0 0,.slice none 0 0]⟩) (p := y11) (v := .agg [I y11.1.ID,I y11.1.Parent,I y11.1.Kind,Sx y11.1.Key,C5 y11.1.Attrs,C6 y11.1.Actions,C2 y11.1.Kids]) he (by kernel_rfl) eQ (by kernel_rfl) (by kernel_rfl) (by kernel_rfl)) (zk 6 (ze [1,4,9] (za [1,4,82] (zi h (fun h => ?_) fun h => ?_))))))
 refine za [2,3] (aJ (rY 2 true (L2 := [(2,.c (.lmap true (List.map (eM (B6) aE) ([] : List (Int × aU))))),M0 3]) (by kernel_rfl) (by kernel_rfl)) ?_)
 cases h
 exact aG zr
 refine aD (zx fun _ => zk 3 (kT (kf := (B6)) (enc := eB) (l := ([] : List (Int × Bool))) (k := p0.Root) (v := true) (n := 14) (ag := false) (kk := .int .i64) (by kernel_rfl) eQ (by kernel_rfl) (by kernel_rfl) rfl rfl (zk 2 (ze [1,4,10] (aR h (fun A j => ∀ v43,j v43 = some r → A (mk [H9,F1 4 1,F1 10 2] [G4 0 p0,(1,.map true (I7 v10)),(2,.map false (G6 v43))] 3)) (fun v43 h => ?_) (fun j12 Aj12 hj12 h => ?_))))))
 refine aM (zx fun _ => zk 1 (zw (v := .c (I (List.length v43 : Int))) [2] (Jk (B6) eB v43 (by kernel_rfl)) (zk 1 (zw (v := .c (I (List.length v10 : Int))) [1] (Jk (B6) aE v10 (by kernel_rfl)) (zk 1 (ze [1,4,129] (zi h (fun h => ?_) fun h => ?_)))))))
 refine za [2,3] (aJ (rY 2 true (L2 := [(2,.c (.lmap true (List.map (eM (B6) aE) ([] : List (Int × aU))))),M0 3]) (by kernel_rfl) (by kernel_rfl)) ?_)
 cases h
 exact aG zr
 refine aD (aJ (uM 1 (ag := true) (l := List.map (eM (B6) aE) v10) (L2 := [H9,(4,O4 v10),(129,.c (Bo ((List.length v43 : Int) != (List.length v10 : Int))))]) (G2 := [G4 0 p0,(2,.map false (G6 v43))]) (by kernel_rfl) (by kernel_rfl) (by kernel_rfl)) (zx fun _ => zk 4 (bK h fun y44 he h => zc fok74 (uP n _ _ y44 he) (zl aL y44 (zk 1 (zw (v := .c (I (List.length v10 : Int))) [] (Jk (B6) aE v10 (by kernel_rfl)) (zk 3 (kS [2,3] (L2 := [(2,O4 v10),(3,.c (Bo ((List.length y44 : Int) == (List.length v10 : Int))))]) (G2 := [G4 0 p0,(2,.map false (G6 v43))]) 19 ?_))))))))
 cases h
 exact aG zr
 refine zx fun _ => zk 2 (zl aE p0.Nodes (zk 1 (kS [1,4,10,88,89,90] (L2 := [H9,F1 4 1,F1 10 14,(88,P1 p0.Nodes),(89,.c (I (List.length p0.Nodes : Int))),I4 90]) (G2 := [G4 0 p0,(1,.map true (I7 v10)),K3 9 y11.1,(14,.map false (List.map (eM (B6) eB) (gS p0.Root true ([] : List (Int × Bool)))))]) 24 (aI (bB (fun n s => ∃ v26 v27,iY p0 v10 j12 n v26 v27 = some r ∧ s = mk [H9,F1 4 1,F1 10 2,(88,P1 p0.Nodes),(89,.c (I (List.length p0.Nodes : Int))),A7 90 v26] [G4 0 p0,(1,.map true (I7 v10)),(2,.map false (G6 v27))] 3) n _ (zv [(0,0),(1,1),(14,2)] [1,4,10,88,89,90] 3) ⟨_,_,h,rfl⟩ (fun s ⟨v26,v27,h,_⟩ => nomatch h) ?_)))))
 rintro n s ⟨v26,v27,h,rfl⟩
 rw [iY] at h
 refine za [1,4,10,88,89,90,91] (aM (zi h (fun h => ?_) fun h => ?_))
 refine aD (aR h (fun A j => ∀ v40,j v40 = some r → A (mk [H9,F1 4 1,F1 10 2,(88,P1 p0.Nodes),(89,.c (I (List.length p0.Nodes : Int))),A7 90 v26] [G4 0 p0,(1,.map true (I7 v10)),(2,.map false (G6 v40))] 3)) (fun v40 h => ?_) (fun j28 Aj28 hj28 h => ?_))
 exact aV (zb (dI zI (⟨_,_,h,rfl⟩)))
 refine aI (zx fun _ => bK h fun e29 he h => zd aE he (zk 3 (ze [1,4,10,12,88,89,90] (zx fun _ => zk 2 (zl aL e29.Kids (zk 1 (ze [1,4,10,12,88,89,90,95,96,97] (aI (bB (fun n s => ∃ v33 v34,kD e29 v10 j28 p0 v26 n v33 v34 = some r ∧ s = mk [H9,F1 4 1,F1 10 2,(88,P1 p0.Nodes),(89,.c (I (List.length p0.Nodes : Int))),A7 90 v26,A1 12 3 0,F8 95 e29.Kids,(96,.c (I (List.length e29.Kids : Int))),A7 97 v33] [G4 0 p0,(1,.map true (I7 v10)),(2,.map false (G6 v34)),K3 3 e29] 4) n _ (zv [(0,0),(1,1),(2,2),(6,3)] [1,4,10,88,89,90,12,95,96,97] 4) ⟨_,_,h,rfl⟩ (fun s ⟨v33,v34,h,_⟩ => nomatch h) ?_)))))))))
 rintro n s ⟨v33,v34,h,rfl⟩
 rw [kD] at h
 refine za [1,4,10,12,88,89,90,95,96,97,98] (aM (zi h (fun h => ?_) fun h => ?_))
 refine aD (aM (aI (zx fun _ => bK h fun e35 he h => zd aL he (zk 2 (ze [1,4,10,12,14,88,89,90,95,96,97] (aM (zx fun _ => zk 2 (bK h fun y36 he h => zw (v := .tup [B2 y36.1,D7 y36.2]) [1] (cW (kf := (B6)) (enc := aE) (l := v10) (k := e35) (ok := true) (kk := .int .i64) (j := ⟨.st [(3,0,1),(3,1,1),(3,2,1),(9,3,1),(55,4,1),(56,5,1),(22,6,1)],7,112,[.int .i64 0,.int .i64 0,.int .i64 0,.string ⟨#[]⟩,.slice none 0 0,.slice none 0 0,.slice none 0 0]⟩) (p := y36) (v := .agg [I y36.1.ID,I y36.1.Parent,I y36.1.Kind,Sx y36.1.Key,C5 y36.1.Attrs,C6 y36.1.Actions,C2 y36.1.Kids]) he (by kernel_rfl) eQ (by kernel_rfl) (by kernel_rfl) (by kernel_rfl)) (zk 6 (ze [1,4,10,12,14,15,16,88,89,90,95,96,97] (zx fun _ => zk 3 (zq (zq (zq (zq (zq (zp (zk 1 (zq (zq (bK h fun y37 he h => wH (e := [!((!y36.2) || (y36.1.Parent != e29.ID))]) [(117,.c (.mapr 2),some 1),(118,C7 e35,some 1)] (v := .c (Bo y37.1)) (foot := [2]) (by kernel_rfl) (by kernel_rfl) (by kernel_rfl) (fun hg => cW (kf := (B6)) (enc := eB) (l := v34) (k := e35) (ok := false) (kk := .int .i64) (j := ⟨.boo,1,1,[.bool false]⟩) (p := y37) (v := .c (Bo y37.1)) (bQ he hg) (by kernel_rfl) eQ (by kernel_rfl) (by kernel_rfl) (by kernel_rfl)) rfl rfl (zp (kS [1,4,10,12,14,88,89,90,95,96,97,120] (L2 := [H9,F1 4 1,F1 10 2,(88,P1 p0.Nodes),(89,.c (I (List.length p0.Nodes : Int))),A7 90 v26,A1 12 3 0,F8 95 e29.Kids,(96,.c (I (List.length e29.Kids : Int))),A7 97 v33,A7 14 e35,B4 120 (((!y36.2) || (y36.1.Parent != e29.ID)) || y37.1)]) (G2 := [G4 0 p0,(1,.map true (I7 v10)),(2,.map false (G6 v34)),K3 3 e29,K3 14 y36.1]) 31 (zi h (fun h => ?_) fun h => ?_))))))))))))))))))))))))
 refine za [2,3] (aJ (rY 2 true (L2 := [(2,.c (.lmap true (List.map (eM (B6) aE) ([] : List (Int × aU))))),M0 3]) (by kernel_rfl) (by kernel_rfl)) ?_)
 cases h
 exact aG zr
 exact aD (zy fun _ => zk 2 (kT (kf := (B6)) (enc := eB) (l := v34) (k := e35) (v := true) (n := 2) (ag := false) (kk := .int .i64) (by kernel_rfl) eQ (by kernel_rfl) (by kernel_rfl) rfl rfl (bT (aV (zb (dI zI (⟨_,_,h,rfl⟩)))))))
 exact aJ zI (bF (hj28 _ h))
 exact aJ zI (bF (hj12 _ h))
 refine zx fun _ => zk 2 (zl aE p0.Nodes (zk 1 (ze [1,4,5,39,40,41] (aI (bB (fun n s => ∃ v3 v4 v5,kG p0 j1 n v3 v4 v5 = some r ∧ s = mk [H9,F1 4 1,A7 5 v3,(39,P1 p0.Nodes),(40,.c (I (List.length p0.Nodes : Int))),A7 41 v4] [G4 0 p0,(1,.map true (I7 v5))] 2) n _ (zv [(0,0),(23,1)] [1,4,5,39,40,41] 2) ⟨_,_,_,h,rfl⟩ (fun s ⟨v3,v4,v5,h,_⟩ => nomatch h) ?_)))))
 rintro n s ⟨v3,v4,v5,h,rfl⟩
 rw [kG] at h
 refine za [1,4,5,39,40,41,42] (aM (zi h (fun h => ?_) fun h => ?_))
 refine aD (aM (aI (zx fun _ => bK h fun e6 he h => zd aE he (zk 3 (ze [1,4,5,7,39,40,41] (aM (zx fun _ => zk 5 (zq (zq (zq (zq (zq (zp (zk 1 (zq (zq (zq (zq (zq (zq (zq (zq (zq (zp (kS [1,4,7,39,40,41,66] (L2 := [H9,F1 4 1,(39,P1 p0.Nodes),(40,.c (I (List.length p0.Nodes : Int))),A7 41 v4,A1 7 5 0,B4 66 (((Q0 e6.ID v3) || (P9 e6.ID p0.Next)) || ((e6.Parent == 0) != (e6.ID == p0.Root)))]) (G2 := [G4 0 p0,(1,.map true (I7 v5)),K3 5 e6]) 29 (zi h (fun h => ?_) fun h => ?_))))))))))))))))))))))))))
 refine za [2,3] (aJ (rY 2 true (L2 := [(2,.c (.lmap true (List.map (eM (B6) aE) ([] : List (Int × aU))))),M0 3]) (by kernel_rfl) (by kernel_rfl)) ?_)
 cases h
 exact aG zr
 exact aD (za [1,4,5,7,39,40,41] (zy fun _ => zk 4 (kT (kf := (B6)) (enc := aE) (l := v5) (k := e6.ID) (v := e6) (n := 1) (ag := true) (kk := .int .i64) (by kernel_rfl) eQ (by kernel_rfl) (by kernel_rfl) rfl rfl (bT (aV (zb (dI zI (⟨_,_,_,h,rfl⟩))))))))
 exact aJ zI (bF (hj1 _ h))
def fU (y1 : (aU × Bool)) (self_view_described : (List (Int × aU)) → Int → Option aN) (p0 : (List (Int × aU))) (j2 : List aN → Option aN) : Nat → Int → List aN → Option aN
 | 0,_,_ => none
 | n + 1,v7,v8 => (if (decide (v7 < (List.length y1.1.Kids : Int))) = true then (idx y1.1.Kids v7).bind fun e9 => (self_view_described p0 e9).bind fun y10 => (pA 96 v8 [y10]).bind fun l11 => fU y1 self_view_described p0 j2 n (w6 (v7 + 1)) l11 else j2 v8)
def kQ (self_view_described : (List (Int × aU)) → Int → Option aN) (n : Nat) (p0 : (List (Int × aU))) (p1 : Int) : Option aN := (some (cZ p1 p0,iG p1 p0)).bind fun y1 => (aS (fun (v15 : List aN) => some (aN.mk y1.1.Kind y1.1.Key y1.1.Attrs y1.1.Actions v15)) (fun (j2 : List aN → Option aN) => fU y1 self_view_described p0 j2 n 0 ([] : List aN)))
theorem wB (self_view_described : (M3) → Int → Option aN) (ih_view_described : ∀ (p0 : (M3)) (p1 : Int) (r : aN),self_view_described p0 p1 = some r → dC E 94 0 [O4 p0,C7 p1] [] (A9 r) []) (n : Nat) (p0 : (M3)) (p1 : Int) (r : aN) (h : kQ self_view_described n p0 p1 = some r) : dC E 94 0 [O4 p0,C7 p1] [] (A9 r) [] := by
 refine eO Tryz.func94 rfl ?_
 unfold kQ at h
 refine za [0,1,4] (zx fun _ => zk 2 (bK h fun y1 he h => zw (v := .agg [I y1.1.ID,I y1.1.Parent,I y1.1.Kind,Sx y1.1.Key,C5 y1.1.Attrs,C6 y1.1.Actions,C2 y1.1.Kids]) [] (cW (kf := (B6)) (enc := aE) (l := p0) (k := p1) (ok := false) (kk := .int .i64) (j := ⟨.st [(3,0,1),(3,1,1),(3,2,1),(9,3,1),(55,4,1),(56,5,1),(22,6,1)],7,112,[.int .i64 0,.int .i64 0,.int .i64 0,.string ⟨#[]⟩,.slice none 0 0,.slice none 0 0,.slice none 0 0]⟩) (p := y1) (v := .agg [I y1.1.ID,I y1.1.Parent,I y1.1.Kind,Sx y1.1.Key,C5 y1.1.Attrs,C6 y1.1.Actions,C2 y1.1.Kids]) he (by kernel_rfl) eQ (by kernel_rfl) (by kernel_rfl) (by kernel_rfl)) (zk 2 (ze [0,4,5] (za [0,4,5,6] (aR h (fun A j => ∀ v15,j v15 = some r → A (mk [H5,J0] [(0,E3),R3 1 70 y1.1.Kind y1.1.Key y1.1.Attrs y1.1.Actions 2 v15,C1 2 70 5 v15] 3)) (fun v15 h => ?_) (fun j2 Aj2 hj2 h => ?_)))))))
 refine za [4] ?_
 cases h
 exact aG zr
 refine zx fun _ => zk 2 (zl aL y1.1.Kids (zk 1 (ze [0,4,6,22,23,24] (aI (bB (fun n s => ∃ v7 v8,fU y1 self_view_described p0 j2 n v7 v8 = some r ∧ s = mk [(0,O4 p0),H5,J0,F8 22 y1.1.Kids,(23,.c (I (List.length y1.1.Kids : Int))),A7 24 v7] [(0,E3),R3 1 70 y1.1.Kind y1.1.Key y1.1.Attrs y1.1.Actions 2 v8,C1 2 70 5 v8] 3) n _ (dZ.trans (lZ (n := 15) (T0 := 70) (l := [I y1.1.Kind,Sx y1.1.Key,C5 y1.1.Attrs,C6 y1.1.Actions,bV]) (G2 := [(0,E3),K3 4 y1.1,(15,.blk 70 [I y1.1.Kind,Sx y1.1.Key,C5 y1.1.Attrs,C6 y1.1.Actions,.app 21 (List.map aQ ([] : List aN))]),(21,.tok 70 5 (List.length ([] : List aN)))]) (lim2 := 22) 4 70 5 (by kernel_rfl) (by kernel_rfl) (by kernel_rfl) (by kernel_rfl)) (zv [(0,0),(15,1),(21,2)] [0,4,6,22,23,24] 3)) ⟨_,_,h,rfl⟩ (fun s ⟨v7,v8,h,_⟩ => nomatch h) ?_)))))
 rintro n s ⟨v7,v8,h,rfl⟩
 rw [fU] at h
 refine za [0,4,6,22,23,24,25] (aM (zi h (fun h => ?_) fun h => ?_))
 exact aD (aM (aI (zx fun _ => bK h fun e9 he h => zd aL he (zk 2 (ze [0,4,6,8,22,23,24] (Ov [[],[0],[],[],[2,3],[4,2,3],[1,5,4,0,2,3],[0,1,2,3,4,5,6],[7,6,0,1,2,3,4,5]] fun _ => zk 4 (bK h fun y10 he h => zc fok94 (ih_view_described _ _ y10 he) (rF (e := 70) (sz := 5) (len := 1) (r := [I y10.Kind,Sx y10.Key,C5 y10.Attrs,C6 y10.Actions,E6 y10.Kids]) (l' := List.map aQ [y10]) (nm := 12) (by kernel_rfl) (by simp only [List.map_cons,List.map_nil,cB]; kernel_rfl) (by kernel_rfl) (by kernel_rfl) rfl rfl rfl (bK h fun l11 he h => cI (enc := aQ) (l := v8) (els := [y10]) (r := l11) (old := some 2) (e := 70) (sz := 5) (bytes := 96) (k := (H6 v8)) (nm := 13) he (by kernel_rfl) (by kernel_rfl) (fun x => by rw [cB]; rfl) (by kernel_rfl) (by kernel_rfl) rfl rfl rfl (zk 2 (bT (aV (zb (dI (zv [(0,0),(1,1),(13,2)] [0,4,6,22,23,24] 3) (⟨_,_,h,rfl⟩)))))))))))))))
 exact aJ zI (bF (hj2 _ h))
def iB : Nat → (List (Int × aU)) → Int → Option aN
 | 0,_,_ => none
 | n + 1,p0,p1 => kQ (fun a0 a1 => iB n a0 a1) n p0 p1
theorem Bi (n : Nat) : (∀ (p0 : (M3)) (p1 : Int) (r : aN),iB n p0 p1 = some r → dC E 94 0 [O4 p0,C7 p1] [] (A9 r) []) := by
 induction n with
 | zero => intro p0 p1 r h; rw [iB] at h; cases h
 | succ n ih => intro p0 p1 r h; rw [iB] at h; exact wB _ ih n _ _ r h
end Go.Proofs.YtojkihhnioeggaaGreatDoor.S
