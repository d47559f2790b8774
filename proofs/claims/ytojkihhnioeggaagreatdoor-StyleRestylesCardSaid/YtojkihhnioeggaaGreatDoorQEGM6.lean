import Derived.Test.YtojkihhnioeggaaGreatDoorQEGM5
set_option linter.all false
set_option maxRecDepth 100000
set_option maxHeartbeats 4000000
namespace Go.Proofs.YtojkihhnioeggaaGreatDoor.S
open Go Go.Bm
def gT (p0 : aN) (self_view_validate : aN → Int → Int → Option (Int × Int)) (p1 : Int) (j13 : Int → Option (Int × Int)) : Nat → Int → Int → Option (Int × Int)
 | 0,_,_ => none
 | n + 1,v16,v17 => (if (decide (v16 < (List.length p0.Kids : Int))) = true then (idx p0.Kids v16).bind fun e18 => (self_view_validate e18 (w6 (p1 + 1)) v17).bind fun y19 => (if (y19.1 != 0) = true then some (y19.1,y19.2) else gT p0 self_view_validate p1 j13 n (w6 (v16 + 1)) y19.2) else j13 v17)
def gQ (p0 : aN) (p2 : Int) (j4 : Unit → Option (Int × Int)) (p1 : Int) : Nat → Int → List (ByteArray × Bool) → Option (Int × Int)
 | 0,_,_ => none
 | n + 1,v7,v8 => (if (decide (v7 < (List.length p0.Kids : Int))) = true then (idx p0.Kids v7).bind fun e9 => (gd [(!(bP e9.Key nB))] (some (cZ e9.Key v8,iG e9.Key v8))).bind fun y10 => (if ((!(bP e9.Key nB)) && y10.1) = true then some (6,(w6 (p2 + 1))) else gQ p0 p2 j4 p1 n (w6 (v7 + 1)) (gS e9.Key true v8)) else j4 ())
def lM (self_view_validate : aN → Int → Int → Option (Int × Int)) (n : Nat) (p0 : aN) (p1 : Int) (p2 : Int) : Option (Int × Int) := (if (decide (p1 > 16)) = true then some (8,(w6 (p2 + 1))) else (if (decide ((w6 (p2 + 1)) > 400)) = true then some (2,(w6 (p2 + 1))) else (if ((decide (p0.Kind < 1)) || (decide (p0.Kind > 13))) = true then some (9,(w6 (p2 + 1))) else (Bb n p0.Key).bind fun y1 => (if (!y1) = true then some (4,(w6 (p2 + 1))) else (if (((decide ((List.length p0.Attrs : Int) > 24)) || (decide ((List.length p0.Actions : Int) > 24))) || (decide ((List.length p0.Kids : Int) > 100))) = true then some (2,(w6 (p2 + 1))) else (oA n p0.Attrs).bind fun y2 => (if (y2 != 0) = true then some (y2,(w6 (p2 + 1))) else (oY n p0.Actions).bind fun y3 => (if (y3 != 0) = true then some (y3,(w6 (p2 + 1))) else (aS (fun (_ : Unit) => (aS (fun (v22 : Int) => some (0,v22)) (fun (j13 : Int → Option (Int × Int)) => gT p0 self_view_validate p1 j13 n 0 (w6 (p2 + 1))))) (fun (j4 : Unit → Option (Int × Int)) => gQ p0 p2 j4 p1 n 0 ([] : List (ByteArray × Bool)))))))))))
theorem wV (self_view_validate : aN → Int → Int → Option (O3)) (ih_view_validate : ∀ (p0 : aN) (p1 : Int) (p2 : Int) (r : (O3)),self_view_validate p0 p1 p2 = some r → dC E 115 1 [A9 p0,C7 p1,D6 0 0] [H0 p2] (C7 r.1) [H0 r.2]) (n : Nat) (p0 : aN) (p1 : Int) (p2 : Int) (r : (O3)) (h : lM self_view_validate n p0 p1 p2 = some r) : dC E 115 1 [A9 p0,C7 p1,D6 0 0] [H0 p2] (C7 r.1) [H0 r.2] := by
 refine eO Tryz.func115 rfl ?_
 unfold lM at h
 refine za [1,2,3] (za [1,2,3] (aM (aI (za [1,2,3,20] (zi h (fun h => ?_) fun h => ?_)))))
 refine za [6] ?_
 cases h
 exact aG zr
 refine za [1,2,3,23] (zi h (fun h => ?_) fun h => ?_)
 refine za [6] ?_
 cases h
 exact aG zr
 refine zx fun _ => zk 4 (zq (zq (zq (zp (zk 1 (kS [1,2,3,28] (L2 := [A7 1 p1,J2,N0,B4 28 (B0 p0.Kind 1 13)]) (G2 := [H0 (w6 (p2 + 1)),N9 1 p0]) 26 (zi h (fun h => ?_) fun h => ?_)))))))
 refine za [6] ?_
 cases h
 exact aG zr
 refine zx fun _ => zk 2 (bK h fun y1 he h => zc fok130 (Rc n _ y1 he) (zk 2 (ze [1,2,3,37] (zi h (fun h => ?_) fun h => ?_))))
 refine za [6] ?_
 cases h
 exact aG zr
 refine zx fun _ => zk 2 (zl aF p0.Attrs (zk 2 (zq (zq (kX (e := [(!(decide ((List.length p0.Attrs : Int) > 24)))]) [(49,.c (C6 p0.Actions),some 1)] (v := .c (I (List.length p0.Actions : Int))) (foot := []) (by kernel_rfl) (by kernel_rfl) (by kernel_rfl) (fun hg => mO (enc := aC) (l := p0.Actions) (by kernel_rfl)) rfl rfl (zq (zp (zk 1 (zq (zq (kX (e := [(!((decide ((List.length p0.Attrs : Int) > 24)) || (decide ((List.length p0.Actions : Int) > 24))))]) [(55,.c (E6 p0.Kids),some 1)] (v := .c (I (List.length p0.Kids : Int))) (foot := []) (by kernel_rfl) (by kernel_rfl) (by kernel_rfl) (fun hg => mO (enc := aQ) (l := p0.Kids) (by kernel_rfl)) rfl rfl (zq (zp (zk 1 (kS [1,2,3,42] (L2 := [A7 1 p1,J2,N0,(42,.c (Bo (((decide ((List.length p0.Attrs : Int) > 24)) || (decide ((List.length p0.Actions : Int) > 24))) || (decide ((List.length p0.Kids : Int) > 100)))))]) (G2 := [H0 (w6 (p2 + 1)),N9 1 p0]) 48 (zi h (fun h => ?_) fun h => ?_))))))))))))))))
 refine za [6] ?_
 cases h
 exact aG zr
 refine aD (aM (zx fun _ => zk 2 (bK h fun y2 he h => zc fok131 (zR n _ y2 he) (zk 1 (ze [1,2,3,7] (za [1,2,3,7,63] (zi h (fun h => ?_) fun h => ?_)))))))
 refine za [6] ?_
 cases h
 exact aG zr
 refine aD (aM (zx fun _ => zk 2 (bK h fun y3 he h => zc fok132 (Fg n _ y3 he) (zk 1 (ze [1,2,3,8] (za [1,2,3,8,69] (zi h (fun h => ?_) fun h => ?_)))))))
 refine za [6] ?_
 cases h
 exact aG zr
 refine aD (za [1,2,3,9] (aR h (fun A j => ∀ u,j u = some r → A (mk [A7 1 p1,J2,N0] [H0 (w6 (p2 + 1)),N9 1 p0] 2)) (fun u h => ?_) (fun j4 Aj4 hj4 h => ?_)))
 refine aR h (fun A j => ∀ v22,j v22 = some r → A (mk [] [H0 v22] 1)) (fun v22 h => ?_) (fun j13 Aj13 hj13 h => ?_)
 refine za [6] ?_
 cases h
 exact aG zr
 refine zx fun _ => zk 2 (zl aQ p0.Kids (zk 1 (ze [1,2,93,94,95] (aI (bB (fun n s => ∃ v16 v17,gT p0 self_view_validate p1 j13 n v16 v17 = some r ∧ s = mk [A7 1 p1,J2,(93,.c (E6 p0.Kids)),(94,.c (I (List.length p0.Kids : Int))),A7 95 v16] [H0 v17] 1) n _ zI ⟨_,_,h,rfl⟩ (fun s ⟨v16,v17,h,_⟩ => nomatch h) ?_)))))
 rintro n s ⟨v16,v17,h,rfl⟩
 rw [gT] at h
 refine za [1,2,93,94,95,96] (aM (zi h (fun h => ?_) fun h => ?_))
 refine aD (aM (aI (zx fun _ => bK h fun e18 he h => cY (v := .c (F6 e18)) (foot := []) (dU (enc := aQ) (sz := 5) (l := p0.Kids) (ix := v16) he (by kernel_rfl) (cB e18) (by kernel_rfl)) (by kernel_rfl) rfl rfl (zk 3 (ze [1,2,13,93,94,95] (zx fun _ => zk 4 (bK h fun y19 he h => zo [(0,0)] fok115 (ih_view_validate _ _ _ y19 he) (zk 1 (ze [1,2,14,93,94,95] (za [1,2,14,93,94,95,105] (zi h (fun h => ?_) fun h => ?_)))))))))))
 refine za [6] ?_
 cases h
 exact aG zr
 exact aD (aV (zb (dI zI (⟨_,_,h,rfl⟩))))
 exact aJ zI (bF (hj13 _ h))
 refine zx fun _ => zk 2 (zl aQ p0.Kids (zk 1 (kS [1,2,3,9,73,74,75] (L2 := [A7 1 p1,J2,N0,F1 9 60,(73,.c (E6 p0.Kids)),(74,.c (I (List.length p0.Kids : Int))),I4 75]) (G2 := [H0 (w6 (p2 + 1)),N9 1 p0,(60,.map false (List.map (eM Value.string eB) ([] : List (ByteArray × Bool))))]) 66 (aI (bB (fun n s => ∃ v7 v8,gQ p0 p2 j4 p1 n v7 v8 = some r ∧ s = mk [A7 1 p1,J2,N0,F1 9 2,(73,.c (E6 p0.Kids)),(74,.c (I (List.length p0.Kids : Int))),A7 75 v7] [H0 (w6 (p2 + 1)),N9 1 p0,(2,.map false (O2 v8))] 3) n _ (zv [(0,0),(1,1),(60,2)] [1,2,3,9,73,74,75] 3) ⟨_,_,h,rfl⟩ (fun s ⟨v7,v8,h,_⟩ => nomatch h) ?_)))))
 rintro n s ⟨v7,v8,h,rfl⟩
 rw [gQ] at h
 refine za [1,2,3,9,73,74,75,76] (aM (zi h (fun h => ?_) fun h => ?_))
 refine aD (aM (aI (zx fun _ => bK h fun e9 he h => cY (v := .c (F6 e9)) (foot := []) (dU (enc := aQ) (sz := 5) (l := p0.Kids) (ix := v7) he (by kernel_rfl) (cB e9) (by kernel_rfl)) (by kernel_rfl) rfl rfl (zk 3 (ze [1,2,3,9,11,73,74,75] (aM (zx fun _ => zk 4 (zq (zq (zq (bK h fun y10 he h => wH (e := [!(G9 e9.Key)]) [(83,.c (.mapr 2),some 1),(85,G0 e9.Key,some 1)] (v := .c (Bo y10.1)) (foot := [2]) (by kernel_rfl) (by kernel_rfl) (by kernel_rfl) (fun hg => cW (kf := Value.string) (enc := eB) (l := v8) (k := e9.Key) (ok := false) (kk := .str) (j := ⟨.boo,1,1,[.bool false]⟩) (p := y10) (v := .c (Bo y10.1)) (bQ he hg) (by kernel_rfl) Ol (by kernel_rfl) (by kernel_rfl) (by kernel_rfl)) rfl rfl (zp (ze [1,2,3,9,11,73,74,75,87] (zi h (fun h => ?_) fun h => ?_))))))))))))))
 refine za [6] ?_
 cases h
 exact aG zr
 exact aD (zy fun _ => zk 3 (kT (kf := Value.string) (enc := eB) (l := v8) (k := e9.Key) (v := true) (n := 2) (ag := false) (kk := .str) (by kernel_rfl) Ol (by kernel_rfl) (by kernel_rfl) rfl rfl (bT (aV (zb (dI zI (⟨_,_,h,rfl⟩)))))))
 exact aJ zI (bF (hj4 _ h))
def hP : Nat → aN → Int → Int → Option (Int × Int)
 | 0,_,_,_ => none
 | n + 1,p0,p1,p2 => lM (fun a0 a1 a2 => hP n a0 a1 a2) n p0 p1 p2
theorem Do (n : Nat) : (∀ (p0 : aN) (p1 : Int) (p2 : Int) (r : (O3)),hP n p0 p1 p2 = some r → dC E 115 1 [A9 p0,C7 p1,D6 0 0] [H0 p2] (C7 r.1) [H0 r.2]) := by
 induction n with
 | zero => intro p0 p1 p2 r h; rw [hP] at h; cases h
 | succ n ih => intro p0 p1 p2 r h; rw [hP] at h; exact wV _ ih n _ _ _ r h
def lX (n : Nat) (p0 : aN) : Option Int := (hP n p0 1 0).bind fun y1 => some y1.1
theorem Dn (n : Nat) (p0 : aN) (r : Int) (h : lX n p0 = some r) : dC E 95 0 [A9 p0] [] (C7 r) [] := by
 refine eO Tryz.func95 rfl ?_
 unfold lX at h
 refine za [1] (za [1,3] (zx fun _ => zk 1 (bK h fun y1 he h => zo [(0,2)] fok115 (Do n _ _ _ y1 he) (zk 1 (ze [2] ?_)))))
 cases h
 exact aG zr
def nG (n : Nat) (p0 : bA) : Option ((List (Int × aU)) × aN × Int) := (sX n p0).bind fun y1 => (if (!y1.2) = true then some (([] : List (Int × aU)),(aN.mk 0 nB ([] : List bJ) ([] : List cS) ([] : List aN)),12) else (iB n y1.1 p0.Root).bind fun y2 => (lX n y2).bind fun y3 => some (y1.1,y2,y3))
theorem wM (n : Nat) (p0 : bA) (r : ((M3) × aN × Int)) (h : nG n p0 = some r) : dC E 57 0 [B5 p0] [] (.tup [O4 r.1,A9 r.2.1,C7 r.2.2]) [] := by
 refine eO Tryz.func57 rfl ?_
 unfold nG at h
 refine za [1,3] (zx fun _ => zk 1 (bK h fun y1 he h => zc fok93 (Kn n _ y1 he) (zk 5 (ze [1,3,5,6] (aM (za [1,3,5,14] (zi h (fun h => ?_) fun h => ?_)))))))
 refine za [2,3,4] (aJ (rY 2 true (L2 := [L5,(2,.c (.lmap true (List.map (eM (B6) aE) ([] : List (Int × aU))))),(4,.c (I 12))]) (by kernel_rfl) (by kernel_rfl)) ?_)
 cases h
 exact aG zr
 refine aD (zx fun _ => zk 3 (bK h fun y2 he h => zc fok94 (Bi n _ _ y2 he) (zk 2 (ze [3,5,7] (vK [[],[],[],[2],[0,3,2],[1,4,0,3,2],[3,5,0,1,2,4]] fun _ => zk 3 (bK h fun y3 he h => zc fok95 (Dn n _ y3 he) (zk 3 (kS [2,3,4] (L2 := [L5,(2,O4 y1.1),A7 4 y3]) (G2 := [G4 0 p0,N9 2 y2,N9 17 y2]) 26 ?_))))))))
 cases h
 exact aG zr
def qE (n : Nat) (p0 : bA) : Option Int := (nG n p0).bind fun y1 => some y1.2.2
theorem zJ (n : Nat) (p0 : bA) (r : Int) (h : qE n p0 = some r) : dC E 26 0 [B5 p0] [] (C7 r) [] := by
 refine eO Tryz.func26 rfl ?_
 unfold qE at h
 refine za [1] (zx fun _ => zk 1 (bK h fun y1 he h => zc fok57 (wM n _ y1 he) (zk 8 (ze [5] (za [2] ?_)))))
 cases h
 exact aG zr
def rC (self_view_value : aP → Option aP) (self_view_values : (List aP) → Option (List aP)) (n : Nat) (p0 : aP) : Option aP := (self_view_values p0.L).bind fun y1 => some (aP.mk p0.Kind p0.N p0.S y1)
theorem Ad (self_view_value : aP → Option aP) (self_view_values : (List aP) → Option (List aP)) (ih_view_value : ∀ (p0 : aP) (r : aP),self_view_value p0 = some r → dC E 114 0 [C0 p0] [] (C0 r) []) (ih_view_values : ∀ (p0 : (List aP)) (r : (List aP)),self_view_values p0 = some r → dC E 129 0 [O7 p0] [] (O7 r) []) (n : Nat) (p0 : aP) (r : aP) (h : rC self_view_value self_view_values n p0 = some r) : dC E 114 0 [C0 p0] [] (C0 r) [] := by
 refine eO Tryz.func114 rfl ?_
 unfold rC at h
 refine za [1,2] (zx fun _ => zk 2 (bK h fun y1 he h => zc fok129 (ih_view_values _ y1 he) (zk 2 (ze [1,2] (za [2] ?_)))))
 cases h
 exact aG zr
def pM (p0 : (List aP)) (self_view_value : aP → Option aP) (j1 : List aP → Option (List aP)) : Nat → List aP → Int → Option (List aP)
 | 0,_,_ => none
 | n + 1,v5,v6 => (if (decide (v6 < (List.length p0 : Int))) = true then (idx p0 v6).bind fun e7 => (self_view_value e7).bind fun y8 => (pA 56 v5 [y8]).bind fun l9 => pM p0 self_view_value j1 n l9 (w6 (v6 + 1)) else j1 v5)
def qI (self_view_value : aP → Option aP) (self_view_values : (List aP) → Option (List aP)) (n : Nat) (p0 : (List aP)) : Option (List aP) := (aS (fun (v12 : List aP) => some v12) (fun (j1 : List aP → Option (List aP)) => pM p0 self_view_value j1 n ([] : List aP) 0))
theorem yX (self_view_value : aP → Option aP) (self_view_values : (List aP) → Option (List aP)) (ih_view_value : ∀ (p0 : aP) (r : aP),self_view_value p0 = some r → dC E 114 0 [C0 p0] [] (C0 r) []) (ih_view_values : ∀ (p0 : (List aP)) (r : (List aP)),self_view_values p0 = some r → dC E 129 0 [O7 p0] [] (O7 r) []) (n : Nat) (p0 : (List aP)) (r : (List aP)) (h : qI self_view_value self_view_values n p0 = some r) : dC E 129 0 [O7 p0] [] (O7 r) [] := by
 refine eO Tryz.func129 rfl ?_
 unfold qI at h
 refine za [0] (za [0,3] (aR h (fun A j => ∀ v12,j v12 = some r → A (mk [(3,.c (.app 0 (List.map aT v12)))] [C1 0 152 4 v12] 1)) (fun v12 h => ?_) (fun j1 Aj1 hj1 h => ?_)))
 refine za [2] ?_
 cases h
 exact aG zr
 refine zx fun _ => zk 1 (zl aT p0 (zk 1 (ze [3,6,7,8] (aI (bB (fun n s => ∃ v5 v6,pM p0 self_view_value j1 n v5 v6 = some r ∧ s = mk [(3,.c (.app 0 (List.map aT v5))),(6,O7 p0),(7,.c (I (List.length p0 : Int))),A7 8 v6] [C1 0 152 4 v5] 1) n _ (dZ.trans (mB (L2 := [(3,.c (.app 5 (List.map aT ([] : List aP)))),(6,O7 p0),(7,.c (I (List.length p0 : Int))),I4 8]) (G2 := [(5,.tok 152 4 (List.length ([] : List aP)))]) (lim2 := 6) 3 152 4 (by kernel_rfl) (by kernel_rfl) (by kernel_rfl) (by kernel_rfl)) (zv [(5,0)] [3,6,7,8] 1)) ⟨_,_,h,rfl⟩ (fun s ⟨v5,v6,h,_⟩ => nomatch h) ?_)))))
 rintro n s ⟨v5,v6,h,rfl⟩
 rw [pM] at h
 refine za [3,6,7,8,9] (aM (zi h (fun h => ?_) fun h => ?_))
 exact aD (aM (aI (zx fun _ => bK h fun e7 he h => cY (v := .c (K1 e7)) (foot := []) (dU (enc := aT) (sz := 4) (l := p0) (ix := v6) he (by kernel_rfl) (eE e7) (by kernel_rfl)) (by kernel_rfl) rfl rfl (zk 3 (ze [3,5,6,7,8] (zy fun _ => zk 2 (bK h fun y8 he h => zc fok114 (ih_view_value _ y8 he) (rF (e := 152) (sz := 4) (len := 1) (r := [I y8.Kind,I y8.N,Sx y8.S,D8 y8.L]) (l' := List.map aT [y8]) (nm := 9) (by kernel_rfl) (by simp only [List.map_cons,List.map_nil,eE]; kernel_rfl) (by kernel_rfl) (by kernel_rfl) rfl rfl rfl (bK h fun l9 he h => cI (enc := aT) (l := v5) (els := [y8]) (r := l9) (old := some 0) (e := 152) (sz := 4) (bytes := 56) (k := (H6 v5)) (nm := 10) he (by kernel_rfl) (by kernel_rfl) (fun x => by rw [eE]; rfl) (by kernel_rfl) (by kernel_rfl) rfl rfl rfl (zk 1 (bT (aV (zb (dI (zv [(10,0)] [3,6,7,8] 1) (⟨_,_,h,rfl⟩)))))))))))))))
 exact aJ zI (bF (hj1 _ h))
mutual
def mV : Nat → aP → Option aP
 | 0,_ => none
 | n + 1,p0 => rC (fun a0 => mV n a0) (fun a0 => qX n a0) n p0
def qX : Nat → (List aP) → Option (List aP)
 | 0,_ => none
 | n + 1,p0 => qI (fun a0 => mV n a0) (fun a0 => qX n a0) n p0
end
theorem Fc (n : Nat) : (∀ (p0 : aP) (r : aP),mV n p0 = some r → dC E 114 0 [C0 p0] [] (C0 r) []) ∧ (∀ (p0 : (List aP)) (r : (List aP)),qX n p0 = some r → dC E 129 0 [O7 p0] [] (O7 r) []) := by
 induction n with
 | zero => refine ⟨fun p0 r h => (by rw [mV] at h; cases h),fun p0 r h => (by rw [qX] at h; cases h)⟩
 | succ n ih =>
  obtain ⟨i0,i1⟩ := ih
  refine ⟨fun p0 r h => (by rw [mV] at h; exact Ad _ _ i0 i1 n _ r h),fun p0 r h => (by rw [qX] at h; exact yX _ _ i0 i1 n _ r h)⟩
theorem Jy (n : Nat) : (∀ (p0 : aP) (r : aP),mV n p0 = some r → dC E 114 0 [C0 p0] [] (C0 r) []) := (Fc n).1
def fG (p0 : (List bJ)) (p1 : ByteArray) (j1 : Unit → Option (aP × Bool)) : Nat → Int → Option (aP × Bool)
 | 0,_ => none
 | n + 1,v4 => (if (decide (v4 < (List.length p0 : Int))) = true then (idx p0 v4).bind fun e5 => (if (bP e5.Name p1) = true then (mV n e5.Value).bind fun y6 => some (y6,true) else fG p0 p1 j1 n (w6 (v4 + 1))) else j1 ())
def tZ (n : Nat) (p0 : (List bJ)) (p1 : ByteArray) : Option (aP × Bool) := (aS (fun (_ : Unit) => some ((aP.mk 0 0 nB ([] : List aP)),false)) (fun (j1 : Unit → Option (aP × Bool)) => fG p0 p1 j1 n 0))
theorem Ni (n : Nat) (p0 : (List bJ)) (p1 : ByteArray) (r : (aP × Bool)) (h : tZ n p0 p1 = some r) : dC E 91 0 [R5 p0,G0 p1] [] (.tup [C0 r.1,D7 r.2]) [] := by
 refine eO Tryz.func91 rfl ?_
 unfold tZ at h
 refine za [0,1,4] (aR h (fun A j => ∀ u,j u = some r → A (mk [H5] [(0,G5)] 1)) (fun u h => ?_) (fun j1 Aj1 hj1 h => ?_))
 refine za [4,5] ?_
 cases h
 exact aG zr
 refine zx fun _ => zk 1 (zl aF p0 (zk 1 (ze [1,4,8,9,10] (aI (bB (fun n s => ∃ v4,fG p0 p1 j1 n v4 = some r ∧ s = mk [(1,G0 p1),H5,(8,R5 p0),(9,.c (I (List.length p0 : Int))),A7 10 v4] [(0,G5)] 1) n _ zI ⟨_,h,rfl⟩ (fun s ⟨v4,h,_⟩ => nomatch h) ?_)))))
 rintro n s ⟨v4,h,rfl⟩
 rw [fG] at h
 refine za [1,4,8,9,10,11] (aM (zi h (fun h => ?_) fun h => ?_))
 refine aD (aM (aI (zx fun _ => bK h fun e5 he h => zd aF he (zk 3 (ze [1,4,7,8,9,10] (za [1,4,7,8,9,10,17] (zi h (fun h => ?_) fun h => ?_)))))))
 refine zx fun _ => zk 2 (bK h fun y6 he h => zc fok114 (Jy n _ y6 he) (zk 2 (ze [4,5] ?_)))
 cases h
 exact aG zr
 exact aD (aV (zb (dI zI (⟨_,h,rfl⟩))))
 exact aJ zI (bF (hj1 _ h))
def oP (n : Nat) (p0 : (List bJ)) (p1 : ByteArray) : Option ByteArray := (tZ n p0 p1).bind fun y1 => (if (y1.1.Kind == 3) = true then some y1.1.S else some nB)
theorem My (n : Nat) (p0 : (List bJ)) (p1 : ByteArray) (r : ByteArray) (h : oP n p0 p1 = some r) : dC E 69 0 [R5 p0,G0 p1] [] (G0 r) [] := by
 refine eO Tryz.func69 rfl ?_
 unfold oP at h
 refine za [0,1] (aM (zx fun _ => zk 2 (bK h fun y1 he h => zc fok91 (Ni n _ _ y1 he) (zk 6 (ze [5] (za [5,15] (zi h (fun h => ?_) fun h => ?_)))))))
 refine za [4] ?_
 cases h
 exact aG zr
 refine aD (za [4] ?_)
 cases h
 exact aG zr
theorem back101 : Uh E 101 aH (fun x => .agg (aH x)) := ⟨Tryz.f101,_,2,_,_,_,_,_,_,_,_,_,Tryz.func101,rfl,rfl,by decide,rfl,fun D l y => by kernel_rfl,fun D l y i => by kernel_rfl,fun D l y i => by kernel_rfl,rfl,fun D l y i => by kernel_rfl,rfl,rfl,rfl,fun D l y i => by kernel_rfl,fun x => rfl,rfl,fun D l y i x => by kernel_rfl,rfl,rfl,rfl,rfl,rfl,fun D l y i b => by kernel_rfl,fun x => rfl⟩
def dJ (n : Nat) (p0 : (List aO)) : Option (List aO) := some p0
theorem jM (n : Nat) (p0 : (List aO)) (r : (List aO)) (h : dJ n p0 = some r) : dC E 70 0 [B7 p0] [] (N8 r) [] := by
 refine eO Tryz.func70 rfl ?_
 unfold dJ at h
 refine za [1] (za [2] (aJ (yP 0 (T := 40) (l := [.lit (List.map aH p0)]) (l2 := [.lit (List.map aH p0)]) (L2 := [(2,N8 p0)]) (G2 := []) (by kernel_rfl) (by kernel_rfl) (by kernel_rfl) (by kernel_rfl)) ?_))
 cases h
 exact aG zr
def jW (n : Nat) (v12 : List (Int × aU)) (v13 : List (Int × ByteArray)) : List (Nat × aO) → List (Int × Int) → Option fO
 | [],v18 => some (fO.mk v12 v13 v18)
 | (i15,e16) :: t17,v18 => jW n v12 v13 t17 (gS e16.ID e16.States v18)
def lE (p0 : bA) (j1 : List (Int × aU) → List (Int × ByteArray) → Option fO) (p1 : (List aO)) : Nat → Int → List (Int × aU) → List (Int × ByteArray) → Option fO
 | 0,_,_,_ => none
 | n + 1,v4,v5,v6 => (if (decide (v4 < (List.length p0.Nodes : Int))) = true then (idx p0.Nodes v4).bind fun e7 => (oP n e7.Attrs (⟨#[99,108,97,115,115]⟩ : ByteArray)).bind fun y8 => lE p0 j1 p1 n (w6 (v4 + 1)) (gS e7.ID e7 v5) (gS e7.ID y8 v6) else j1 v5 v6)
def qA (n : Nat) (p0 : bA) (p1 : (List aO)) : Option fO := (aS (fun (v12 : List (Int × aU)) (v13 : List (Int × ByteArray)) => (dJ n p1).bind fun y14 => (Lm y14).bind fun _ => jW n v12 v13 (Cx y14 (List.length y14)) ([] : List (Int × Int))) (fun (j1 : List (Int × aU) → List (Int × ByteArray) → Option fO) => lE p0 j1 p1 n 0 ([] : List (Int × aU)) ([] : List (Int × ByteArray))))
theorem vM (n : Nat) (p0 : bA) (p1 : (List aO)) (r : fO) (h : qA n p0 p1 = some r) : dC E 36 0 [B5 p0,B7 p1] [] (K0 r) [] := by
 refine eO Tryz.func36 rfl ?_
 unfold qA at h
 refine za [1,2,4] (za [1,2,4,5] (aR h (fun A j => ∀ v12 v13,j v12 v13 = some r → A (mk [I5 1 p1,H5,O1] [(0,.blk 92 [.v (.map none),.v (.map none),.v (.map none)]),L4,(2,.map true (I7 v12)),(3,.map false (P2 v13)),(4,.map false (List.map (eM (B6) aL) ([] : List (O3))))] 5)) (fun v12 v13 h => ?_) (fun j1 Aj1 hj1 h => ?_)))
 refine aM (zx fun _ => zk 1 (bK h fun y14 he h => zc fok70 (jM n _ y14 he) (ze [4,5,35] (aI (aJ (tX rfl [(0,0),(1,1),(2,2),(3,3),(4,4)] [4,5,35] (L2 := [H5,O1,(35,N8 y14)]) (G2 := [(0,.blk 92 [.v (.map none),.v (.map none),.v (.map none)]),L4,(2,.map true (I7 v12)),(3,.map false (P2 v13)),(4,.map false (List.map (eM (B6) aL) ([] : List (O3))))]) (lim2 := 5) (by kernel_rfl)) ?_)))))
 obtain ⟨_,he,h⟩ := aA h
 refine aw_back (l := y14) fok101 back101 (by kernel_rfl) (lenOk_le he) (by kernel_rfl) (fun t G1 lim1 => ∃ (v18 : List (O3)),jW n v12 v13 t v18 = some r ∧ G1 = [(0,.blk 92 [.v (.map none),.v (.map none),.v (.map none)]),L4,(2,.map true (I7 v12)),(3,.map false (P2 v13)),(4,.map false (List.map (eM (B6) aL) v18))] ∧ lim1 = 5) ⟨_,h,rfl,rfl⟩ (fun lp x t17 G1 lim1 hJ => ?_) (fun G1 lim1 hJ => ?_)
 obtain ⟨i15,e16⟩ := x
 obtain ⟨v18,h,rfl,rfl⟩ := hJ
 rw [jW] at h
 show AW _ _ (mk [H5,O1,(35,N8 y14),(36,.c (I (i15 : Int))),(37,.agg [I e16.ID,I e16.States])] [(0,.blk 92 [.v (.map none),.v (.map none),.v (.map none)]),L4,(2,.map true (I7 v12)),(3,.map false (P2 v13)),(4,.map false (List.map (eM (B6) aL) v18))] 5) _
 exact zb (aI (aV (zy fun _ => zk 6 (kT (kf := (B6)) (enc := aL) (l := v18) (k := e16.ID) (v := e16.States) (n := 4) (ag := false) (kk := .int .i64) (by kernel_rfl) eQ (by kernel_rfl) (by kernel_rfl) rfl rfl (bT (dI (zv (L2 := []) [(0,0),(1,1),(2,2),(3,3),(4,4)] [] 5) (⟨_,_,⟨_,h,rfl,rfl⟩,rfl,rfl⟩)))))))
 obtain ⟨v18,h,rfl,rfl⟩ := hJ
 rw [jW] at h
 refine za [4] (aJ (uM 2 (ag := true) (l := List.map (eM (B6) aE) v12) (L2 := [H5]) (G2 := [(0,.blk 92 [D2 v12,.mapr 3,.mapr 4]),(1,.blk 92 [D2 v12,.mapr 3,.mapr 4]),(3,.map false (P2 v13)),(4,.map false (List.map (eM (B6) aL) v18))]) (by kernel_rfl) (by kernel_rfl) (by kernel_rfl)) (aJ (uM 3 (ag := false) (l := List.map (eM (B6) eS) v13) (L2 := [H5]) (G2 := [(0,.blk 92 [D2 v12,D5 v13,.mapr 4]),(1,.blk 92 [D2 v12,D5 v13,.mapr 4]),(4,.map false (List.map (eM (B6) aL) v18))]) (by kernel_rfl) (by kernel_rfl) (by kernel_rfl)) (aJ (uM 4 (ag := false) (l := List.map (eM (B6) aL) v18) (L2 := [H5]) (G2 := [(0,.blk 92 [D2 v12,D5 v13,E1 v18]),(1,.blk 92 [D2 v12,D5 v13,E1 v18])]) (by kernel_rfl) (by kernel_rfl) (by kernel_rfl)) ?_)))
 cases h
 exact aG zr
 refine zx fun _ => zk 2 (zl aE p0.Nodes (zk 1 (ze [1,4,5,15,16,17] (aI (bB (fun n s => ∃ v4 v5 v6,lE p0 j1 p1 n v4 v5 v6 = some r ∧ s = mk [I5 1 p1,H5,O1,(15,P1 p0.Nodes),(16,.c (I (List.length p0.Nodes : Int))),A7 17 v4] [(0,.blk 92 [.v (.map none),.v (.map none),.v (.map none)]),L4,(2,.map true (I7 v5)),(3,.map false (P2 v6)),(4,.map false (List.map (eM (B6) aL) ([] : List (O3))))] 5) n _ (zv [(1,0),(6,1),(2,2),(3,3),(4,4)] [1,4,5,15,16,17] 5) ⟨_,_,_,h,rfl⟩ (fun s ⟨v4,v5,v6,h,_⟩ => nomatch h) ?_)))))
 rintro n s ⟨v4,v5,v6,h,rfl⟩
 rw [lE] at h
 refine za [1,4,5,15,16,17,18] (aM (zi h (fun h => ?_) fun h => ?_))
 exact aD (aM (aI (zx fun _ => bK h fun e7 he h => zd aE he (zk 3 (ze [1,4,5,7,15,16,17] (Ov [[],[0],[],[2],[],[4],[],[6],[],[],[9],[10,9],[1,3,8,11,0,2,10,9],[5,7,11,12,0,1,2,3,4,6,8,9,10]] fun _ => zk 11 (bK h fun y8 he h => zc fok69 (My n _ _ y8 he) (kT (kf := (B6)) (enc := aE) (l := v5) (k := e7.ID) (v := e7) (n := 2) (ag := true) (kk := .int .i64) (by kernel_rfl) eQ (by kernel_rfl) (by kernel_rfl) rfl rfl (kT (kf := (B6)) (enc := eS) (l := v6) (k := e7.ID) (v := y8) (n := 3) (ag := false) (kk := .int .i64) (by kernel_rfl) eQ (by kernel_rfl) (by kernel_rfl) rfl rfl (bT (aV (zb (dI zI (⟨_,_,_,h,rfl⟩))))))))))))))
 exact aJ zI (bF (hj1 _ _ h))
def jO (p0 : cM) (j18 : Int → Option dV) (v17 : Int) : Nat → Int → Int → Option dV
 | 0,_,_ => none
 | n + 1,v21,v22 => (if (decide (v21 < 2)) = true then (aS (fun (v25 : Int) => jO p0 j18 v17 n (w6 (v21 + 1)) v25) (fun (j23 : Int → Option dV) => (idx (dV.toL (dV.mk p0.Kind p0.UnderKind)) v21).bind fun e24 => (if (e24 != 0) = true then j23 (w6 (v22 + 1)) else j23 v22))) else j18 v22)
def fC (j12 : Int → Option dV) (p0 : cM) : Nat → Int → Int → Option dV
 | 0,_,_ => none
 | n + 1,v13,v14 => (if (v13 != 0) = true then fC j12 p0 n (oU .i64 v13 (w6 (v13 - 1))) (w6 (v14 + 1)) else j12 v14)
def jN (p0 : cM) (j1 : Int → Option dV) : Nat → Int → Int → Option dV
 | 0,_,_ => none
 | n + 1,v4,v5 => (if (decide (v4 < 2)) = true then (aS (fun (v8 : Int) => jN p0 j1 n (w6 (v4 + 1)) v8) (fun (j6 : Int → Option dV) => (idx (cN.toL (cN.mk p0.Class p0.UnderClass)) v4).bind fun e7 => (if (!(bP e7 nB)) = true then j6 (w6 (v5 + 1)) else j6 v5))) else j1 v5)
def lQ (n : Nat) (p0 : cM) : Option dV := (aS (fun (v11 : Int) => (aS (fun (v17 : Int) => (aS (fun (v28 : Int) => some (dV.mk v17 v28)) (fun (j18 : Int → Option dV) => jO p0 j18 v17 n 0 0))) (fun (j12 : Int → Option dV) => fC j12 p0 n p0.States v11))) (fun (j1 : Int → Option dV) => jN p0 j1 n 0 0))
theorem wL (n : Nat) (p0 : cM) (r : dV) (h : lQ n p0 = some r) : dC E 39 0 [E0 p0] [] (.agg [I r.x0,I r.x1]) [] := by
 refine eO Tryz.func39 rfl ?_
 unfold lQ at h
 refine za [1,2] (za [1,2,3] (aR h (fun A j => ∀ v11,j v11 = some r → A (mk [H9,N7,L5] [K7 0 p0,(1,N4),R1 v11] 3)) (fun v11 h => ?_) (fun j1 Aj1 hj1 h => ?_)))
 refine aR h (fun A j => ∀ v17,j v17 = some r → A (mk [H9,N7,L5] [K7 0 p0,(1,N4),R1 v17] 3)) (fun v17 h => ?_) (fun j12 Aj12 hj12 h => ?_)
 refine aR h (fun A j => ∀ v28,j v28 = some r → A (mk [J2,N0] [(0,N4),(1,.blk 97 [I v17,I v28])] 2)) (fun v28 h => ?_) (fun j18 Aj18 hj18 h => ?_)
 refine za [2] ?_
 cases h
 exact aG zr
 refine za [2,3,40,41] (aI (bB (fun n s => ∃ v21 v22,jO p0 j18 v17 n v21 v22 = some r ∧ s = mk [J2,N0,(40,.agg [I p0.Kind,I p0.UnderKind]),A7 41 v21] [(0,N4),(1,.blk 97 [I v17,I v22])] 2) n _ (zv [(1,0),(2,1)] [2,3,40,41] 2) ⟨_,_,h,rfl⟩ (fun s ⟨v21,v22,h,_⟩ => nomatch h) ?_))
 rintro n s ⟨v21,v22,h,rfl⟩
 rw [jO] at h
 refine za [2,3,40,41,42] (aM (zi h (fun h => ?_) fun h => ?_))
 refine aD (aR h (fun A j => ∀ v25,j v25 = some r → A (mk [J2,N0,(40,.agg [I p0.Kind,I p0.UnderKind]),A7 41 v21] [(0,N4),(1,.blk 97 [I v17,I v25])] 2)) (fun v25 h => ?_) (fun j23 Aj23 hj23 h => ?_))
 exact aV (zb (dI zI (⟨_,_,h,rfl⟩)))
 refine aI (zx fun _ => bK h fun e24 he h => cY (v := .c (I e24)) (foot := []) (yN (enc := aL) (xs := (dV.toL (dV.mk p0.Kind p0.UnderKind))) (ix := v21) (e := e24) (len := 2) (j := ⟨.int .i64,1,8,[.int .i64 0]⟩) (v := .c (I e24)) he (by kernel_rfl) (by kernel_rfl) (fun x => by kernel_rfl) (by decide) (by kernel_rfl)) (by kernel_rfl) rfl rfl (zk 1 (ze [2,3,8,40,41] (za [2,3,40,41,45] (zi h (fun h => ?_) fun h => ?_)))))
 exact aV (zb (dI zI (hj23 _ h)))
 exact aJ zI (aD (hj23 _ h))
 exact aJ zI (bF (hj18 _ h))
 refine za [1,2,3,6] (aI (bB (fun n s => ∃ v13 v14,fC j12 p0 n v13 v14 = some r ∧ s = mk [H9,N7,L5,A7 6 v13] [K7 0 p0,(1,N4),R1 v14] 3) n _ zI ⟨_,_,h,rfl⟩ (fun s ⟨v13,v14,h,_⟩ => nomatch h) ?_))
 rintro n s ⟨v13,v14,h,rfl⟩
 rw [fC] at h
 refine aM (za [1,2,3,6,27] (zi h (fun h => ?_) fun h => ?_))
 exact aD (aM (aI (zb (aV (zb (dI zI (⟨_,_,h,rfl⟩)))))))
 exact aJ zI (bF (hj12 _ h))
 refine za [1,2,3,13,14] (aI (bB (fun n s => ∃ v4 v5,jN p0 j1 n v4 v5 = some r ∧ s = mk [H9,N7,L5,(13,.agg [Sx p0.Class,Sx p0.UnderClass]),A7 14 v4] [K7 0 p0,(1,N4),R1 v5] 3) n _ zI ⟨_,_,h,rfl⟩ (fun s ⟨v4,v5,h,_⟩ => nomatch h) ?_))
 rintro n s ⟨v4,v5,h,rfl⟩
 rw [jN] at h
 refine za [1,2,3,13,14,15] (aM (zi h (fun h => ?_) fun h => ?_))
 refine aD (aR h (fun A j => ∀ v8,j v8 = some r → A (mk [H9,N7,L5,(13,.agg [Sx p0.Class,Sx p0.UnderClass]),A7 14 v4] [K7 0 p0,(1,N4),R1 v8] 3)) (fun v8 h => ?_) (fun j6 Aj6 hj6 h => ?_))
 exact aV (zb (dI zI (⟨_,_,h,rfl⟩)))
 refine aI (zx fun _ => bK h fun e7 he h => cY (v := .c (Sx e7)) (foot := []) (yN (enc := eS) (xs := (cN.toL (cN.mk p0.Class p0.UnderClass))) (ix := v4) (e := e7) (len := 2) (j := ⟨.str,1,16,[.string ⟨#[]⟩]⟩) (v := .c (Sx e7)) he (by kernel_rfl) (by kernel_rfl) (fun x => by kernel_rfl) (by decide) (by kernel_rfl)) (by kernel_rfl) rfl rfl (zk 1 (ze [1,2,3,5,13,14] (za [1,2,3,13,14,18] (zi h (fun h => ?_) fun h => ?_)))))
 exact aV (zb (dI zI (hj6 _ h)))
 exact aJ zI (aD (hj6 _ h))
 exact aJ zI (bF (hj1 _ h))
def nW (n : Nat) (p0 : Int) : Option Bool := some (p0 != p0)
theorem uK (n : Nat) (p0 : Int) (r : Bool) (h : nW n p0 = some r) : dC E 104 0 [C7 p0] [] (D7 r) [] := by
 refine eO Tryz.func104 rfl ?_
 unfold nW at h
 refine za [0] (za [2] ?_)
 cases h
 exact aG zr
def iS (n : Nat) (p0 : Int) (p1 : Int) : Option Int := (nW n p0).bind fun y1 => (nW n p1).bind fun y2 => (if y1 = true then (if y2 = true then some 0 else some (-1 : Int)) else (if y2 = true then some 1 else (if (decide (p0 < p1)) = true then some (-1 : Int) else (if (decide (p0 > p1)) = true then some 1 else some 0))))
theorem Ai (n : Nat) (p0 : Int) (p1 : Int) (r : Int) (h : iS n p0 p1 = some r) : dC E 72 0 [C7 p0,C7 p1] [] (C7 r) [] := by
 refine eO Tryz.func72 rfl ?_
 unfold iS at h
 refine za [0,1] (zx fun _ => zk 1 (bK h fun y1 he h => zc Yn (uK n _ y1 he) (zk 1 (ze [0,1,5] (zx fun _ => zk 1 (bK h fun y2 he h => zc Yn (uK n _ y2 he) (zk 1 (ze [0,1,5,6] (aM (za [0,1,6,11] (zi h (fun h => ?_) fun h => ?_)))))))))))
 refine aM (za [12] (zi h (fun h => ?_) fun h => ?_))
 refine za [4] ?_
 cases h
 exact aG zr
 refine aD (za [4] ?_)
 cases h
 exact aG zr
 refine aD (aM (za [0,1,13] (zi h (fun h => ?_) fun h => ?_)))
 refine za [4] ?_
 cases h
 exact aG zr
 refine aD (aM (za [0,1,16] (zi h (fun h => ?_) fun h => ?_)))
 refine za [4] ?_
 cases h
 exact aG zr
 refine aD (aM (za [19] (zi h (fun h => ?_) fun h => ?_)))
 refine za [4] ?_
 cases h
 exact aG zr
 refine aD (za [4] ?_)
 cases h
 exact aG zr
def gM (p0 : (List Int)) (p1 : (List Int)) (j1 : Unit → Option Int) : Nat → Int → Option Int
 | 0,_ => none
 | n + 1,v5 => (if (decide (v5 < (List.length p0 : Int))) = true then (idx p0 v5).bind fun e6 => (if (decide (v5 ≥ (List.length p1 : Int))) = true then some 1 else (idx p1 v5).bind fun e7 => (iS n e6 e7).bind fun y8 => (if (y8 != 0) = true then some y8 else gM p0 p1 j1 n (w6 (v5 + 1)))) else j1 ())
def fV (n : Nat) (p0 : (List Int)) (p1 : (List Int)) : Option Int := (aS (fun (_ : Unit) => (if (decide ((List.length p0 : Int) < (List.length p1 : Int))) = true then some (-1 : Int) else some 0)) (fun (j1 : Unit → Option Int) => gM p0 p1 j1 n 0))
theorem tC (n : Nat) (p0 : (K4)) (p1 : (K4)) (r : Int) (h : fV n p0 p1 = some r) : dC E 40 0 [.c (C2 p0),.c (C2 p1)] [] (C7 r) [] := by
 refine eO Tryz.func40 rfl ?_
 unfold fV at h
 refine za [0,1] (aR h (fun A j => ∀ u,j u = some r → A (mk [F8 0 p0,F8 1 p1] [] 0)) (fun u h => ?_) (fun j1 Aj1 hj1 h => ?_))
 refine aM (zx fun _ => zk 1 (zl aL p0 (zk 1 (zl aL p1 (zk 1 (ze [35] (zi h (fun h => ?_) fun h => ?_)))))))
 refine za [4] ?_
 cases h
 exact aG zr
 refine aD (za [4] ?_)
 cases h
 exact aG zr
 refine zx fun _ => zk 1 (zl aL p0 (zk 1 (ze [0,1,9,10,11] (aI (bB (fun n s => ∃ v5,gM p0 p1 j1 n v5 = some r ∧ s = mk [F8 0 p0,F8 1 p1,F8 9 p0,(10,.c (I (List.length p0 : Int))),A7 11 v5] [] 0) n _ zI ⟨_,h,rfl⟩ (fun s ⟨v5,h,_⟩ => nomatch h) ?_)))))
 rintro n s ⟨v5,h,rfl⟩
 rw [gM] at h
 refine za [0,1,9,10,11,12] (aM (zi h (fun h => ?_) fun h => ?_))
 refine aD (aM (aI (zx fun _ => zk 1 (bK h fun e6 he h => zd aL he (zk 3 (ze [0,1,5,6,9,10,11] (aM (zx fun _ => zk 2 (zl aL p1 (zk 1 (ze [0,1,5,6,9,10,11,19] (zi h (fun h => ?_) fun h => ?_))))))))))))
 refine za [4] ?_
 cases h
 exact aG zr
 refine aD (zx fun _ => zk 2 (bK h fun e7 he h => zd aL he (zk 2 (kS [0,1,6,7,9,10,11] (L2 := [F8 0 p0,F8 1 p1,F8 9 p0,(10,.c (I (List.length p0 : Int))),A7 11 v5,A7 6 e6,A7 7 e7]) (G2 := []) 15 (zx fun _ => zk 2 (bK h fun y8 he h => zc fok72 (Ai n _ _ y8 he) (zk 1 (ze [0,1,8,9,10,11] (za [0,1,8,9,10,11,28] (zi h (fun h => ?_) fun h => ?_))))))))))
 refine za [4] ?_
 cases h
 exact aG zr
 exact aD (aV (zb (dI zI (⟨_,h,rfl⟩))))
 exact aJ zI (bF (hj1 _ h))
def lU (n : Nat) (p0 : Int) (p1 : Int) (p2 : bM) : Option Int := (idx p2.Rules p0).bind fun e1 => (lQ n e1).bind fun y2 => (idx p2.Rules p1).bind fun e3 => (lQ n e3).bind fun y4 => (fV n [y2.x0,y2.x1] [y4.x0,y4.x1]).bind fun y5 => some y5
theorem zT (n : Nat) (p0 : Int) (p1 : Int) (p2 : bM) (r : Int) (h : lU n p0 p1 p2 = some r) : dC E 38 0 [C7 p0,C7 p1,.c (.imm [C4 p2.Rules])] [] (C7 r) [] := by
 refine eO Tryz.func38 rfl ?_
 unfold lU at h
 refine za [0,1,2] (vK [[],[0],[],[1,2,0],[3,1,2,0],[4,3,1,2,0],[],[6],[],[7,8,6],[9,7,8,6],[10,5,9,7,8,6,4,3,1,2,0],[],[],[12,5,11,0,1,2,3,4,10,13,9,7,8,6],[13,11,14,0,1,2,3,4,5,6,7,8,9,10,12]] fun _ => zk 3 (bK h fun e1 he h => zd aY he (zk 1 (bK h fun y2 he h => zc fok39 (wL n _ y2 he) (zk 3 (bK h fun e3 he h => zd aY he (zk 1 (bK h fun y4 he h => zc fok39 (wL n _ y4 he) (zk 4 (kS [6,7] (L2 := [A1 6 13 0,A1 7 14 0]) (G2 := [(13,.blk 97 [I y2.x0,I y2.x1]),(14,.blk 97 [I y4.x0,I y4.x1])]) 17 (aJ (yP 13 (T := 97) (l := [I y2.x0,I y2.x1]) (l2 := [I y2.x0,I y2.x1]) (L2 := [(6,.c (.imm [I y2.x0,I y2.x1])),A1 7 14 0]) (G2 := [(14,.blk 97 [I y4.x0,I y4.x1])]) (by kernel_rfl) (by kernel_rfl) (by kernel_rfl) (by kernel_rfl)) (aJ (yP 14 (T := 97) (l := [I y4.x0,I y4.x1]) (l2 := [I y4.x0,I y4.x1]) (L2 := [(6,.c (.imm [I y2.x0,I y2.x1])),(7,.c (.imm [I y4.x0,I y4.x1]))]) (G2 := []) (by kernel_rfl) (by kernel_rfl) (by kernel_rfl) (by kernel_rfl)) (vK [[],[],[0,1],[2,0,1]] fun _ => zw (v := .c (C2 [y2.x0,y2.x1])) [] (Ih (l := [I y2.x0,I y2.x1]) (len := 2) (sz := 1) (r := List.map aL [y2.x0,y2.x1]) (by kernel_rfl) (by kernel_rfl) (by kernel_rfl)) (zw (v := .c (C2 [y4.x0,y4.x1])) [] (Ih (l := [I y4.x0,I y4.x1]) (len := 2) (sz := 1) (r := List.map aL [y4.x0,y4.x1]) (by kernel_rfl) (by kernel_rfl) (by kernel_rfl)) (bK h fun y5 he h => zc fok40 (tC n _ _ y5 he) (zk 1 (ze [5] ?_)))))))))))))))))
 cases h
 exact aG zr
end Go.Proofs.YtojkihhnioeggaaGreatDoor.S
