import Derived.Test.YtojkihhnioeggaaGreatDoorQRGM3
set_option linter.unusedVariables false
set_option linter.unusedSimpArgs false
set_option maxRecDepth 100000
set_option maxHeartbeats 4000000
namespace Go.Proofs.YtojkihhnioeggaaGreatDoor.S
open Go Go.Bm
def cW  (n : Nat) (p0 : Int) (p1 : Int) : Option Bool := (gQ n p0).bind fun (y1 : Bool) => (gd [y1] (idx aW p0)).bind fun (e2 : bR) => (gd [(y1 && (decide (p1 ≥ e2.low)))] (idx aW p0)).bind fun (e3 : bR) => some ((y1 && (decide (p1 ≥ e2.low))) && (decide (p1 ≤ e3.high)))
theorem nZ  (n : Nat) (p0 : Int) (p1 : Int) (r : Bool) (h : cW n p0 p1 = some r) : dJ E 21 0 [A7 p0, A7 p1] [] (B3 r) [] := by
 refine gY Tryz.func21 rfl ?_
 unfold cW at h
 refine za [0, 1] ?_
 refine zx fun _ => ?_
 refine zk 1 ?_
 obtain ⟨y1, he, h⟩ := aB h
 refine zc Tu (oY n _ y1 he) ?_
 clear he
 refine zk 1 ?_
 refine zE (A7 p1) ?_
 refine zE (A7 p0) ?_
 obtain ⟨e2, he, h⟩ := aB h
 refine Cq (es := [y1]) [(9, A7 p0, some 1)] (enc := jA) (xs := aW) (ix := p0) (e := e2) (c := [Bo e2.inherited, I e2.low, I e2.high, I e2.start]) (len := 22) (sz := 4) (fun hg => cM he hg) (by kernel_rfl) (by kernel_rfl) (by kernel_rfl) (by kernel_rfl) (by kernel_rfl) (by kernel_rfl) (fun x => by kernel_rfl) rfl rfl ?_
 clear he
 refine zE (.c (.imm [I e2.low, I e2.high, I e2.start])) ?_
 refine zE (A7 e2.low) ?_
 refine zE (B3 (H9 p1 e2.low)) ?_
 refine zP (.bool (y1 && (H9 p1 e2.low))) ?_
 refine zk 1 ?_
 refine zE (A7 p1) ?_
 refine zE (A7 p0) ?_
 obtain ⟨e3, he, h⟩ := aB h
 refine Cq (es := [y1 && (H9 p1 e2.low)]) [(17, A7 p0, some 1)] (enc := jA) (xs := aW) (ix := p0) (e := e3) (c := [Bo e3.inherited, I e3.low, I e3.high, I e3.start]) (len := 22) (sz := 4) (fun hg => cM he hg) (by kernel_rfl) (by kernel_rfl) (by kernel_rfl) (by kernel_rfl) (by kernel_rfl) (by kernel_rfl) (fun x => by kernel_rfl) rfl rfl ?_
 clear he
 refine zE (.c (.imm [I e3.high, I e3.start])) ?_
 refine zE (A7 e3.high) ?_
 refine zE (B3 (H8 p1 e3.high)) ?_
 refine zP (.bool ((y1 && (H9 p1 e2.low)) && (H8 p1 e3.high))) ?_
 refine zk 1 ?_
 refine mF [4] (L2 := [(4, B3 ((y1 && (H9 p1 e2.low)) && (H8 p1 e3.high)))]) (G2 := []) 20 ?_
 cases h
 exact aH zr
def iN  (n : Nat) (p0 : bJ) (p1 : Int) : Option Int := (gQ n p0.Prop_).bind fun (y1 : Bool) => (if (!y1) = true then some 1 else (aR (fun (v3 : Bool) => (if v3 = true then some 9 else (gd [(p0.Source == 0)] (cW n p0.Prop_ p0.N)).bind fun (y4 : Bool) => (if ((p0.Source == 0) && (!y4)) = true then some 1 else (gd [(p0.Source == 1)] (eD n p0.Token)).bind fun (y5 : Bool) => (if ((p0.Source == 1) && (!y5)) = true then some 4 else (if (((p0.Prop_ == 5) || (p0.Prop_ == 21)) && ((mD .i64 p1 7) != 0)) = true then some 13 else some 0))))) (fun (j2 : Bool → Option Int) => (if ((decide (p0.Source < 0)) || (decide (p0.Source > 3))) = true then j2 ((decide (p0.Source < 0)) || (decide (p0.Source > 3))) else (if ((p0.N != 0) && (p0.Source != 0)) = true then j2 ((p0.N != 0) && (p0.Source != 0)) else j2 ((!(cS p0.Token (⟨#[]⟩ : ByteArray))) && (p0.Source != 1)))))))
theorem vL  (n : Nat) (p0 : bJ) (p1 : Int) (r : Int) (h : iN n p0 p1 = some r) : dJ E 67 0 [.agg [I p0.Prop_, I p0.Source, I p0.N, Sx p0.Token], A7 p1] [] (A7 r) [] := by
 refine gY Tryz.func67 rfl ?_
 unfold iN at h
 refine za [1, 2] ?_
 refine aN ?_
 refine aI ?_
 refine zx fun _ => ?_
 refine zk 2 ?_
 obtain ⟨y1, he, h⟩ := aB h
 refine zc Tu (oY n _ y1 he) ?_
 clear he
 refine zk 2 ?_
 refine ze [1, 2, 5] ?_
 refine zi h (fun h => ?_) fun h => ?_
 refine za [4] ?_
 cases h
 exact aH zr
 refine aV h (fun A j => ∀ v3, j v3 = some r → A (mk [C7 1 p1, I5, (10, B3 v3)] [(0, E8 p0)] 1)) (fun v3 h => ?_) (fun j2 Aj2 hj2 h => ?_)
 refine zi h (fun h => ?_) fun h => ?_
 refine za [4] ?_
 cases h
 exact aH zr
 refine zx fun _ => ?_
 refine zk 4 ?_
 refine zE (C3 0 0) ?_
 refine zE (A7 p0.Prop_) ?_
 refine zE (C3 0 2) ?_
 refine zE (A7 p0.N) ?_
 obtain ⟨y4, he, h⟩ := aB h
 refine Ry [p0.Source == 0] Xj (fun hg => nZ n _ _ y4 (cM he hg)) ?_
 clear he
 refine zE (B3 (!y4)) ?_
 refine zP (.bool ((p0.Source == 0) && (!y4))) ?_
 refine zk 1 ?_
 refine ze [1, 2, 35] ?_
 refine zi h (fun h => ?_) fun h => ?_
 refine za [4] ?_
 cases h
 exact aH zr
 refine zx fun _ => ?_
 refine zk 4 ?_
 refine zE (C3 0 3) ?_
 refine zE (E5 p0.Token) ?_
 obtain ⟨y5, he, h⟩ := aB h
 refine Ry [p0.Source == 1] Di (fun hg => jU n _ y5 (cM he hg)) ?_
 clear he
 refine zE (B3 (!y5)) ?_
 refine zP (.bool ((p0.Source == 1) && (!y5))) ?_
 refine zk 1 ?_
 refine mF [1, 2, 47] (L2 := [C7 1 p1, I5, (47, B3 ((p0.Source == 1) && (!y5)))]) (G2 := [(0, E8 p0)]) 23 ?_
 refine zi h (fun h => ?_) fun h => ?_
 refine za [4] ?_
 cases h
 exact aH zr
 refine zx fun _ => ?_
 refine zk 4 ?_
 refine zE (C3 0 0) ?_
 refine zE (A7 p0.Prop_) ?_
 refine zE (B3 (p0.Prop_ == 21)) ?_
 refine zP (.bool ((p0.Prop_ == 5) || (p0.Prop_ == 21))) ?_
 refine zk 1 ?_
 refine zE (A7 p1) ?_
 refine zE (A7 (mD .i64 p1 7)) ?_
 refine zE (B3 ((mD .i64 p1 7) != 0)) ?_
 refine zP (.bool (((p0.Prop_ == 5) || (p0.Prop_ == 21)) && ((mD .i64 p1 7) != 0))) ?_
 refine zk 1 ?_
 refine mF [57] (L2 := [(57, B3 (((p0.Prop_ == 5) || (p0.Prop_ == 21)) && ((mD .i64 p1 7) != 0)))]) (G2 := [(0, E8 p0)]) 37 ?_
 refine zi h (fun h => ?_) fun h => ?_
 refine za [4] ?_
 cases h
 exact aH zr
 refine aC ?_
 refine za [4] ?_
 cases h
 exact aH zr
 refine zx fun _ => ?_
 refine zk 4 ?_
 refine zE (C3 0 1) ?_
 refine zE (A7 p0.Source) ?_
 refine zE (K3 p0.Source 3) ?_
 refine zP (.bool (A1 p0.Source 0 3)) ?_
 refine zk 1 ?_
 refine mF [1, 2, 10] (L2 := [C7 1 p1, I5, (10, B3 (A1 p0.Source 0 3))]) (G2 := [(0, E8 p0)]) 16 ?_
 refine zi h (fun h => ?_) fun h => ?_
 exact aJ (zv [(0, 0)] [1, 2, 10] 1) (aC (hj2 _ h))
 refine zx fun _ => ?_
 refine zk 4 ?_
 refine zE (C3 0 1) ?_
 refine zE (A7 p0.Source) ?_
 refine zE (B3 (p0.Source != 0)) ?_
 refine zP (.bool ((p0.N != 0) && (p0.Source != 0))) ?_
 refine zk 1 ?_
 refine ze [1, 2, 10] ?_
 refine zi h (fun h => ?_) fun h => ?_
 exact aJ (zv [(0, 0)] [1, 2, 10] 1) (aC (hj2 _ h))
 refine aY ?_
 refine zy fun _ => ?_
 refine zk 4 ?_
 refine zE (C3 0 1) ?_
 refine zE (A7 p0.Source) ?_
 refine zE (B3 (p0.Source != 1)) ?_
 refine zP (.bool ((!(cS p0.Token (⟨#[]⟩ : ByteArray))) && (p0.Source != 1))) ?_
 refine zk 1 ?_
 refine bY ?_
 exact eU (zv [(0, 0)] [1, 2, 10] 1) (hj2 _ h)
def eW (e14 : bT) (j13 : Unit → Option Int) (p0 : bE) (v12 : Int) : Nat → Int → Option Int
 | 0, _ => none
 | n + 1, v19 => (if (decide (v19 < (List.length e14.Decls : Int))) = true then (idx e14.Decls v19).bind fun (e20 : bJ) => (iN n e20 e14.States).bind fun (y21 : Int) => (if (y21 != 0) = true then some y21 else eW e14 j13 p0 v12 n (IntKind.wrap .i64 (v19 + 1))) else j13 ())
def eA (p0 : bE) (j1 : Unit → Option Int) : Nat → Int → Option Int
 | 0, _ => none
 | n + 1, v12 => (if (decide (v12 < (List.length p0.Rules : Int))) = true then (aR (fun (_ : Unit) => eA p0 j1 n (IntKind.wrap .i64 (v12 + 1))) (fun (j13 : Unit → Option Int) => (idx p0.Rules v12).bind fun (e14 : bT) => (if ((((decide (e14.Kind < 0)) || (decide (e14.Kind > 13))) || (decide (e14.UnderKind < 0))) || (decide (e14.UnderKind > 13))) = true then some 9 else (gd [(!(cS e14.Class (⟨#[]⟩ : ByteArray)))] (eD n e14.Class)).bind fun (y15 : Bool) => (gd [(!((!(cS e14.Class (⟨#[]⟩ : ByteArray))) && (!y15))), (!(cS e14.UnderClass (⟨#[]⟩ : ByteArray)))] (eD n e14.UnderClass)).bind fun (y16 : Bool) => (if (((!(cS e14.Class (⟨#[]⟩ : ByteArray))) && (!y15)) || ((!(cS e14.UnderClass (⟨#[]⟩ : ByteArray))) && (!y16))) = true then some 4 else (if ((decide (e14.States < 0)) || (decide (e14.States > 31))) = true then some 1 else (if (decide ((List.length e14.Decls : Int) > 50)) = true then some 2 else eW e14 j13 p0 v12 n 0)))))) else j1 ())
def lK  (n : Nat) (p0 : bE) : Option Int := (if (decide ((List.length p0.Rules : Int) > 100)) = true then some 2 else (aR (fun (_ : Unit) => some 0) (fun (j1 : Unit → Option Int) => eA p0 j1 n 0)))
theorem yQ  (n : Nat) (p0 : bE) (r : Int) (h : lK n p0 = some r) : dJ E 34 0 [.agg [D4 p0.Rules]] [] (A7 r) [] := by
 refine gY Tryz.func34 rfl ?_
 unfold lK at h
 refine za [1] ?_
 refine aN ?_
 refine zx fun _ => ?_
 refine zk 2 ?_
 refine zl bG p0.Rules ?_
 refine zk 1 ?_
 refine ze [1, 11] ?_
 refine zi h (fun h => ?_) fun h => ?_
 refine za [2] ?_
 cases h
 exact aH zr
 refine aC ?_
 refine aV h (fun A j => ∀ u, j u = some r → A (mk [] [] 0)) (fun u h => ?_) (fun j1 Aj1 hj1 h => ?_)
 refine za [2] ?_
 cases h
 exact aH zr
 refine zx fun _ => ?_
 refine zk 2 ?_
 refine zl bG p0.Rules ?_
 refine zk 1 ?_
 refine ze [13, 14, 15] ?_
 refine aI ?_
 refine bH (fun n s => ∃ v12, eA p0 j1 n v12 = some r ∧ s = mk [(13, .c (D4 p0.Rules)), (14, .c (I (List.length p0.Rules : Int))), C7 15 v12] [] 0) n _ (zv [] [13, 14, 15] 0) ⟨_, h, rfl⟩ (fun s ⟨v12, h, _⟩ => nomatch h) ?_
 rintro n s ⟨v12, h, rfl⟩
 rw [eA] at h
 refine za [13, 14, 15, 16] ?_
 refine aN ?_
 refine zi h (fun h => ?_) fun h => ?_
 refine aC ?_
 refine aV h (fun A j => ∀ u, j u = some r → A (mk [(13, .c (D4 p0.Rules)), (14, .c (I (List.length p0.Rules : Int))), C7 15 v12] [] 0)) (fun u h => ?_) (fun j13 Aj13 hj13 h => ?_)
 refine aY ?_
 refine zb ?_
 exact eU (zv [] [13, 14, 15] 0) (⟨_, h, rfl⟩)
 refine aI ?_
 refine zx fun _ => ?_
 obtain ⟨e14, he, h⟩ := aB h
 refine zd bG he ?_
 clear he
 refine zk 3 ?_
 refine ze [4, 13, 14, 15] ?_
 refine aN ?_
 refine aI ?_
 refine zx fun _ => ?_
 refine zk 4 ?_
 refine zE (C3 3 0) ?_
 refine zE (A7 e14.Kind) ?_
 refine zE (K3 e14.Kind 13) ?_
 refine zP (.bool (A1 e14.Kind 0 13)) ?_
 refine zk 1 ?_
 refine zE (C3 3 3) ?_
 refine zE (A7 e14.UnderKind) ?_
 refine zE (I6 e14.UnderKind 0) ?_
 refine zP (.bool ((A1 e14.Kind 0 13) || (D3 e14.UnderKind 0))) ?_
 refine zk 1 ?_
 refine zE (C3 3 3) ?_
 refine zE (A7 e14.UnderKind) ?_
 refine zE (K3 e14.UnderKind 13) ?_
 refine zP (.bool (((A1 e14.Kind 0 13) || (D3 e14.UnderKind 0)) || (D7 e14.UnderKind 13))) ?_
 refine zk 1 ?_
 refine mF [4, 13, 14, 15, 19] (L2 := [(13, .c (D4 p0.Rules)), (14, .c (I (List.length p0.Rules : Int))), C7 15 v12, A2 4 3 0, (19, B3 (((A1 e14.Kind 0 13) || (D3 e14.UnderKind 0)) || (D7 e14.UnderKind 13)))]) (G2 := [(3, A9 e14)]) 24 ?_
 refine zi h (fun h => ?_) fun h => ?_
 refine za [2] ?_
 cases h
 exact aH zr
 refine zx fun _ => ?_
 refine zk 4 ?_
 refine zE (C3 3 1) ?_
 refine zE (E5 e14.Class) ?_
 obtain ⟨y15, he, h⟩ := aB h
 refine Ry [(!(cS e14.Class (⟨#[]⟩ : ByteArray)))] Di (fun hg => jU n _ y15 (cM he hg)) ?_
 clear he
 refine zE (B3 (!y15)) ?_
 refine zP (.bool ((!(cS e14.Class (⟨#[]⟩ : ByteArray))) && (!y15))) ?_
 refine zk 1 ?_
 refine zE (C3 3 4) ?_
 refine zE (E5 e14.UnderClass) ?_
 refine zE (.c (Bo (!(cS e14.UnderClass (⟨#[]⟩ : ByteArray))))) ?_
 refine zF [(!((!(cS e14.Class (⟨#[]⟩ : ByteArray))) && (!y15)))] (.c (Bo (!(cS e14.UnderClass (⟨#[]⟩ : ByteArray))))) ?_
 refine zE (C3 3 4) ?_
 refine zE (E5 e14.UnderClass) ?_
 obtain ⟨y16, he, h⟩ := aB h
 refine Ry [(!((!(cS e14.Class (⟨#[]⟩ : ByteArray))) && (!y15))), (!(cS e14.UnderClass (⟨#[]⟩ : ByteArray)))] Di (fun hg => jU n _ y16 (cM he hg)) ?_
 clear he
 refine zE (B3 (!y16)) ?_
 refine zP (.bool ((!(cS e14.UnderClass (⟨#[]⟩ : ByteArray))) && (!y16))) ?_
 refine zP (.bool (((!(cS e14.Class (⟨#[]⟩ : ByteArray))) && (!y15)) || ((!(cS e14.UnderClass (⟨#[]⟩ : ByteArray))) && (!y16)))) ?_
 refine zk 1 ?_
 refine mF [4, 13, 14, 15, 38] (L2 := [(13, .c (D4 p0.Rules)), (14, .c (I (List.length p0.Rules : Int))), C7 15 v12, A2 4 3 0, (38, .c (Bo (((!(cS e14.Class (⟨#[]⟩ : ByteArray))) && (!y15)) || ((!(cS e14.UnderClass (⟨#[]⟩ : ByteArray))) && (!y16)))))]) (G2 := [(3, A9 e14)]) 45 ?_
 refine zi h (fun h => ?_) fun h => ?_
 refine za [2] ?_
 cases h
 exact aH zr
 refine zx fun _ => ?_
 refine zk 4 ?_
 refine zE (C3 3 2) ?_
 refine zE (A7 e14.States) ?_
 refine zE (K3 e14.States 31) ?_
 refine zP (.bool (A1 e14.States 0 31)) ?_
 refine zk 1 ?_
 refine ze [4, 13, 14, 15, 59] ?_
 refine zi h (fun h => ?_) fun h => ?_
 refine za [2] ?_
 cases h
 exact aH zr
 refine zx fun _ => ?_
 refine zk 2 ?_
 refine zl bU e14.Decls ?_
 refine zk 2 ?_
 refine ze [4, 13, 14, 15, 68] ?_
 refine zi h (fun h => ?_) fun h => ?_
 refine za [2] ?_
 cases h
 exact aH zr
 refine aC ?_
 refine zx fun _ => ?_
 refine zk 2 ?_
 refine zl bU e14.Decls ?_
 refine zk 1 ?_
 refine mF [4, 13, 14, 15, 74, 75, 76] (L2 := [(13, .c (D4 p0.Rules)), (14, .c (I (List.length p0.Rules : Int))), C7 15 v12, A2 4 3 0, J7 74 e14.Decls, (75, .c (I (List.length e14.Decls : Int))), I3 76]) (G2 := [(3, A9 e14)]) 63 ?_
 refine aI ?_
 refine bH (fun n s => ∃ v19, eW e14 j13 p0 v12 n v19 = some r ∧ s = mk [(13, .c (D4 p0.Rules)), (14, .c (I (List.length p0.Rules : Int))), C7 15 v12, K2, J7 74 e14.Decls, (75, .c (I (List.length e14.Decls : Int))), C7 76 v19] [(0, A9 e14)] 1) n _ (zv [(3, 0)] [13, 14, 15, 4, 74, 75, 76] 1) ⟨_, h, rfl⟩ (fun s ⟨v19, h, _⟩ => nomatch h) ?_
 rintro n s ⟨v19, h, rfl⟩
 rw [eW] at h
 refine za [4, 13, 14, 15, 74, 75, 76, 77] ?_
 refine aN ?_
 refine zi h (fun h => ?_) fun h => ?_
 refine aC ?_
 refine aN ?_
 refine aI ?_
 refine zx fun _ => ?_
 obtain ⟨e20, he, h⟩ := aB h
 refine zd bU he ?_
 clear he
 refine zk 3 ?_
 refine ze [4, 6, 13, 14, 15, 74, 75, 76] ?_
 refine zx fun _ => ?_
 refine zk 3 ?_
 obtain ⟨y21, he, h⟩ := aB h
 refine zc fok67 (vL n _ _ y21 he) ?_
 clear he
 refine zk 1 ?_
 refine ze [4, 7, 13, 14, 15, 74, 75, 76] ?_
 refine za [4, 7, 13, 14, 15, 74, 75, 76, 85] ?_
 refine zi h (fun h => ?_) fun h => ?_
 refine za [2] ?_
 cases h
 exact aH zr
 refine aC ?_
 refine aY ?_
 refine zb ?_
 exact eU (zv [(0, 0)] [13, 14, 15, 4, 74, 75, 76] 1) (⟨_, h, rfl⟩)
 exact aJ (zv [] [13, 14, 15] 0) (bI (hj13 _ h))
 exact aJ (zv [] [] 0) (bI (hj1 _ h))
def oR  (n : Nat) (p0 : Int) : Option Bool := some ((decide (p0 ≥ 0)) && (decide (p0 ≤ 16777215)))
theorem Ey  (n : Nat) (p0 : Int) (r : Bool) (h : oR n p0 = some r) : dJ E 68 0 [A7 p0] [] (B3 r) [] := by
 refine gY Tryz.func68 rfl ?_
 unfold oR at h
 refine za [0] ?_
 refine zx fun _ => ?_
 refine zk 3 ?_
 refine zE (A7 p0) ?_
 refine zE (B3 (H8 p0 16777215)) ?_
 refine zP (.bool (C9 p0 0 16777215)) ?_
 refine zk 1 ?_
 refine ze [2] ?_
 cases h
 exact aH zr
def dK (e15 : dI) (j14 : List (ByteArray × Bool) → Option Int) (v13 : List (ByteArray × Bool)) (p0 : bM) (v12 : Int) : Nat → Int → Option Int
 | 0, _ => none
 | n + 1, v19 => (if (decide (v19 < 4)) = true then (idx (fX.toL (fX.mk e15.Light e15.Dark e15.HighLight e15.HighDark)) v19).bind fun (e20 : Int) => (gd [(e20 != (-1 : Int))] (oR n e20)).bind fun (y21 : Bool) => (if ((e20 != (-1 : Int)) && (!y21)) = true then some 1 else dK e15 j14 v13 p0 v12 n (IntKind.wrap .i64 (v19 + 1))) else j14 (iF e15.Name true v13))
def fD (p0 : bM) (j1 : Unit → Option Int) : Nat → Int → List (ByteArray × Bool) → Option Int
 | 0, _, _ => none
 | n + 1, v12, v13 => (if (decide (v12 < (List.length p0.Tokens : Int))) = true then (aR (fun (v23 : List (ByteArray × Bool)) => fD p0 j1 n (IntKind.wrap .i64 (v12 + 1)) v23) (fun (j14 : List (ByteArray × Bool) → Option Int) => (idx p0.Tokens v12).bind fun (e15 : dI) => (eD n e15.Name).bind fun (y16 : Bool) => (if (!y16) = true then some 4 else (some (eN e15.Name v13, jZ e15.Name v13)).bind fun (y17 : (Bool × Bool)) => (if y17.1 = true then some 6 else dK e15 j14 v13 p0 v12 n 0)))) else j1 ())
def kV  (n : Nat) (p0 : bM) : Option Int := (if (decide ((List.length p0.Tokens : Int) > 100)) = true then some 2 else (aR (fun (_ : Unit) => some 0) (fun (j1 : Unit → Option Int) => fD p0 j1 n 0 ([] : List (ByteArray × Bool)))))
theorem yP  (n : Nat) (p0 : bM) (r : Int) (h : kV n p0 = some r) : dJ E 35 0 [.agg [F7 p0.Tokens]] [] (A7 r) [] := by
 refine gY Tryz.func35 rfl ?_
 unfold kV at h
 refine za [1] ?_
 refine aN ?_
 refine zx fun _ => ?_
 refine zk 2 ?_
 refine zl cI p0.Tokens ?_
 refine zk 1 ?_
 refine ze [1, 11] ?_
 refine zi h (fun h => ?_) fun h => ?_
 refine za [2] ?_
 cases h
 exact aH zr
 refine aC ?_
 refine za [1, 3] ?_
 refine aV h (fun A j => ∀ u, j u = some r → A (mk [] [] 0)) (fun u h => ?_) (fun j1 Aj1 hj1 h => ?_)
 refine za [2] ?_
 cases h
 exact aH zr
 refine zx fun _ => ?_
 refine zk 2 ?_
 refine zl cI p0.Tokens ?_
 refine zk 1 ?_
 refine ze [3, 14, 15, 16] ?_
 refine aI ?_
 refine bH (fun n s => ∃ v12 v13, fD p0 j1 n v12 v13 = some r ∧ s = mk [F0 3 0, (14, .c (F7 p0.Tokens)), (15, .c (I (List.length p0.Tokens : Int))), C7 16 v12] [(0, .map false (L7 v13))] 1) n _ (zv [(6, 0)] [3, 14, 15, 16] 1) ⟨_, _, h, rfl⟩ (fun s ⟨v12, v13, h, _⟩ => nomatch h) ?_
 rintro n s ⟨v12, v13, h, rfl⟩
 rw [fD] at h
 refine za [3, 14, 15, 16, 17] ?_
 refine aN ?_
 refine zi h (fun h => ?_) fun h => ?_
 refine aC ?_
 refine aV h (fun A j => ∀ v23, j v23 = some r → A (mk [F0 3 0, (14, .c (F7 p0.Tokens)), (15, .c (I (List.length p0.Tokens : Int))), C7 16 v12] [(0, .map false (L7 v23))] 1)) (fun v23 h => ?_) (fun j14 Aj14 hj14 h => ?_)
 refine aY ?_
 refine zb ?_
 exact eU (zv [(0, 0)] [3, 14, 15, 16] 1) (⟨_, _, h, rfl⟩)
 refine aI ?_
 refine zx fun _ => ?_
 obtain ⟨e15, he, h⟩ := aB h
 refine zd cI he ?_
 clear he
 refine zk 3 ?_
 refine ze [3, 5, 14, 15, 16] ?_
 refine aN ?_
 refine aI ?_
 refine zx fun _ => ?_
 refine zk 2 ?_
 obtain ⟨y16, he, h⟩ := aB h
 refine zc Di (jU n _ y16 he) ?_
 clear he
 refine zk 2 ?_
 refine ze [3, 5, 14, 15, 16, 20] ?_
 refine zi h (fun h => ?_) fun h => ?_
 refine za [2] ?_
 cases h
 exact aH zr
 refine zx fun _ => ?_
 refine zk 3 ?_
 obtain ⟨y17, he, h⟩ := aB h
 refine zw (v := .c (Bo y17.1)) [0] (dH (kf := Value.string) (enc := eB) (l := v13) (k := e15.Name) (ok := false) (kk := .str) (j := ⟨.boo, 1, 1, [.bool false]⟩) (p := y17) (v := .c (Bo y17.1)) he (by kernel_rfl) Kf (by kernel_rfl) (by kernel_rfl) (by kernel_rfl)) ?_
 clear he
 refine zk 1 ?_
 refine ze [3, 5, 14, 15, 16, 25] ?_
 refine zi h (fun h => ?_) fun h => ?_
 refine za [2] ?_
 cases h
 exact aH zr
 refine aC ?_
 refine zx fun _ => ?_
 refine zk 3 ?_
 refine kI (kf := Value.string) (enc := eB) (l := v13) (k := e15.Name) (v := true) (n := 0) (ag := false) (kk := .str) (by kernel_rfl) Kf (by kernel_rfl) (by kernel_rfl) rfl rfl ?_
 refine mF [3, 5, 14, 15, 16] (L2 := [F0 3 0, (14, .c (F7 p0.Tokens)), (15, .c (I (List.length p0.Tokens : Int))), C7 16 v12, A2 5 4 0]) (G2 := [(0, .map false (L7 (iF e15.Name true v13))), (4, .blk 85 [Sx e15.Name, I e15.Light, I e15.Dark, I e15.HighLight, I e15.HighDark])]) 20 ?_
 refine za [3, 14, 15, 16, 41, 42] ?_
 refine aI ?_
 refine bH (fun n s => ∃ v19, dK e15 j14 v13 p0 v12 n v19 = some r ∧ s = mk [F0 3 0, (14, .c (F7 p0.Tokens)), (15, .c (I (List.length p0.Tokens : Int))), C7 16 v12, (41, .agg [I e15.Light, I e15.Dark, I e15.HighLight, I e15.HighDark]), C7 42 v19] [(0, .map false (L7 (iF e15.Name true v13)))] 1) n _ (zv [(0, 0)] [3, 14, 15, 16, 41, 42] 1) ⟨_, h, rfl⟩ (fun s ⟨v19, h, _⟩ => nomatch h) ?_
 rintro n s ⟨v19, h, rfl⟩
 rw [dK] at h
 refine za [3, 14, 15, 16, 41, 42, 43] ?_
 refine aN ?_
 refine zi h (fun h => ?_) fun h => ?_
 refine aC ?_
 refine aN ?_
 refine aI ?_
 refine zx fun _ => ?_
 obtain ⟨e20, he, h⟩ := aB h
 refine dR (v := .c (I e20)) (foot := []) (Ch (enc := aO) (xs := (fX.toL (fX.mk e15.Light e15.Dark e15.HighLight e15.HighDark))) (ix := v19) (e := e20) (len := 4) (j := ⟨.int .i64, 1, 8, [.int .i64 0]⟩) (v := .c (I e20)) he (by kernel_rfl) (by kernel_rfl) (fun x => by kernel_rfl) (by decide) (by kernel_rfl)) (by kernel_rfl) rfl rfl ?_
 clear he
 refine zk 1 ?_
 refine ze [3, 7, 14, 15, 16, 41, 42] ?_
 refine zx fun _ => ?_
 refine zk 3 ?_
 refine zE (A7 e20) ?_
 obtain ⟨y21, he, h⟩ := aB h
 refine Ry [(e20 != (-1 : Int))] fok68 (fun hg => Ey n _ y21 (cM he hg)) ?_
 clear he
 refine zE (B3 (!y21)) ?_
 refine zP (.bool ((e20 != (-1 : Int)) && (!y21))) ?_
 refine ze [3, 14, 15, 16, 41, 42, 51] ?_
 refine zi h (fun h => ?_) fun h => ?_
 refine za [2] ?_
 cases h
 exact aH zr
 refine aC ?_
 refine aY ?_
 refine zb ?_
 exact eU (zv [(0, 0)] [3, 14, 15, 16, 41, 42] 1) (⟨_, h, rfl⟩)
 exact aJ (zv [(0, 0)] [3, 14, 15, 16] 1) (bI (hj14 _ h))
 exact aJ (zv [] [] 0) (bI (hj1 _ h))
def fW (y2 : (aP × Bool)) (self_view_preorder : (List (Int × aP)) → Int → Option (List Int)) (p0 : (List (Int × aP))) (j1 : List Int → Option (List Int)) : Nat → List Int → Int → Option (List Int)
 | 0, _, _ => none
 | n + 1, v6, v7 => (if (decide (v7 < (List.length y2.1.Kids : Int))) = true then (idx y2.1.Kids v7).bind fun (e8 : Int) => (self_view_preorder p0 e8).bind fun (y9 : (List Int)) => (pE 8 v6 y9).bind fun (l10 : List Int) => fW y2 self_view_preorder p0 j1 n l10 (IntKind.wrap .i64 (v7 + 1)) else j1 v6)
def jT (self_view_preorder : (List (Int × aP)) → Int → Option (List Int)) (n : Nat) (p0 : (List (Int × aP))) (p1 : Int) : Option (List Int) := (aR (fun (v13 : List Int) => some v13) (fun (j1 : List Int → Option (List Int)) => (some (eN p1 p0, jZ p1 p0)).bind fun (y2 : (aP × Bool)) => fW y2 self_view_preorder p0 j1 n [p1] 0))
theorem uE (self_view_preorder : (J8) → Int → Option (K9)) (ih_view_preorder : ∀ (p0 : (J8)) (p1 : Int) (r : (K9)), self_view_preorder p0 p1 = some r → dJ E 74 0 [L8 p0, A7 p1] [] (.c (C1 r)) []) (n : Nat) (p0 : (J8)) (p1 : Int) (r : (K9)) (h : jT self_view_preorder n p0 p1 = some r) : dJ E 74 0 [L8 p0, A7 p1] [] (.c (C1 r)) [] := by
 refine gY Tryz.func74 rfl ?_
 unfold jT at h
 refine za [0, 1] ?_
 refine za [0, 1, 5] ?_
 refine aV h (fun A j => ∀ v13, j v13 = some r → A (mk [(5, .c (.app 0 (List.map aO v13)))] [B7 0 3 1 v13] 1)) (fun v13 h => ?_) (fun j1 Aj1 hj1 h => ?_)
 refine za [4] ?_
 cases h
 exact aH zr
 refine zx fun _ => ?_
 refine zk 2 ?_
 obtain ⟨y2, he, h⟩ := aB h
 refine zw (v := .agg [I y2.1.ID, I y2.1.Parent, I y2.1.Kind, Sx y2.1.Key, B6 y2.1.Attrs, C0 y2.1.Actions, C1 y2.1.Kids]) [] (dH (kf := (A6)) (enc := aM) (l := p0) (k := p1) (ok := false) (kk := .int .i64) (j := ⟨.st [(3, 0, 1), (3, 1, 1), (3, 2, 1), (9, 3, 1), (55, 4, 1), (56, 5, 1), (22, 6, 1)], 7, 112, [.int .i64 0, .int .i64 0, .int .i64 0, .string ⟨#[]⟩, .slice none 0 0, .slice none 0 0, .slice none 0 0]⟩) (p := y2) (v := .agg [I y2.1.ID, I y2.1.Parent, I y2.1.Kind, Sx y2.1.Key, B6 y2.1.Attrs, C0 y2.1.Actions, C1 y2.1.Kids]) he (by kernel_rfl) gS (by kernel_rfl) (by kernel_rfl) (by kernel_rfl)) ?_
 clear he
 refine zk 1 ?_
 refine zl aO y2.1.Kids ?_
 refine zk 1 ?_
 refine ze [0, 5, 13, 14, 15] ?_
 refine aI ?_
 refine bH (fun n s => ∃ v6 v7, fW y2 self_view_preorder p0 j1 n v6 v7 = some r ∧ s = mk [(0, L8 p0), (5, .c (.app 0 (List.map aO v6))), I8 13 y2.1.Kids, (14, .c (I (List.length y2.1.Kids : Int))), C7 15 v7] [B7 0 3 1 v6] 1) n _ (zv [(2, 0)] [0, 5, 13, 14, 15] 1) ⟨_, _, h, rfl⟩ (fun s ⟨v6, v7, h, _⟩ => nomatch h) ?_
 rintro n s ⟨v6, v7, h, rfl⟩
 rw [fW] at h
 refine za [0, 5, 13, 14, 15, 16] ?_
 refine aN ?_
 refine zi h (fun h => ?_) fun h => ?_
 refine aC ?_
 refine aN ?_
 refine aI ?_
 refine zx fun _ => ?_
 obtain ⟨e8, he, h⟩ := aB h
 refine zd aO he ?_
 clear he
 refine zk 2 ?_
 refine ze [0, 5, 7, 13, 14, 15] ?_
 refine zy fun _ => ?_
 refine zk 3 ?_
 obtain ⟨y9, he, h⟩ := aB h
 refine zc Xb (ih_view_preorder _ _ y9 he) ?_
 clear he
 obtain ⟨l10, he, h⟩ := aB h
 refine cE (enc := aO) (l := v6) (els := y9) (r := l10) (old := some 0) (e := 3) (sz := 1) (bytes := 8) (k := (G8 v6)) (nm := 9) he (by kernel_rfl) (by kernel_rfl) (fun x => by kernel_rfl) (by kernel_rfl) (by kernel_rfl) rfl rfl rfl ?_
 clear he
 refine zk 1 ?_
 refine bY ?_
 refine aY ?_
 refine zb ?_
 exact eU (zv [(9, 0)] [0, 5, 13, 14, 15] 1) (⟨_, _, h, rfl⟩)
 exact aJ (zv [(0, 0)] [5] 1) (bI (hj1 _ h))
def eV : Nat → (List (Int × aP)) → Int → Option (List Int)
 | 0, _, _ => none
 | n + 1, p0, p1 => jT (fun a0 a1 => eV n a0 a1) n p0 p1
theorem sG (n : Nat) : (∀ (p0 : (J8)) (p1 : Int) (r : (K9)), eV n p0 p1 = some r → dJ E 74 0 [L8 p0, A7 p1] [] (.c (C1 r)) []) := by
 induction n with
 | zero => intro p0 p1 r h; rw [eV] at h; cases h
 | succ n ih => intro p0 p1 r h; rw [eV] at h; exact uE _ ih n _ _ r h
def iZ (e29 : aP) (v10 : List (Int × aP)) (j28 : List (Int × Bool) → Option ((List (Int × aP)) × Bool)) (p0 : bA) (v26 : Int) : Nat → Int → List (Int × Bool) → Option ((List (Int × aP)) × Bool)
 | 0, _, _ => none
 | n + 1, v33, v34 => (if (decide (v33 < (List.length e29.Kids : Int))) = true then (idx e29.Kids v33).bind fun (e35 : Int) => (some (eN e35 v10, jZ e35 v10)).bind fun (y36 : (aP × Bool)) => (gd [(!((!y36.2) || (y36.1.Parent != e29.ID)))] (some (eN e35 v34, jZ e35 v34))).bind fun (y37 : (Bool × Bool)) => (if (((!y36.2) || (y36.1.Parent != e29.ID)) || y37.1) = true then some (([] : List (Int × aP)), false) else iZ e29 v10 j28 p0 v26 n (IntKind.wrap .i64 (v33 + 1)) (iF e35 true v34)) else j28 v34)
def gU (p0 : bA) (v10 : List (Int × aP)) (j12 : List (Int × Bool) → Option ((List (Int × aP)) × Bool)) : Nat → Int → List (Int × Bool) → Option ((List (Int × aP)) × Bool)
 | 0, _, _ => none
 | n + 1, v26, v27 => (if (decide (v26 < (List.length p0.Nodes : Int))) = true then (aR (fun (v40 : List (Int × Bool)) => gU p0 v10 j12 n (IntKind.wrap .i64 (v26 + 1)) v40) (fun (j28 : List (Int × Bool) → Option ((List (Int × aP)) × Bool)) => (idx p0.Nodes v26).bind fun (e29 : aP) => iZ e29 v10 j28 p0 v26 n 0 v27)) else j12 v27)
def jB (p0 : bA) (j1 : List (Int × aP) → Option ((List (Int × aP)) × Bool)) : Nat → Int → Int → List (Int × aP) → Option ((List (Int × aP)) × Bool)
 | 0, _, _, _ => none
 | n + 1, v3, v4, v5 => (if (decide (v4 < (List.length p0.Nodes : Int))) = true then (idx p0.Nodes v4).bind fun (e6 : aP) => (if (((decide (e6.ID ≤ v3)) || (decide (e6.ID ≥ p0.Next))) || ((e6.Parent == 0) != (e6.ID == p0.Root))) = true then some (([] : List (Int × aP)), false) else jB p0 j1 n e6.ID (IntKind.wrap .i64 (v4 + 1)) (iF e6.ID e6 v5)) else j1 v5)
def qM  (n : Nat) (p0 : bA) : Option ((List (Int × aP)) × Bool) := (if ((((decide (p0.Next < 2)) || (decide (p0.Next > 1099511627776))) || (decide ((List.length p0.Nodes : Int) < 1))) || (decide ((List.length p0.Nodes : Int) > 400))) = true then some (([] : List (Int × aP)), false) else (aR (fun (v10 : List (Int × aP)) => (some (eN p0.Root v10, jZ p0.Root v10)).bind fun (y11 : (aP × Bool)) => (if (!y11.2) = true then some (([] : List (Int × aP)), false) else (aR (fun (v43 : List (Int × Bool)) => (if ((List.length v43 : Int) != (List.length v10 : Int)) = true then some (([] : List (Int × aP)), false) else (eV n v10 p0.Root).bind fun (y44 : (List Int)) => some (v10, ((List.length y44 : Int) == (List.length v10 : Int))))) (fun (j12 : List (Int × Bool) → Option ((List (Int × aP)) × Bool)) => gU p0 v10 j12 n 0 (iF p0.Root true ([] : List (Int × Bool))))))) (fun (j1 : List (Int × aP) → Option ((List (Int × aP)) × Bool)) => jB p0 j1 n 0 0 ([] : List (Int × aP)))))
theorem Gm  (n : Nat) (p0 : bA) (r : ((J8) × Bool)) (h : qM n p0 = some r) : dJ E 93 0 [E2 p0] [] (.tup [L8 r.1, B3 r.2]) [] := by
 refine gY Tryz.func93 rfl ?_
 unfold qM at h
 refine za [1] ?_
 refine aN ?_
 refine zx fun _ => ?_
 refine zk 4 ?_
 refine zE (C3 0 1) ?_
 refine zE (A7 p0.Next) ?_
 refine zE (B3 (I1 p0.Next)) ?_
 refine zP (.bool (A1 p0.Next 2 1099511627776)) ?_
 refine zk 1 ?_
 refine zE (C3 0 2) ?_
 refine zE (F4 p0.Nodes) ?_
 refine kR (e := [!(A1 p0.Next 2 1099511627776)]) [(27, F4 p0.Nodes, some 1)] (v := .c (I (List.length p0.Nodes : Int))) (foot := []) (by kernel_rfl) (by kernel_rfl) (by kernel_rfl) (fun hg => kX (enc := aM) (l := p0.Nodes) (by kernel_rfl)) rfl rfl ?_
 refine zE (.c (Bo (decide ((List.length p0.Nodes : Int) < 1)))) ?_
 refine zP (.bool ((A1 p0.Next 2 1099511627776) || (decide ((List.length p0.Nodes : Int) < 1)))) ?_
 refine zk 1 ?_
 refine zE (C3 0 2) ?_
 refine zE (F4 p0.Nodes) ?_
 refine kR (e := [(!((A1 p0.Next 2 1099511627776) || (decide ((List.length p0.Nodes : Int) < 1))))]) [(33, F4 p0.Nodes, some 1)] (v := .c (I (List.length p0.Nodes : Int))) (foot := []) (by kernel_rfl) (by kernel_rfl) (by kernel_rfl) (fun hg => kX (enc := aM) (l := p0.Nodes) (by kernel_rfl)) rfl rfl ?_
 refine zE (.c (Bo (decide ((List.length p0.Nodes : Int) > 400)))) ?_
 refine zP (.bool (((A1 p0.Next 2 1099511627776) || (decide ((List.length p0.Nodes : Int) < 1))) || (decide ((List.length p0.Nodes : Int) > 400)))) ?_
 refine mF [1, 36] (L2 := [M0, (36, .c (Bo (((A1 p0.Next 2 1099511627776) || (decide ((List.length p0.Nodes : Int) < 1))) || (decide ((List.length p0.Nodes : Int) > 400)))))]) (G2 := [(0, B1 p0)]) 23 ?_
 refine zi h (fun h => ?_) fun h => ?_
 refine za [2, 3] ?_
 refine aJ (pS 2 true (L2 := [(2, .c (.lmap true (List.map (eM (A6) aM) ([] : List (Int × aP))))), (3, .c (Bo false))]) (by kernel_rfl) (by kernel_rfl)) ?_
 cases h
 exact aH zr
 refine aC ?_
 refine za [1, 4] ?_
 refine za [1, 4, 5] ?_
 refine aV h (fun A j => ∀ v10, j v10 = some r → A (mk [M0, F0 4 1] [(0, B1 p0), (1, .map true (H0 v10))] 2)) (fun v10 h => ?_) (fun j1 Aj1 hj1 h => ?_)
 refine aN ?_
 refine zx fun _ => ?_
 refine zk 3 ?_
 obtain ⟨y11, he, h⟩ := aB h
 refine zw (v := .tup [C8 y11.1, B3 y11.2]) [1] (dH (kf := (A6)) (enc := aM) (l := v10) (k := p0.Root) (ok := true) (kk := .int .i64) (j := ⟨.st [(3, 0, 1), (3, 1, 1), (3, 2, 1), (9, 3, 1), (55, 4, 1), (56, 5, 1), (22, 6, 1)], 7, 112, [.int .i64 0, .int .i64 0, .int .i64 0, .string ⟨#[]⟩, .slice none 0 0, .slice none 0 0, .slice none 0 0]⟩) (p := y11) (v := .agg [I y11.1.ID, I y11.1.Parent, I y11.1.Kind, Sx y11.1.Key, B6 y11.1.Attrs, C0 y11.1.Actions, C1 y11.1.Kids]) he (by kernel_rfl) gS (by kernel_rfl) (by kernel_rfl) (by kernel_rfl)) ?_
 clear he
 refine zk 6 ?_
 refine ze [1, 4, 9] ?_
 refine za [1, 4, 82] ?_
 refine zi h (fun h => ?_) fun h => ?_
 refine za [2, 3] ?_
 refine aJ (pS 2 true (L2 := [(2, .c (.lmap true (List.map (eM (A6) aM) ([] : List (Int × aP))))), (3, .c (Bo false))]) (by kernel_rfl) (by kernel_rfl)) ?_
 cases h
 exact aH zr
 refine aC ?_
 refine zx fun _ => ?_
 refine zk 3 ?_
 refine kI (kf := (A6)) (enc := eB) (l := ([] : List (Int × Bool))) (k := p0.Root) (v := true) (n := 14) (ag := false) (kk := .int .i64) (by kernel_rfl) gS (by kernel_rfl) (by kernel_rfl) rfl rfl ?_
 refine zk 2 ?_
 refine ze [1, 4, 10] ?_
 refine aV h (fun A j => ∀ v43, j v43 = some r → A (mk [M0, F0 4 1, F0 10 2] [(0, B1 p0), (1, .map true (H0 v10)), (2, .map false (L4 v43))] 3)) (fun v43 h => ?_) (fun j12 Aj12 hj12 h => ?_)
 refine aN ?_
 refine zx fun _ => ?_
 refine zk 1 ?_
 refine zw (v := .c (I (List.length v43 : Int))) [2] (Fj (A6) eB v43 (by kernel_rfl)) ?_
 refine zk 1 ?_
 refine zw (v := .c (I (List.length v10 : Int))) [1] (Fj (A6) aM v10 (by kernel_rfl)) ?_
 refine zk 1 ?_
 refine ze [1, 4, 129] ?_
 refine zi h (fun h => ?_) fun h => ?_
 refine za [2, 3] ?_
 refine aJ (pS 2 true (L2 := [(2, .c (.lmap true (List.map (eM (A6) aM) ([] : List (Int × aP))))), (3, .c (Bo false))]) (by kernel_rfl) (by kernel_rfl)) ?_
 cases h
 exact aH zr
 refine aC ?_
 refine aJ (sB 1 (ag := true) (l := List.map (eM (A6) aM) v10) (L2 := [M0, (4, L8 v10), (129, .c (Bo ((List.length v43 : Int) != (List.length v10 : Int))))]) (G2 := [(0, B1 p0), (2, .map false (L4 v43))]) (by kernel_rfl) (by kernel_rfl) (by kernel_rfl)) ?_
 refine zx fun _ => ?_
 refine zk 4 ?_
 obtain ⟨y44, he, h⟩ := aB h
 refine zc Xb (sG n _ _ y44 he) ?_
 clear he
 refine zl aO y44 ?_
 refine zk 1 ?_
 refine zw (v := .c (I (List.length v10 : Int))) [] (Fj (A6) aM v10 (by kernel_rfl)) ?_
 refine zk 3 ?_
 refine mF [2, 3] (L2 := [(2, L8 v10), (3, .c (Bo ((List.length y44 : Int) == (List.length v10 : Int))))]) (G2 := [(0, B1 p0), (2, .map false (L4 v43))]) 19 ?_
 cases h
 exact aH zr
 refine zx fun _ => ?_
 refine zk 2 ?_
 refine zl aM p0.Nodes ?_
 refine zk 1 ?_
 refine mF [1, 4, 10, 88, 89, 90] (L2 := [M0, F0 4 1, F0 10 14, (88, F4 p0.Nodes), (89, .c (I (List.length p0.Nodes : Int))), I3 90]) (G2 := [(0, B1 p0), (1, .map true (H0 v10)), (9, E1 y11.1), (14, .map false (List.map (eM (A6) eB) (iF p0.Root true ([] : List (Int × Bool)))))]) 24 ?_
 refine aI ?_
 refine bH (fun n s => ∃ v26 v27, gU p0 v10 j12 n v26 v27 = some r ∧ s = mk [M0, F0 4 1, F0 10 2, (88, F4 p0.Nodes), (89, .c (I (List.length p0.Nodes : Int))), C7 90 v26] [(0, B1 p0), (1, .map true (H0 v10)), (2, .map false (L4 v27))] 3) n _ (zv [(0, 0), (1, 1), (14, 2)] [1, 4, 10, 88, 89, 90] 3) ⟨_, _, h, rfl⟩ (fun s ⟨v26, v27, h, _⟩ => nomatch h) ?_
 rintro n s ⟨v26, v27, h, rfl⟩
 rw [gU] at h
 refine za [1, 4, 10, 88, 89, 90, 91] ?_
 refine aN ?_
 refine zi h (fun h => ?_) fun h => ?_
 refine aC ?_
 refine aV h (fun A j => ∀ v40, j v40 = some r → A (mk [M0, F0 4 1, F0 10 2, (88, F4 p0.Nodes), (89, .c (I (List.length p0.Nodes : Int))), C7 90 v26] [(0, B1 p0), (1, .map true (H0 v10)), (2, .map false (L4 v40))] 3)) (fun v40 h => ?_) (fun j28 Aj28 hj28 h => ?_)
 refine aY ?_
 refine zb ?_
 exact eU (zv [(0, 0), (1, 1), (2, 2)] [1, 4, 10, 88, 89, 90] 3) (⟨_, _, h, rfl⟩)
 refine aI ?_
 refine zx fun _ => ?_
 obtain ⟨e29, he, h⟩ := aB h
 refine zd aM he ?_
 clear he
 refine zk 3 ?_
 refine ze [1, 4, 10, 12, 88, 89, 90] ?_
 refine zx fun _ => ?_
 refine zk 2 ?_
 refine zl aO e29.Kids ?_
 refine zk 1 ?_
 refine ze [1, 4, 10, 12, 88, 89, 90, 95, 96, 97] ?_
 refine aI ?_
 refine bH (fun n s => ∃ v33 v34, iZ e29 v10 j28 p0 v26 n v33 v34 = some r ∧ s = mk [M0, F0 4 1, F0 10 2, (88, F4 p0.Nodes), (89, .c (I (List.length p0.Nodes : Int))), C7 90 v26, A2 12 3 0, I8 95 e29.Kids, (96, .c (I (List.length e29.Kids : Int))), C7 97 v33] [(0, B1 p0), (1, .map true (H0 v10)), (2, .map false (L4 v34)), (3, E1 e29)] 4) n _ (zv [(0, 0), (1, 1), (2, 2), (6, 3)] [1, 4, 10, 88, 89, 90, 12, 95, 96, 97] 4) ⟨_, _, h, rfl⟩ (fun s ⟨v33, v34, h, _⟩ => nomatch h) ?_
 rintro n s ⟨v33, v34, h, rfl⟩
 rw [iZ] at h
 refine za [1, 4, 10, 12, 88, 89, 90, 95, 96, 97, 98] ?_
 refine aN ?_
 refine zi h (fun h => ?_) fun h => ?_
 refine aC ?_
 refine aN ?_
 refine aI ?_
 refine zx fun _ => ?_
 obtain ⟨e35, he, h⟩ := aB h
 refine zd aO he ?_
 clear he
 refine zk 2 ?_
 refine ze [1, 4, 10, 12, 14, 88, 89, 90, 95, 96, 97] ?_
 refine aN ?_
 refine zx fun _ => ?_
 refine zk 2 ?_
 obtain ⟨y36, he, h⟩ := aB h
 refine zw (v := .tup [C8 y36.1, B3 y36.2]) [1] (dH (kf := (A6)) (enc := aM) (l := v10) (k := e35) (ok := true) (kk := .int .i64) (j := ⟨.st [(3, 0, 1), (3, 1, 1), (3, 2, 1), (9, 3, 1), (55, 4, 1), (56, 5, 1), (22, 6, 1)], 7, 112, [.int .i64 0, .int .i64 0, .int .i64 0, .string ⟨#[]⟩, .slice none 0 0, .slice none 0 0, .slice none 0 0]⟩) (p := y36) (v := .agg [I y36.1.ID, I y36.1.Parent, I y36.1.Kind, Sx y36.1.Key, B6 y36.1.Attrs, C0 y36.1.Actions, C1 y36.1.Kids]) he (by kernel_rfl) gS (by kernel_rfl) (by kernel_rfl) (by kernel_rfl)) ?_
 clear he
 refine zk 6 ?_
 refine ze [1, 4, 10, 12, 14, 15, 16, 88, 89, 90, 95, 96, 97] ?_
 refine zx fun _ => ?_
 refine zk 3 ?_
 refine zE (C3 14 1) ?_
 refine zE (A7 y36.1.Parent) ?_
 refine zE (C3 3 0) ?_
 refine zE (A7 e29.ID) ?_
 refine zE (B3 (y36.1.Parent != e29.ID)) ?_
 refine zP (.bool ((!y36.2) || (y36.1.Parent != e29.ID))) ?_
 refine zk 1 ?_
 refine zE (.c (.mapr 2)) ?_
 refine zE (A7 e35) ?_
 obtain ⟨y37, he, h⟩ := aB h
 refine Dz (e := [!((!y36.2) || (y36.1.Parent != e29.ID))]) [(117, .c (.mapr 2), some 1), (118, A7 e35, some 1)] (v := .c (Bo y37.1)) (foot := [2]) (by kernel_rfl) (by kernel_rfl) (by kernel_rfl) (fun hg => dH (kf := (A6)) (enc := eB) (l := v34) (k := e35) (ok := false) (kk := .int .i64) (j := ⟨.boo, 1, 1, [.bool false]⟩) (p := y37) (v := .c (Bo y37.1)) (cM he hg) (by kernel_rfl) gS (by kernel_rfl) (by kernel_rfl) (by kernel_rfl)) rfl rfl ?_
 clear he
 refine zP (.bool (((!y36.2) || (y36.1.Parent != e29.ID)) || y37.1)) ?_
 refine mF [1, 4, 10, 12, 14, 88, 89, 90, 95, 96, 97, 120] (L2 := [M0, F0 4 1, F0 10 2, (88, F4 p0.Nodes), (89, .c (I (List.length p0.Nodes : Int))), C7 90 v26, A2 12 3 0, I8 95 e29.Kids, (96, .c (I (List.length e29.Kids : Int))), C7 97 v33, C7 14 e35, (120, B3 (((!y36.2) || (y36.1.Parent != e29.ID)) || y37.1))]) (G2 := [(0, B1 p0), (1, .map true (H0 v10)), (2, .map false (L4 v34)), (3, E1 e29), (14, E1 y36.1)]) 31 ?_
 refine zi h (fun h => ?_) fun h => ?_
 refine za [2, 3] ?_
 refine aJ (pS 2 true (L2 := [(2, .c (.lmap true (List.map (eM (A6) aM) ([] : List (Int × aP))))), (3, .c (Bo false))]) (by kernel_rfl) (by kernel_rfl)) ?_
 cases h
 exact aH zr
 refine aC ?_
 refine zy fun _ => ?_
 refine zk 2 ?_
 refine kI (kf := (A6)) (enc := eB) (l := v34) (k := e35) (v := true) (n := 2) (ag := false) (kk := .int .i64) (by kernel_rfl) gS (by kernel_rfl) (by kernel_rfl) rfl rfl ?_
 refine bY ?_
 refine aY ?_
 refine zb ?_
 exact eU (zv [(0, 0), (1, 1), (2, 2), (3, 3)] [1, 4, 10, 88, 89, 90, 12, 95, 96, 97] 4) (⟨_, _, h, rfl⟩)
 exact aJ (zv [(0, 0), (1, 1), (2, 2)] [1, 4, 10, 88, 89, 90] 3) (bI (hj28 _ h))
 exact aJ (zv [(0, 0), (1, 1), (2, 2)] [1, 4, 10] 3) (bI (hj12 _ h))
 refine zx fun _ => ?_
 refine zk 2 ?_
 refine zl aM p0.Nodes ?_
 refine zk 1 ?_
 refine ze [1, 4, 5, 39, 40, 41] ?_
 refine aI ?_
 refine bH (fun n s => ∃ v3 v4 v5, jB p0 j1 n v3 v4 v5 = some r ∧ s = mk [M0, F0 4 1, C7 5 v3, (39, F4 p0.Nodes), (40, .c (I (List.length p0.Nodes : Int))), C7 41 v4] [(0, B1 p0), (1, .map true (H0 v5))] 2) n _ (zv [(0, 0), (23, 1)] [1, 4, 5, 39, 40, 41] 2) ⟨_, _, _, h, rfl⟩ (fun s ⟨v3, v4, v5, h, _⟩ => nomatch h) ?_
 rintro n s ⟨v3, v4, v5, h, rfl⟩
 rw [jB] at h
 refine za [1, 4, 5, 39, 40, 41, 42] ?_
 refine aN ?_
 refine zi h (fun h => ?_) fun h => ?_
 refine aC ?_
 refine aN ?_
 refine aI ?_
 refine zx fun _ => ?_
 obtain ⟨e6, he, h⟩ := aB h
 refine zd aM he ?_
 clear he
 refine zk 3 ?_
 refine ze [1, 4, 5, 7, 39, 40, 41] ?_
 refine aN ?_
 refine zx fun _ => ?_
 refine zk 5 ?_
 refine zE (C3 5 0) ?_
 refine zE (A7 e6.ID) ?_
 refine zE (C3 0 1) ?_
 refine zE (A7 p0.Next) ?_
 refine zE (B3 (H9 e6.ID p0.Next)) ?_
 refine zP (.bool ((H8 e6.ID v3) || (H9 e6.ID p0.Next))) ?_
 refine zk 1 ?_
 refine zE (C3 5 1) ?_
 refine zE (A7 e6.Parent) ?_
 refine zE (B3 (e6.Parent == 0)) ?_
 refine zE (C3 5 0) ?_
 refine zE (A7 e6.ID) ?_
 refine zE (C3 0 0) ?_
 refine zE (A7 p0.Root) ?_
 refine zE (B3 (e6.ID == p0.Root)) ?_
 refine zE (B3 ((e6.Parent == 0) != (e6.ID == p0.Root))) ?_
 refine zP (.bool (((H8 e6.ID v3) || (H9 e6.ID p0.Next)) || ((e6.Parent == 0) != (e6.ID == p0.Root)))) ?_
 refine mF [1, 4, 7, 39, 40, 41, 66] (L2 := [M0, F0 4 1, (39, F4 p0.Nodes), (40, .c (I (List.length p0.Nodes : Int))), C7 41 v4, A2 7 5 0, (66, B3 (((H8 e6.ID v3) || (H9 e6.ID p0.Next)) || ((e6.Parent == 0) != (e6.ID == p0.Root))))]) (G2 := [(0, B1 p0), (1, .map true (H0 v5)), (5, E1 e6)]) 29 ?_
 refine zi h (fun h => ?_) fun h => ?_
 refine za [2, 3] ?_
 refine aJ (pS 2 true (L2 := [(2, .c (.lmap true (List.map (eM (A6) aM) ([] : List (Int × aP))))), (3, .c (Bo false))]) (by kernel_rfl) (by kernel_rfl)) ?_
 cases h
 exact aH zr
 refine aC ?_
 refine za [1, 4, 5, 7, 39, 40, 41] ?_
 refine zy fun _ => ?_
 refine zk 4 ?_
 refine kI (kf := (A6)) (enc := aM) (l := v5) (k := e6.ID) (v := e6) (n := 1) (ag := true) (kk := .int .i64) (by kernel_rfl) gS (by kernel_rfl) (by kernel_rfl) rfl rfl ?_
 refine bY ?_
 refine aY ?_
 refine zb ?_
 exact eU (zv [(0, 0), (1, 1)] [1, 4, 5, 39, 40, 41] 2) (⟨_, _, _, h, rfl⟩)
 exact aJ (zv [(0, 0), (1, 1)] [1, 4] 2) (bI (hj1 _ h))
def fA (y1 : (aP × Bool)) (self_view_described : (List (Int × aP)) → Int → Option aG) (p0 : (List (Int × aP))) (j2 : List aG → Option aG) : Nat → Int → List aG → Option aG
 | 0, _, _ => none
 | n + 1, v7, v8 => (if (decide (v7 < (List.length y1.1.Kids : Int))) = true then (idx y1.1.Kids v7).bind fun (e9 : Int) => (self_view_described p0 e9).bind fun (y10 : aG) => (pE 96 v8 [y10]).bind fun (l11 : List aG) => fA y1 self_view_described p0 j2 n (IntKind.wrap .i64 (v7 + 1)) l11 else j2 v8)
def jF (self_view_described : (List (Int × aP)) → Int → Option aG) (n : Nat) (p0 : (List (Int × aP))) (p1 : Int) : Option aG := (some (eN p1 p0, jZ p1 p0)).bind fun (y1 : (aP × Bool)) => (aR (fun (v15 : List aG) => some (aG.mk y1.1.Kind y1.1.Key y1.1.Attrs y1.1.Actions v15)) (fun (j2 : List aG → Option aG) => fA y1 self_view_described p0 j2 n 0 ([] : List aG)))
theorem tP (self_view_described : (J8) → Int → Option aG) (ih_view_described : ∀ (p0 : (J8)) (p1 : Int) (r : aG), self_view_described p0 p1 = some r → dJ E 94 0 [L8 p0, A7 p1] [] (A8 r) []) (n : Nat) (p0 : (J8)) (p1 : Int) (r : aG) (h : jF self_view_described n p0 p1 = some r) : dJ E 94 0 [L8 p0, A7 p1] [] (A8 r) [] := by
 refine gY Tryz.func94 rfl ?_
 unfold jF at h
 refine za [0, 1, 4] ?_
 refine zx fun _ => ?_
 refine zk 2 ?_
 obtain ⟨y1, he, h⟩ := aB h
 refine zw (v := .agg [I y1.1.ID, I y1.1.Parent, I y1.1.Kind, Sx y1.1.Key, B6 y1.1.Attrs, C0 y1.1.Actions, C1 y1.1.Kids]) [] (dH (kf := (A6)) (enc := aM) (l := p0) (k := p1) (ok := false) (kk := .int .i64) (j := ⟨.st [(3, 0, 1), (3, 1, 1), (3, 2, 1), (9, 3, 1), (55, 4, 1), (56, 5, 1), (22, 6, 1)], 7, 112, [.int .i64 0, .int .i64 0, .int .i64 0, .string ⟨#[]⟩, .slice none 0 0, .slice none 0 0, .slice none 0 0]⟩) (p := y1) (v := .agg [I y1.1.ID, I y1.1.Parent, I y1.1.Kind, Sx y1.1.Key, B6 y1.1.Attrs, C0 y1.1.Actions, C1 y1.1.Kids]) he (by kernel_rfl) gS (by kernel_rfl) (by kernel_rfl) (by kernel_rfl)) ?_
 clear he
 refine zk 2 ?_
 refine ze [0, 4, 5] ?_
 refine za [0, 4, 5, 6] ?_
 refine aV h (fun A j => ∀ v15, j v15 = some r → A (mk [K2, L6] [(0, .blk 70 [I 0, Sx (⟨#[]⟩ : ByteArray), cJ, cJ, cJ]), (1, .blk 70 [I y1.1.Kind, Sx y1.1.Key, B6 y1.1.Attrs, C0 y1.1.Actions, J6 2 v15]), B7 2 70 5 v15] 3)) (fun v15 h => ?_) (fun j2 Aj2 hj2 h => ?_)
 refine za [4] ?_
 cases h
 exact aH zr
 refine zx fun _ => ?_
 refine zk 2 ?_
 refine zl aO y1.1.Kids ?_
 refine zk 1 ?_
 refine ze [0, 4, 6, 22, 23, 24] ?_
 refine aI ?_
 refine bH (fun n s => ∃ v7 v8, fA y1 self_view_described p0 j2 n v7 v8 = some r ∧ s = mk [(0, L8 p0), K2, L6, I8 22 y1.1.Kids, (23, .c (I (List.length y1.1.Kids : Int))), C7 24 v7] [(0, .blk 70 [I 0, Sx (⟨#[]⟩ : ByteArray), cJ, cJ, cJ]), (1, .blk 70 [I y1.1.Kind, Sx y1.1.Key, B6 y1.1.Attrs, C0 y1.1.Actions, J6 2 v8]), B7 2 70 5 v8] 3) n _ (dY.trans (lU (n := 15) (T0 := 70) (l := [I y1.1.Kind, Sx y1.1.Key, B6 y1.1.Attrs, C0 y1.1.Actions, cJ]) (G2 := [(0, .blk 70 [I 0, Sx (⟨#[]⟩ : ByteArray), cJ, cJ, cJ]), (4, E1 y1.1), (15, .blk 70 [I y1.1.Kind, Sx y1.1.Key, B6 y1.1.Attrs, C0 y1.1.Actions, .app 21 (List.map bB ([] : List aG))]), (21, .tok 70 5 (List.length ([] : List aG)))]) (lim2 := 22) 4 70 5 (by kernel_rfl) (by kernel_rfl) (by kernel_rfl) (by kernel_rfl)) (zv [(0, 0), (15, 1), (21, 2)] [0, 4, 6, 22, 23, 24] 3)) ⟨_, _, h, rfl⟩ (fun s ⟨v7, v8, h, _⟩ => nomatch h) ?_
 rintro n s ⟨v7, v8, h, rfl⟩
 rw [fA] at h
 refine za [0, 4, 6, 22, 23, 24, 25] ?_
 refine aN ?_
 refine zi h (fun h => ?_) fun h => ?_
 refine aC ?_
 refine aN ?_
 refine aI ?_
 refine zx fun _ => ?_
 obtain ⟨e9, he, h⟩ := aB h
 refine zd aO he ?_
 clear he
 refine zk 2 ?_
 refine ze [0, 4, 6, 8, 22, 23, 24] ?_
 refine Tm [[], [0], [], [], [2, 3], [4, 2, 3], [1, 5, 4, 0, 2, 3], [0, 1, 2, 3, 4, 5, 6], [7, 6, 0, 1, 2, 3, 4, 5]] fun _ => ?_
 refine zk 4 ?_
 obtain ⟨y10, he, h⟩ := aB h
 refine zc aAi (ih_view_described _ _ y10 he) ?_
 clear he
 refine qZ (e := 70) (sz := 5) (len := 1) (r := [I y10.Kind, Sx y10.Key, B6 y10.Attrs, C0 y10.Actions, G3 y10.Kids]) (l' := List.map bB [y10]) (nm := 12) (by kernel_rfl) (by simp only [List.map_cons, List.map_nil, gW]; kernel_rfl) (by kernel_rfl) (by kernel_rfl) rfl rfl rfl ?_
 obtain ⟨l11, he, h⟩ := aB h
 refine cE (enc := bB) (l := v8) (els := [y10]) (r := l11) (old := some 2) (e := 70) (sz := 5) (bytes := 96) (k := (G8 v8)) (nm := 13) he (by kernel_rfl) (by kernel_rfl) (fun x => by rw [gW]; rfl) (by kernel_rfl) (by kernel_rfl) rfl rfl rfl ?_
 clear he
 refine zk 2 ?_
 refine bY ?_
 refine aY ?_
 refine zb ?_
 exact eU (zv [(0, 0), (1, 1), (13, 2)] [0, 4, 6, 22, 23, 24] 3) (⟨_, _, h, rfl⟩)
 exact aJ (zv [(0, 0), (1, 1), (2, 2)] [4, 6] 3) (bI (hj2 _ h))
def gC : Nat → (List (Int × aP)) → Int → Option aG
 | 0, _, _ => none
 | n + 1, p0, p1 => jF (fun a0 a1 => gC n a0 a1) n p0 p1
theorem yD (n : Nat) : (∀ (p0 : (J8)) (p1 : Int) (r : aG), gC n p0 p1 = some r → dJ E 94 0 [L8 p0, A7 p1] [] (A8 r) []) := by
 induction n with
 | zero => intro p0 p1 r h; rw [gC] at h; cases h
 | succ n ih => intro p0 p1 r h; rw [gC] at h; exact tP _ ih n _ _ r h
end Go.Proofs.YtojkihhnioeggaaGreatDoor.S
