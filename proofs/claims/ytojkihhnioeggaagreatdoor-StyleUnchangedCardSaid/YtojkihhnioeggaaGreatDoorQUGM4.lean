import Derived.Test.YtojkihhnioeggaaGreatDoorQUGM3
set_option linter.unusedVariables false
set_option linter.unusedSimpArgs false
set_option maxRecDepth 100000
set_option maxHeartbeats 4000000
namespace Go.Proofs.YtojkihhnioeggaaGreatDoor.S
open Go Go.Bm
def dC  (n : Nat) (p0 : Int) (p1 : Int) : Option Bool := (gX n p0).bind fun (y1 : Bool) => (gd [y1] (idx aY p0)).bind fun (e2 : cA) => (gd [(y1 && (decide (p1 ≥ e2.low)))] (idx aY p0)).bind fun (e3 : cA) => some ((y1 && (decide (p1 ≥ e2.low))) && (decide (p1 ≤ e3.high)))
theorem tB  (n : Nat) (p0 : Int) (p1 : Int) (r : Bool) (h : dC n p0 p1 = some r) : dI E 21 0 [A6 p0, A6 p1] [] (B2 r) [] := by
 refine gT Tryz.func21 rfl ?_
 unfold dC at h
 refine za [0, 1] ?_
 refine zx fun _ => ?_
 refine zk 1 ?_
 obtain ⟨y1, he, h⟩ := aB h
 refine zc Uw (pG n _ y1 he) ?_
 clear he
 refine zk 1 ?_
 refine zE (A6 p1) ?_
 refine zE (A6 p0) ?_
 obtain ⟨e2, he, h⟩ := aB h
 refine Dh (es := [y1]) [(9, A6 p0, some 1)] (enc := jD) (xs := aY) (ix := p0) (e := e2) (c := [Bo e2.inherited, I e2.low, I e2.high, I e2.start]) (len := 22) (sz := 4) (fun hg => cD he hg) (by kernel_rfl) (by kernel_rfl) (by kernel_rfl) (by kernel_rfl) (by kernel_rfl) (by kernel_rfl) (fun x => by kernel_rfl) rfl rfl ?_
 clear he
 refine zE (.c (.imm [I e2.low, I e2.high, I e2.start])) ?_
 refine zE (A6 e2.low) ?_
 refine zE (B2 (I8 p1 e2.low)) ?_
 refine zP (.bool (y1 && (I8 p1 e2.low))) ?_
 refine zk 1 ?_
 refine zE (A6 p1) ?_
 refine zE (A6 p0) ?_
 obtain ⟨e3, he, h⟩ := aB h
 refine Dh (es := [y1 && (I8 p1 e2.low)]) [(17, A6 p0, some 1)] (enc := jD) (xs := aY) (ix := p0) (e := e3) (c := [Bo e3.inherited, I e3.low, I e3.high, I e3.start]) (len := 22) (sz := 4) (fun hg => cD he hg) (by kernel_rfl) (by kernel_rfl) (by kernel_rfl) (by kernel_rfl) (by kernel_rfl) (by kernel_rfl) (fun x => by kernel_rfl) rfl rfl ?_
 clear he
 refine zE (.c (.imm [I e3.high, I e3.start])) ?_
 refine zE (A6 e3.high) ?_
 refine zE (B2 (I7 p1 e3.high)) ?_
 refine zP (.bool ((y1 && (I8 p1 e2.low)) && (I7 p1 e3.high))) ?_
 refine zk 1 ?_
 refine mC [4] (L2 := [(4, B2 ((y1 && (I8 p1 e2.low)) && (I7 p1 e3.high)))]) (G2 := []) 20 ?_
 cases h
 exact aI zr
def iR  (n : Nat) (p0 : bM) (p1 : Int) : Option Int := (gX n p0.Prop_).bind fun (y1 : Bool) => (if (!y1) = true then some 1 else (aS (fun (v3 : Bool) => (if v3 = true then some 9 else (gd [(p0.Source == 0)] (dC n p0.Prop_ p0.N)).bind fun (y4 : Bool) => (if ((p0.Source == 0) && (!y4)) = true then some 1 else (gd [(p0.Source == 1)] (eH n p0.Token)).bind fun (y5 : Bool) => (if ((p0.Source == 1) && (!y5)) = true then some 4 else (if (((p0.Prop_ == 5) || (p0.Prop_ == 21)) && ((mI .i64 p1 7) != 0)) = true then some 13 else some 0))))) (fun (j2 : Bool → Option Int) => (if ((decide (p0.Source < 0)) || (decide (p0.Source > 3))) = true then j2 ((decide (p0.Source < 0)) || (decide (p0.Source > 3))) else (if ((p0.N != 0) && (p0.Source != 0)) = true then j2 ((p0.N != 0) && (p0.Source != 0)) else j2 ((!(bV p0.Token (⟨#[]⟩ : ByteArray))) && (p0.Source != 1)))))))
theorem vY  (n : Nat) (p0 : bM) (p1 : Int) (r : Int) (h : iR n p0 p1 = some r) : dI E 67 0 [.agg [I p0.Prop_, I p0.Source, I p0.N, Sx p0.Token], A6 p1] [] (A6 r) [] := by
 refine gT Tryz.func67 rfl ?_
 unfold iR at h
 refine za [1, 2] ?_
 refine aO ?_
 refine aK ?_
 refine zx fun _ => ?_
 refine zk 2 ?_
 obtain ⟨y1, he, h⟩ := aB h
 refine zc Uw (pG n _ y1 he) ?_
 clear he
 refine zk 2 ?_
 refine ze [1, 2, 5] ?_
 refine zi h (fun h => ?_) fun h => ?_
 refine za [4] ?_
 cases h
 exact aI zr
 refine aX h (fun A j => ∀ v3, j v3 = some r → A (mk [C6 1 p1, J3, K2 10 v3] [(0, F5 p0)] 1)) (fun v3 h => ?_) (fun j2 Aj2 hj2 h => ?_)
 refine zi h (fun h => ?_) fun h => ?_
 refine za [4] ?_
 cases h
 exact aI zr
 refine zx fun _ => ?_
 refine zk 4 ?_
 refine zE (A1 0 0) ?_
 refine zE (A6 p0.Prop_) ?_
 refine zE (A1 0 2) ?_
 refine zE (A6 p0.N) ?_
 obtain ⟨y4, he, h⟩ := aB h
 refine Om [p0.Source == 0] fok21 (fun hg => tB n _ _ y4 (cD he hg)) ?_
 clear he
 refine zE (B2 (!y4)) ?_
 refine zP (.bool ((p0.Source == 0) && (!y4))) ?_
 refine zk 1 ?_
 refine ze [1, 2, 35] ?_
 refine zi h (fun h => ?_) fun h => ?_
 refine za [4] ?_
 cases h
 exact aI zr
 refine zx fun _ => ?_
 refine zk 4 ?_
 refine zE (A1 0 3) ?_
 refine zE (F1 p0.Token) ?_
 obtain ⟨y5, he, h⟩ := aB h
 refine Om [p0.Source == 1] Ea (fun hg => kD n _ y5 (cD he hg)) ?_
 clear he
 refine zE (B2 (!y5)) ?_
 refine zP (.bool ((p0.Source == 1) && (!y5))) ?_
 refine zk 1 ?_
 refine mC [1, 2, 47] (L2 := [C6 1 p1, J3, (47, B2 ((p0.Source == 1) && (!y5)))]) (G2 := [(0, F5 p0)]) 23 ?_
 refine zi h (fun h => ?_) fun h => ?_
 refine za [4] ?_
 cases h
 exact aI zr
 refine zx fun _ => ?_
 refine zk 4 ?_
 refine zE (A1 0 0) ?_
 refine zE (A6 p0.Prop_) ?_
 refine zE (B2 (p0.Prop_ == 21)) ?_
 refine zP (.bool ((p0.Prop_ == 5) || (p0.Prop_ == 21))) ?_
 refine zk 1 ?_
 refine zE (A6 p1) ?_
 refine zE (A6 (mI .i64 p1 7)) ?_
 refine zE (B2 ((mI .i64 p1 7) != 0)) ?_
 refine zP (.bool (((p0.Prop_ == 5) || (p0.Prop_ == 21)) && ((mI .i64 p1 7) != 0))) ?_
 refine zk 1 ?_
 refine mC [57] (L2 := [(57, B2 (((p0.Prop_ == 5) || (p0.Prop_ == 21)) && ((mI .i64 p1 7) != 0)))]) (G2 := [(0, F5 p0)]) 37 ?_
 refine zi h (fun h => ?_) fun h => ?_
 refine za [4] ?_
 cases h
 exact aI zr
 refine aC ?_
 refine za [4] ?_
 cases h
 exact aI zr
 refine zx fun _ => ?_
 refine zk 4 ?_
 refine zE (A1 0 1) ?_
 refine zE (A6 p0.Source) ?_
 refine zE (L3 p0.Source 3) ?_
 refine zP (.bool (A3 p0.Source 0 3)) ?_
 refine zk 1 ?_
 refine mC [1, 2, 10] (L2 := [C6 1 p1, J3, (10, B2 (A3 p0.Source 0 3))]) (G2 := [(0, F5 p0)]) 16 ?_
 refine zi h (fun h => ?_) fun h => ?_
 exact aL (zv [(0, 0)] [1, 2, 10] 1) (aC (hj2 _ h))
 refine zx fun _ => ?_
 refine zk 4 ?_
 refine zE (A1 0 1) ?_
 refine zE (A6 p0.Source) ?_
 refine zE (B2 (p0.Source != 0)) ?_
 refine zP (.bool ((p0.N != 0) && (p0.Source != 0))) ?_
 refine zk 1 ?_
 refine ze [1, 2, 10] ?_
 refine zi h (fun h => ?_) fun h => ?_
 exact aL (zv [(0, 0)] [1, 2, 10] 1) (aC (hj2 _ h))
 refine bB ?_
 refine zy fun _ => ?_
 refine zk 4 ?_
 refine zE (A1 0 1) ?_
 refine zE (A6 p0.Source) ?_
 refine zE (B2 (p0.Source != 1)) ?_
 refine zP (.bool ((!(bV p0.Token (⟨#[]⟩ : ByteArray))) && (p0.Source != 1))) ?_
 refine zk 1 ?_
 refine cF ?_
 exact eZ (zv [(0, 0)] [1, 2, 10] 1) (hj2 _ h)
def fB (e14 : bY) (j13 : Unit → Option Int) (p0 : bH) (v12 : Int) : Nat → Int → Option Int
 | 0, _ => none
 | n + 1, v19 => (if (decide (v19 < (List.length e14.Decls : Int))) = true then (idx e14.Decls v19).bind fun (e20 : bM) => (iR n e20 e14.States).bind fun (y21 : Int) => (if (y21 != 0) = true then some y21 else fB e14 j13 p0 v12 n (IntKind.wrap .i64 (v19 + 1))) else j13 ())
def eG (p0 : bH) (j1 : Unit → Option Int) : Nat → Int → Option Int
 | 0, _ => none
 | n + 1, v12 => (if (decide (v12 < (List.length p0.Rules : Int))) = true then (aS (fun (_ : Unit) => eG p0 j1 n (IntKind.wrap .i64 (v12 + 1))) (fun (j13 : Unit → Option Int) => (idx p0.Rules v12).bind fun (e14 : bY) => (if ((((decide (e14.Kind < 0)) || (decide (e14.Kind > 13))) || (decide (e14.UnderKind < 0))) || (decide (e14.UnderKind > 13))) = true then some 9 else (gd [(!(bV e14.Class (⟨#[]⟩ : ByteArray)))] (eH n e14.Class)).bind fun (y15 : Bool) => (gd [(!((!(bV e14.Class (⟨#[]⟩ : ByteArray))) && (!y15))), (!(bV e14.UnderClass (⟨#[]⟩ : ByteArray)))] (eH n e14.UnderClass)).bind fun (y16 : Bool) => (if (((!(bV e14.Class (⟨#[]⟩ : ByteArray))) && (!y15)) || ((!(bV e14.UnderClass (⟨#[]⟩ : ByteArray))) && (!y16))) = true then some 4 else (if ((decide (e14.States < 0)) || (decide (e14.States > 31))) = true then some 1 else (if (decide ((List.length e14.Decls : Int) > 50)) = true then some 2 else fB e14 j13 p0 v12 n 0)))))) else j1 ())
def lO  (n : Nat) (p0 : bH) : Option Int := (if (decide ((List.length p0.Rules : Int) > 100)) = true then some 2 else (aS (fun (_ : Unit) => some 0) (fun (j1 : Unit → Option Int) => eG p0 j1 n 0)))
theorem zM  (n : Nat) (p0 : bH) (r : Int) (h : lO n p0 = some r) : dI E 34 0 [.agg [D3 p0.Rules]] [] (A6 r) [] := by
 refine gT Tryz.func34 rfl ?_
 unfold lO at h
 refine za [1] ?_
 refine aO ?_
 refine zx fun _ => ?_
 refine zk 2 ?_
 refine zl bF p0.Rules ?_
 refine zk 1 ?_
 refine ze [1, 11] ?_
 refine zi h (fun h => ?_) fun h => ?_
 refine za [2] ?_
 cases h
 exact aI zr
 refine aC ?_
 refine aX h (fun A j => ∀ u, j u = some r → A (mk [] [] 0)) (fun u h => ?_) (fun j1 Aj1 hj1 h => ?_)
 refine za [2] ?_
 cases h
 exact aI zr
 refine zx fun _ => ?_
 refine zk 2 ?_
 refine zl bF p0.Rules ?_
 refine zk 1 ?_
 refine ze [13, 14, 15] ?_
 refine aK ?_
 refine bJ (fun n s => ∃ v12, eG p0 j1 n v12 = some r ∧ s = mk [(13, .c (D3 p0.Rules)), (14, .c (I (List.length p0.Rules : Int))), C6 15 v12] [] 0) n _ (zv [] [13, 14, 15] 0) ⟨_, h, rfl⟩ (fun s ⟨v12, h, _⟩ => nomatch h) ?_
 rintro n s ⟨v12, h, rfl⟩
 rw [eG] at h
 refine za [13, 14, 15, 16] ?_
 refine aO ?_
 refine zi h (fun h => ?_) fun h => ?_
 refine aC ?_
 refine aX h (fun A j => ∀ u, j u = some r → A (mk [(13, .c (D3 p0.Rules)), (14, .c (I (List.length p0.Rules : Int))), C6 15 v12] [] 0)) (fun u h => ?_) (fun j13 Aj13 hj13 h => ?_)
 refine bB ?_
 refine zb ?_
 exact eZ (zv [] [13, 14, 15] 0) (⟨_, h, rfl⟩)
 refine aK ?_
 refine zx fun _ => ?_
 obtain ⟨e14, he, h⟩ := aB h
 refine zd bF he ?_
 clear he
 refine zk 3 ?_
 refine ze [4, 13, 14, 15] ?_
 refine aO ?_
 refine aK ?_
 refine zx fun _ => ?_
 refine zk 4 ?_
 refine zE (A1 3 0) ?_
 refine zE (A6 e14.Kind) ?_
 refine zE (L3 e14.Kind 13) ?_
 refine zP (.bool (A3 e14.Kind 0 13)) ?_
 refine zk 1 ?_
 refine zE (A1 3 3) ?_
 refine zE (A6 e14.UnderKind) ?_
 refine zE (J5 e14.UnderKind 0) ?_
 refine zP (.bool ((A3 e14.Kind 0 13) || (D9 e14.UnderKind 0))) ?_
 refine zk 1 ?_
 refine zE (A1 3 3) ?_
 refine zE (A6 e14.UnderKind) ?_
 refine zE (L3 e14.UnderKind 13) ?_
 refine zP (.bool (((A3 e14.Kind 0 13) || (D9 e14.UnderKind 0)) || (E2 e14.UnderKind 13))) ?_
 refine zk 1 ?_
 refine mC [4, 13, 14, 15, 19] (L2 := [(13, .c (D3 p0.Rules)), (14, .c (I (List.length p0.Rules : Int))), C6 15 v12, C0 4 3 0, (19, B2 (((A3 e14.Kind 0 13) || (D9 e14.UnderKind 0)) || (E2 e14.UnderKind 13)))]) (G2 := [(3, B3 e14)]) 24 ?_
 refine zi h (fun h => ?_) fun h => ?_
 refine za [2] ?_
 cases h
 exact aI zr
 refine zx fun _ => ?_
 refine zk 4 ?_
 refine zE (A1 3 1) ?_
 refine zE (F1 e14.Class) ?_
 obtain ⟨y15, he, h⟩ := aB h
 refine Om [(!(bV e14.Class (⟨#[]⟩ : ByteArray)))] Ea (fun hg => kD n _ y15 (cD he hg)) ?_
 clear he
 refine zE (B2 (!y15)) ?_
 refine zP (.bool ((!(bV e14.Class (⟨#[]⟩ : ByteArray))) && (!y15))) ?_
 refine zk 1 ?_
 refine zE (A1 3 4) ?_
 refine zE (F1 e14.UnderClass) ?_
 refine zE (.c (Bo (!(bV e14.UnderClass (⟨#[]⟩ : ByteArray))))) ?_
 refine zF [(!((!(bV e14.Class (⟨#[]⟩ : ByteArray))) && (!y15)))] (.c (Bo (!(bV e14.UnderClass (⟨#[]⟩ : ByteArray))))) ?_
 refine zE (A1 3 4) ?_
 refine zE (F1 e14.UnderClass) ?_
 obtain ⟨y16, he, h⟩ := aB h
 refine Om [(!((!(bV e14.Class (⟨#[]⟩ : ByteArray))) && (!y15))), (!(bV e14.UnderClass (⟨#[]⟩ : ByteArray)))] Ea (fun hg => kD n _ y16 (cD he hg)) ?_
 clear he
 refine zE (B2 (!y16)) ?_
 refine zP (.bool ((!(bV e14.UnderClass (⟨#[]⟩ : ByteArray))) && (!y16))) ?_
 refine zP (.bool (((!(bV e14.Class (⟨#[]⟩ : ByteArray))) && (!y15)) || ((!(bV e14.UnderClass (⟨#[]⟩ : ByteArray))) && (!y16)))) ?_
 refine zk 1 ?_
 refine mC [4, 13, 14, 15, 38] (L2 := [(13, .c (D3 p0.Rules)), (14, .c (I (List.length p0.Rules : Int))), C6 15 v12, C0 4 3 0, (38, .c (Bo (((!(bV e14.Class (⟨#[]⟩ : ByteArray))) && (!y15)) || ((!(bV e14.UnderClass (⟨#[]⟩ : ByteArray))) && (!y16)))))]) (G2 := [(3, B3 e14)]) 45 ?_
 refine zi h (fun h => ?_) fun h => ?_
 refine za [2] ?_
 cases h
 exact aI zr
 refine zx fun _ => ?_
 refine zk 4 ?_
 refine zE (A1 3 2) ?_
 refine zE (A6 e14.States) ?_
 refine zE (L3 e14.States 31) ?_
 refine zP (.bool (A3 e14.States 0 31)) ?_
 refine zk 1 ?_
 refine ze [4, 13, 14, 15, 59] ?_
 refine zi h (fun h => ?_) fun h => ?_
 refine za [2] ?_
 cases h
 exact aI zr
 refine zx fun _ => ?_
 refine zk 2 ?_
 refine zl bZ e14.Decls ?_
 refine zk 2 ?_
 refine ze [4, 13, 14, 15, 68] ?_
 refine zi h (fun h => ?_) fun h => ?_
 refine za [2] ?_
 cases h
 exact aI zr
 refine aC ?_
 refine zx fun _ => ?_
 refine zk 2 ?_
 refine zl bZ e14.Decls ?_
 refine zk 1 ?_
 refine mC [4, 13, 14, 15, 74, 75, 76] (L2 := [(13, .c (D3 p0.Rules)), (14, .c (I (List.length p0.Rules : Int))), C6 15 v12, C0 4 3 0, K4 74 e14.Decls, (75, .c (I (List.length e14.Decls : Int))), I9 76]) (G2 := [(3, B3 e14)]) 63 ?_
 refine aK ?_
 refine bJ (fun n s => ∃ v19, fB e14 j13 p0 v12 n v19 = some r ∧ s = mk [(13, .c (D3 p0.Rules)), (14, .c (I (List.length p0.Rules : Int))), C6 15 v12, M6, K4 74 e14.Decls, (75, .c (I (List.length e14.Decls : Int))), C6 76 v19] [(0, B3 e14)] 1) n _ (zv [(3, 0)] [13, 14, 15, 4, 74, 75, 76] 1) ⟨_, h, rfl⟩ (fun s ⟨v19, h, _⟩ => nomatch h) ?_
 rintro n s ⟨v19, h, rfl⟩
 rw [fB] at h
 refine za [4, 13, 14, 15, 74, 75, 76, 77] ?_
 refine aO ?_
 refine zi h (fun h => ?_) fun h => ?_
 refine aC ?_
 refine aO ?_
 refine aK ?_
 refine zx fun _ => ?_
 obtain ⟨e20, he, h⟩ := aB h
 refine zd bZ he ?_
 clear he
 refine zk 3 ?_
 refine ze [4, 6, 13, 14, 15, 74, 75, 76] ?_
 refine zx fun _ => ?_
 refine zk 3 ?_
 obtain ⟨y21, he, h⟩ := aB h
 refine zc fok67 (vY n _ _ y21 he) ?_
 clear he
 refine zk 1 ?_
 refine ze [4, 7, 13, 14, 15, 74, 75, 76] ?_
 refine za [4, 7, 13, 14, 15, 74, 75, 76, 85] ?_
 refine zi h (fun h => ?_) fun h => ?_
 refine za [2] ?_
 cases h
 exact aI zr
 refine aC ?_
 refine bB ?_
 refine zb ?_
 exact eZ (zv [(0, 0)] [13, 14, 15, 4, 74, 75, 76] 1) (⟨_, h, rfl⟩)
 exact aL (zv [] [13, 14, 15] 0) (bK (hj13 _ h))
 exact aL (zv [] [] 0) (bK (hj1 _ h))
def oZ  (n : Nat) (p0 : Int) : Option Bool := some ((decide (p0 ≥ 0)) && (decide (p0 ≤ 16777215)))
theorem Ft  (n : Nat) (p0 : Int) (r : Bool) (h : oZ n p0 = some r) : dI E 68 0 [A6 p0] [] (B2 r) [] := by
 refine gT Tryz.func68 rfl ?_
 unfold oZ at h
 refine za [0] ?_
 refine zx fun _ => ?_
 refine zk 3 ?_
 refine zE (A6 p0) ?_
 refine zE (B2 (I7 p0 16777215)) ?_
 refine zP (.bool (D7 p0 0 16777215)) ?_
 refine zk 1 ?_
 refine ze [2] ?_
 cases h
 exact aI zr
def dN (e15 : dM) (j14 : List (ByteArray × Bool) → Option Int) (v13 : List (ByteArray × Bool)) (p0 : bS) (v12 : Int) : Nat → Int → Option Int
 | 0, _ => none
 | n + 1, v19 => (if (decide (v19 < 4)) = true then (idx (gE.toL (gE.mk e15.Light e15.Dark e15.HighLight e15.HighDark)) v19).bind fun (e20 : Int) => (gd [(e20 != (-1 : Int))] (oZ n e20)).bind fun (y21 : Bool) => (if ((e20 != (-1 : Int)) && (!y21)) = true then some 1 else dN e15 j14 v13 p0 v12 n (IntKind.wrap .i64 (v19 + 1))) else j14 (fY e15.Name true v13))
def fH (p0 : bS) (j1 : Unit → Option Int) : Nat → Int → List (ByteArray × Bool) → Option Int
 | 0, _, _ => none
 | n + 1, v12, v13 => (if (decide (v12 < (List.length p0.Tokens : Int))) = true then (aS (fun (v23 : List (ByteArray × Bool)) => fH p0 j1 n (IntKind.wrap .i64 (v12 + 1)) v23) (fun (j14 : List (ByteArray × Bool) → Option Int) => (idx p0.Tokens v12).bind fun (e15 : dM) => (eH n e15.Name).bind fun (y16 : Bool) => (if (!y16) = true then some 4 else (some (cZ e15.Name v13, gU e15.Name v13)).bind fun (y17 : (Bool × Bool)) => (if y17.1 = true then some 6 else dN e15 j14 v13 p0 v12 n 0)))) else j1 ())
def kZ  (n : Nat) (p0 : bS) : Option Int := (if (decide ((List.length p0.Tokens : Int) > 100)) = true then some 2 else (aS (fun (_ : Unit) => some 0) (fun (j1 : Unit → Option Int) => fH p0 j1 n 0 ([] : List (ByteArray × Bool)))))
theorem zL  (n : Nat) (p0 : bS) (r : Int) (h : kZ n p0 = some r) : dI E 35 0 [.agg [E4 p0.Tokens]] [] (A6 r) [] := by
 refine gT Tryz.func35 rfl ?_
 unfold kZ at h
 refine za [1] ?_
 refine aO ?_
 refine zx fun _ => ?_
 refine zk 2 ?_
 refine zl bQ p0.Tokens ?_
 refine zk 1 ?_
 refine ze [1, 11] ?_
 refine zi h (fun h => ?_) fun h => ?_
 refine za [2] ?_
 cases h
 exact aI zr
 refine aC ?_
 refine za [1, 3] ?_
 refine aX h (fun A j => ∀ u, j u = some r → A (mk [] [] 0)) (fun u h => ?_) (fun j1 Aj1 hj1 h => ?_)
 refine za [2] ?_
 cases h
 exact aI zr
 refine zx fun _ => ?_
 refine zk 2 ?_
 refine zl bQ p0.Tokens ?_
 refine zk 1 ?_
 refine ze [3, 14, 15, 16] ?_
 refine aK ?_
 refine bJ (fun n s => ∃ v12 v13, fH p0 j1 n v12 v13 = some r ∧ s = mk [E6 3 0, (14, .c (E4 p0.Tokens)), (15, .c (I (List.length p0.Tokens : Int))), C6 16 v12] [(0, .map false (N1 v13))] 1) n _ (zv [(6, 0)] [3, 14, 15, 16] 1) ⟨_, _, h, rfl⟩ (fun s ⟨v12, v13, h, _⟩ => nomatch h) ?_
 rintro n s ⟨v12, v13, h, rfl⟩
 rw [fH] at h
 refine za [3, 14, 15, 16, 17] ?_
 refine aO ?_
 refine zi h (fun h => ?_) fun h => ?_
 refine aC ?_
 refine aX h (fun A j => ∀ v23, j v23 = some r → A (mk [E6 3 0, (14, .c (E4 p0.Tokens)), (15, .c (I (List.length p0.Tokens : Int))), C6 16 v12] [(0, .map false (N1 v23))] 1)) (fun v23 h => ?_) (fun j14 Aj14 hj14 h => ?_)
 refine bB ?_
 refine zb ?_
 exact eZ (zv [(0, 0)] [3, 14, 15, 16] 1) (⟨_, _, h, rfl⟩)
 refine aK ?_
 refine zx fun _ => ?_
 obtain ⟨e15, he, h⟩ := aB h
 refine zd bQ he ?_
 clear he
 refine zk 3 ?_
 refine ze [3, 5, 14, 15, 16] ?_
 refine aO ?_
 refine aK ?_
 refine zx fun _ => ?_
 refine zk 2 ?_
 obtain ⟨y16, he, h⟩ := aB h
 refine zc Ea (kD n _ y16 he) ?_
 clear he
 refine zk 2 ?_
 refine ze [3, 5, 14, 15, 16, 20] ?_
 refine zi h (fun h => ?_) fun h => ?_
 refine za [2] ?_
 cases h
 exact aI zr
 refine zx fun _ => ?_
 refine zk 3 ?_
 obtain ⟨y17, he, h⟩ := aB h
 refine zw (v := .c (Bo y17.1)) [0] (cT (kf := Value.string) (enc := eB) (l := v13) (k := e15.Name) (ok := false) (kk := .str) (j := ⟨.boo, 1, 1, [.bool false]⟩) (p := y17) (v := .c (Bo y17.1)) he (by kernel_rfl) Kx (by kernel_rfl) (by kernel_rfl) (by kernel_rfl)) ?_
 clear he
 refine zk 1 ?_
 refine ze [3, 5, 14, 15, 16, 25] ?_
 refine zi h (fun h => ?_) fun h => ?_
 refine za [2] ?_
 cases h
 exact aI zr
 refine aC ?_
 refine zx fun _ => ?_
 refine zk 3 ?_
 refine jM (kf := Value.string) (enc := eB) (l := v13) (k := e15.Name) (v := true) (n := 0) (ag := false) (kk := .str) (by kernel_rfl) Kx (by kernel_rfl) (by kernel_rfl) rfl rfl ?_
 refine mC [3, 5, 14, 15, 16] (L2 := [E6 3 0, (14, .c (E4 p0.Tokens)), (15, .c (I (List.length p0.Tokens : Int))), C6 16 v12, C0 5 4 0]) (G2 := [(0, .map false (N1 (fY e15.Name true v13))), (4, .blk 85 [Sx e15.Name, I e15.Light, I e15.Dark, I e15.HighLight, I e15.HighDark])]) 20 ?_
 refine za [3, 14, 15, 16, 41, 42] ?_
 refine aK ?_
 refine bJ (fun n s => ∃ v19, dN e15 j14 v13 p0 v12 n v19 = some r ∧ s = mk [E6 3 0, (14, .c (E4 p0.Tokens)), (15, .c (I (List.length p0.Tokens : Int))), C6 16 v12, (41, .agg [I e15.Light, I e15.Dark, I e15.HighLight, I e15.HighDark]), C6 42 v19] [(0, .map false (N1 (fY e15.Name true v13)))] 1) n _ (zv [(0, 0)] [3, 14, 15, 16, 41, 42] 1) ⟨_, h, rfl⟩ (fun s ⟨v19, h, _⟩ => nomatch h) ?_
 rintro n s ⟨v19, h, rfl⟩
 rw [dN] at h
 refine za [3, 14, 15, 16, 41, 42, 43] ?_
 refine aO ?_
 refine zi h (fun h => ?_) fun h => ?_
 refine aC ?_
 refine aO ?_
 refine aK ?_
 refine zx fun _ => ?_
 obtain ⟨e20, he, h⟩ := aB h
 refine dT (v := .c (I e20)) (foot := []) (Cx (enc := aH) (xs := (gE.toL (gE.mk e15.Light e15.Dark e15.HighLight e15.HighDark))) (ix := v19) (e := e20) (len := 4) (j := ⟨.int .i64, 1, 8, [.int .i64 0]⟩) (v := .c (I e20)) he (by kernel_rfl) (by kernel_rfl) (fun x => by kernel_rfl) (by decide) (by kernel_rfl)) (by kernel_rfl) rfl rfl ?_
 clear he
 refine zk 1 ?_
 refine ze [3, 7, 14, 15, 16, 41, 42] ?_
 refine zx fun _ => ?_
 refine zk 3 ?_
 refine zE (A6 e20) ?_
 obtain ⟨y21, he, h⟩ := aB h
 refine Om [(e20 != (-1 : Int))] fok68 (fun hg => Ft n _ y21 (cD he hg)) ?_
 clear he
 refine zE (B2 (!y21)) ?_
 refine zP (.bool ((e20 != (-1 : Int)) && (!y21))) ?_
 refine ze [3, 14, 15, 16, 41, 42, 51] ?_
 refine zi h (fun h => ?_) fun h => ?_
 refine za [2] ?_
 cases h
 exact aI zr
 refine aC ?_
 refine bB ?_
 refine zb ?_
 exact eZ (zv [(0, 0)] [3, 14, 15, 16, 41, 42] 1) (⟨_, h, rfl⟩)
 exact aL (zv [(0, 0)] [3, 14, 15, 16] 1) (bK (hj14 _ h))
 exact aL (zv [] [] 0) (bK (hj1 _ h))
def gD (y2 : (aP × Bool)) (self_view_preorder : (List (Int × aP)) → Int → Option (List Int)) (p0 : (List (Int × aP))) (j1 : List Int → Option (List Int)) : Nat → List Int → Int → Option (List Int)
 | 0, _, _ => none
 | n + 1, v6, v7 => (if (decide (v7 < (List.length y2.1.Kids : Int))) = true then (idx y2.1.Kids v7).bind fun (e8 : Int) => (self_view_preorder p0 e8).bind fun (y9 : (List Int)) => (pD 8 v6 y9).bind fun (l10 : List Int) => gD y2 self_view_preorder p0 j1 n l10 (IntKind.wrap .i64 (v7 + 1)) else j1 v6)
def kC (self_view_preorder : (List (Int × aP)) → Int → Option (List Int)) (n : Nat) (p0 : (List (Int × aP))) (p1 : Int) : Option (List Int) := (aS (fun (v13 : List Int) => some v13) (fun (j1 : List Int → Option (List Int)) => (some (cZ p1 p0, gU p1 p0)).bind fun (y2 : (aP × Bool)) => gD y2 self_view_preorder p0 j1 n [p1] 0))
theorem uS (self_view_preorder : (K5) → Int → Option (M4)) (ih_view_preorder : ∀ (p0 : (K5)) (p1 : Int) (r : (M4)), self_view_preorder p0 p1 = some r → dI E 74 0 [M8 p0, A6 p1] [] (.c (C1 r)) []) (n : Nat) (p0 : (K5)) (p1 : Int) (r : (M4)) (h : kC self_view_preorder n p0 p1 = some r) : dI E 74 0 [M8 p0, A6 p1] [] (.c (C1 r)) [] := by
 refine gT Tryz.func74 rfl ?_
 unfold kC at h
 refine za [0, 1] ?_
 refine za [0, 1, 5] ?_
 refine aX h (fun A j => ∀ v13, j v13 = some r → A (mk [(5, .c (.app 0 (List.map aH v13)))] [B7 0 3 1 v13] 1)) (fun v13 h => ?_) (fun j1 Aj1 hj1 h => ?_)
 refine za [4] ?_
 cases h
 exact aI zr
 refine zx fun _ => ?_
 refine zk 2 ?_
 obtain ⟨y2, he, h⟩ := aB h
 refine zw (v := .agg [I y2.1.ID, I y2.1.Parent, I y2.1.Kind, Sx y2.1.Key, C7 y2.1.Attrs, C9 y2.1.Actions, C1 y2.1.Kids]) [] (cT (kf := (A9)) (enc := aE) (l := p0) (k := p1) (ok := false) (kk := .int .i64) (j := ⟨.st [(3, 0, 1), (3, 1, 1), (3, 2, 1), (9, 3, 1), (55, 4, 1), (56, 5, 1), (22, 6, 1)], 7, 112, [.int .i64 0, .int .i64 0, .int .i64 0, .string ⟨#[]⟩, .slice none 0 0, .slice none 0 0, .slice none 0 0]⟩) (p := y2) (v := .agg [I y2.1.ID, I y2.1.Parent, I y2.1.Kind, Sx y2.1.Key, C7 y2.1.Attrs, C9 y2.1.Actions, C1 y2.1.Kids]) he (by kernel_rfl) eE (by kernel_rfl) (by kernel_rfl) (by kernel_rfl)) ?_
 clear he
 refine zk 1 ?_
 refine zl aH y2.1.Kids ?_
 refine zk 1 ?_
 refine ze [0, 5, 13, 14, 15] ?_
 refine aK ?_
 refine bJ (fun n s => ∃ v6 v7, gD y2 self_view_preorder p0 j1 n v6 v7 = some r ∧ s = mk [(0, M8 p0), (5, .c (.app 0 (List.map aH v6))), H1 13 y2.1.Kids, (14, .c (I (List.length y2.1.Kids : Int))), C6 15 v7] [B7 0 3 1 v6] 1) n _ (zv [(2, 0)] [0, 5, 13, 14, 15] 1) ⟨_, _, h, rfl⟩ (fun s ⟨v6, v7, h, _⟩ => nomatch h) ?_
 rintro n s ⟨v6, v7, h, rfl⟩
 rw [gD] at h
 refine za [0, 5, 13, 14, 15, 16] ?_
 refine aO ?_
 refine zi h (fun h => ?_) fun h => ?_
 refine aC ?_
 refine aO ?_
 refine aK ?_
 refine zx fun _ => ?_
 obtain ⟨e8, he, h⟩ := aB h
 refine zd aH he ?_
 clear he
 refine zk 2 ?_
 refine ze [0, 5, 7, 13, 14, 15] ?_
 refine zy fun _ => ?_
 refine zk 3 ?_
 obtain ⟨y9, he, h⟩ := aB h
 refine zc Ye (ih_view_preorder _ _ y9 he) ?_
 clear he
 obtain ⟨l10, he, h⟩ := aB h
 refine cH (enc := aH) (l := v6) (els := y9) (r := l10) (old := some 0) (e := 3) (sz := 1) (bytes := 8) (k := (H4 v6)) (nm := 9) he (by kernel_rfl) (by kernel_rfl) (fun x => by kernel_rfl) (by kernel_rfl) (by kernel_rfl) rfl rfl rfl ?_
 clear he
 refine zk 1 ?_
 refine cF ?_
 refine bB ?_
 refine zb ?_
 exact eZ (zv [(9, 0)] [0, 5, 13, 14, 15] 1) (⟨_, _, h, rfl⟩)
 exact aL (zv [(0, 0)] [5] 1) (bK (hj1 _ h))
def fA : Nat → (List (Int × aP)) → Int → Option (List Int)
 | 0, _, _ => none
 | n + 1, p0, p1 => kC (fun a0 a1 => fA n a0 a1) n p0 p1
theorem sP (n : Nat) : (∀ (p0 : (K5)) (p1 : Int) (r : (M4)), fA n p0 p1 = some r → dI E 74 0 [M8 p0, A6 p1] [] (.c (C1 r)) []) := by
 induction n with
 | zero => intro p0 p1 r h; rw [fA] at h; cases h
 | succ n ih => intro p0 p1 r h; rw [fA] at h; exact uS _ ih n _ _ r h
def jC (e29 : aP) (v10 : List (Int × aP)) (j28 : List (Int × Bool) → Option ((List (Int × aP)) × Bool)) (p0 : bA) (v26 : Int) : Nat → Int → List (Int × Bool) → Option ((List (Int × aP)) × Bool)
 | 0, _, _ => none
 | n + 1, v33, v34 => (if (decide (v33 < (List.length e29.Kids : Int))) = true then (idx e29.Kids v33).bind fun (e35 : Int) => (some (cZ e35 v10, gU e35 v10)).bind fun (y36 : (aP × Bool)) => (gd [(!((!y36.2) || (y36.1.Parent != e29.ID)))] (some (cZ e35 v34, gU e35 v34))).bind fun (y37 : (Bool × Bool)) => (if (((!y36.2) || (y36.1.Parent != e29.ID)) || y37.1) = true then some (([] : List (Int × aP)), false) else jC e29 v10 j28 p0 v26 n (IntKind.wrap .i64 (v33 + 1)) (fY e35 true v34)) else j28 v34)
def hO (p0 : bA) (v10 : List (Int × aP)) (j12 : List (Int × Bool) → Option ((List (Int × aP)) × Bool)) : Nat → Int → List (Int × Bool) → Option ((List (Int × aP)) × Bool)
 | 0, _, _ => none
 | n + 1, v26, v27 => (if (decide (v26 < (List.length p0.Nodes : Int))) = true then (aS (fun (v40 : List (Int × Bool)) => hO p0 v10 j12 n (IntKind.wrap .i64 (v26 + 1)) v40) (fun (j28 : List (Int × Bool) → Option ((List (Int × aP)) × Bool)) => (idx p0.Nodes v26).bind fun (e29 : aP) => jC e29 v10 j28 p0 v26 n 0 v27)) else j12 v27)
def jE (p0 : bA) (j1 : List (Int × aP) → Option ((List (Int × aP)) × Bool)) : Nat → Int → Int → List (Int × aP) → Option ((List (Int × aP)) × Bool)
 | 0, _, _, _ => none
 | n + 1, v3, v4, v5 => (if (decide (v4 < (List.length p0.Nodes : Int))) = true then (idx p0.Nodes v4).bind fun (e6 : aP) => (if (((decide (e6.ID ≤ v3)) || (decide (e6.ID ≥ p0.Next))) || ((e6.Parent == 0) != (e6.ID == p0.Root))) = true then some (([] : List (Int × aP)), false) else jE p0 j1 n e6.ID (IntKind.wrap .i64 (v4 + 1)) (fY e6.ID e6 v5)) else j1 v5)
def qR  (n : Nat) (p0 : bA) : Option ((List (Int × aP)) × Bool) := (if ((((decide (p0.Next < 2)) || (decide (p0.Next > 1099511627776))) || (decide ((List.length p0.Nodes : Int) < 1))) || (decide ((List.length p0.Nodes : Int) > 400))) = true then some (([] : List (Int × aP)), false) else (aS (fun (v10 : List (Int × aP)) => (some (cZ p0.Root v10, gU p0.Root v10)).bind fun (y11 : (aP × Bool)) => (if (!y11.2) = true then some (([] : List (Int × aP)), false) else (aS (fun (v43 : List (Int × Bool)) => (if ((List.length v43 : Int) != (List.length v10 : Int)) = true then some (([] : List (Int × aP)), false) else (fA n v10 p0.Root).bind fun (y44 : (List Int)) => some (v10, ((List.length y44 : Int) == (List.length v10 : Int))))) (fun (j12 : List (Int × Bool) → Option ((List (Int × aP)) × Bool)) => hO p0 v10 j12 n 0 (fY p0.Root true ([] : List (Int × Bool))))))) (fun (j1 : List (Int × aP) → Option ((List (Int × aP)) × Bool)) => jE p0 j1 n 0 0 ([] : List (Int × aP)))))
theorem Hh  (n : Nat) (p0 : bA) (r : ((K5) × Bool)) (h : qR n p0 = some r) : dI E 93 0 [C8 p0] [] (.tup [M8 r.1, B2 r.2]) [] := by
 refine gT Tryz.func93 rfl ?_
 unfold qR at h
 refine za [1] ?_
 refine aO ?_
 refine zx fun _ => ?_
 refine zk 4 ?_
 refine zE (A1 0 1) ?_
 refine zE (A6 p0.Next) ?_
 refine zE (B2 (J1 p0.Next)) ?_
 refine zP (.bool (A3 p0.Next 2 1099511627776)) ?_
 refine zk 1 ?_
 refine zE (A1 0 2) ?_
 refine zE (F7 p0.Nodes) ?_
 refine lM (e := [!(A3 p0.Next 2 1099511627776)]) [(27, F7 p0.Nodes, some 1)] (v := .c (I (List.length p0.Nodes : Int))) (foot := []) (by kernel_rfl) (by kernel_rfl) (by kernel_rfl) (fun hg => lY (enc := aE) (l := p0.Nodes) (by kernel_rfl)) rfl rfl ?_
 refine zE (.c (Bo (decide ((List.length p0.Nodes : Int) < 1)))) ?_
 refine zP (.bool ((A3 p0.Next 2 1099511627776) || (decide ((List.length p0.Nodes : Int) < 1)))) ?_
 refine zk 1 ?_
 refine zE (A1 0 2) ?_
 refine zE (F7 p0.Nodes) ?_
 refine lM (e := [(!((A3 p0.Next 2 1099511627776) || (decide ((List.length p0.Nodes : Int) < 1))))]) [(33, F7 p0.Nodes, some 1)] (v := .c (I (List.length p0.Nodes : Int))) (foot := []) (by kernel_rfl) (by kernel_rfl) (by kernel_rfl) (fun hg => lY (enc := aE) (l := p0.Nodes) (by kernel_rfl)) rfl rfl ?_
 refine zE (.c (Bo (decide ((List.length p0.Nodes : Int) > 400)))) ?_
 refine zP (.bool (((A3 p0.Next 2 1099511627776) || (decide ((List.length p0.Nodes : Int) < 1))) || (decide ((List.length p0.Nodes : Int) > 400)))) ?_
 refine mC [1, 36] (L2 := [N3, (36, .c (Bo (((A3 p0.Next 2 1099511627776) || (decide ((List.length p0.Nodes : Int) < 1))) || (decide ((List.length p0.Nodes : Int) > 400)))))]) (G2 := [L4 0 p0]) 23 ?_
 refine zi h (fun h => ?_) fun h => ?_
 refine za [2, 3] ?_
 refine aL (pY 2 true (L2 := [(2, .c (.lmap true (List.map (eM (A9) aE) ([] : List (Int × aP))))), (3, .c (Bo false))]) (by kernel_rfl) (by kernel_rfl)) ?_
 cases h
 exact aI zr
 refine aC ?_
 refine za [1, 4] ?_
 refine za [1, 4, 5] ?_
 refine aX h (fun A j => ∀ v10, j v10 = some r → A (mk [N3, E6 4 1] [L4 0 p0, (1, .map true (H8 v10))] 2)) (fun v10 h => ?_) (fun j1 Aj1 hj1 h => ?_)
 refine aO ?_
 refine zx fun _ => ?_
 refine zk 3 ?_
 obtain ⟨y11, he, h⟩ := aB h
 refine zw (v := .tup [B4 y11.1, B2 y11.2]) [1] (cT (kf := (A9)) (enc := aE) (l := v10) (k := p0.Root) (ok := true) (kk := .int .i64) (j := ⟨.st [(3, 0, 1), (3, 1, 1), (3, 2, 1), (9, 3, 1), (55, 4, 1), (56, 5, 1), (22, 6, 1)], 7, 112, [.int .i64 0, .int .i64 0, .int .i64 0, .string ⟨#[]⟩, .slice none 0 0, .slice none 0 0, .slice none 0 0]⟩) (p := y11) (v := .agg [I y11.1.ID, I y11.1.Parent, I y11.1.Kind, Sx y11.1.Key, C7 y11.1.Attrs, C9 y11.1.Actions, C1 y11.1.Kids]) he (by kernel_rfl) eE (by kernel_rfl) (by kernel_rfl) (by kernel_rfl)) ?_
 clear he
 refine zk 6 ?_
 refine ze [1, 4, 9] ?_
 refine za [1, 4, 82] ?_
 refine zi h (fun h => ?_) fun h => ?_
 refine za [2, 3] ?_
 refine aL (pY 2 true (L2 := [(2, .c (.lmap true (List.map (eM (A9) aE) ([] : List (Int × aP))))), (3, .c (Bo false))]) (by kernel_rfl) (by kernel_rfl)) ?_
 cases h
 exact aI zr
 refine aC ?_
 refine zx fun _ => ?_
 refine zk 3 ?_
 refine jM (kf := (A9)) (enc := eB) (l := ([] : List (Int × Bool))) (k := p0.Root) (v := true) (n := 14) (ag := false) (kk := .int .i64) (by kernel_rfl) eE (by kernel_rfl) (by kernel_rfl) rfl rfl ?_
 refine zk 2 ?_
 refine ze [1, 4, 10] ?_
 refine aX h (fun A j => ∀ v43, j v43 = some r → A (mk [N3, E6 4 1, E6 10 2] [L4 0 p0, (1, .map true (H8 v10)), (2, .map false (F4 v43))] 3)) (fun v43 h => ?_) (fun j12 Aj12 hj12 h => ?_)
 refine aO ?_
 refine zx fun _ => ?_
 refine zk 1 ?_
 refine zw (v := .c (I (List.length v43 : Int))) [2] (Gj (A9) eB v43 (by kernel_rfl)) ?_
 refine zk 1 ?_
 refine zw (v := .c (I (List.length v10 : Int))) [1] (Gj (A9) aE v10 (by kernel_rfl)) ?_
 refine zk 1 ?_
 refine ze [1, 4, 129] ?_
 refine zi h (fun h => ?_) fun h => ?_
 refine za [2, 3] ?_
 refine aL (pY 2 true (L2 := [(2, .c (.lmap true (List.map (eM (A9) aE) ([] : List (Int × aP))))), (3, .c (Bo false))]) (by kernel_rfl) (by kernel_rfl)) ?_
 cases h
 exact aI zr
 refine aC ?_
 refine aL (sL 1 (ag := true) (l := List.map (eM (A9) aE) v10) (L2 := [N3, (4, M8 v10), (129, .c (Bo ((List.length v43 : Int) != (List.length v10 : Int))))]) (G2 := [L4 0 p0, (2, .map false (F4 v43))]) (by kernel_rfl) (by kernel_rfl) (by kernel_rfl)) ?_
 refine zx fun _ => ?_
 refine zk 4 ?_
 obtain ⟨y44, he, h⟩ := aB h
 refine zc Ye (sP n _ _ y44 he) ?_
 clear he
 refine zl aH y44 ?_
 refine zk 1 ?_
 refine zw (v := .c (I (List.length v10 : Int))) [] (Gj (A9) aE v10 (by kernel_rfl)) ?_
 refine zk 3 ?_
 refine mC [2, 3] (L2 := [(2, M8 v10), (3, .c (Bo ((List.length y44 : Int) == (List.length v10 : Int))))]) (G2 := [L4 0 p0, (2, .map false (F4 v43))]) 19 ?_
 cases h
 exact aI zr
 refine zx fun _ => ?_
 refine zk 2 ?_
 refine zl aE p0.Nodes ?_
 refine zk 1 ?_
 refine mC [1, 4, 10, 88, 89, 90] (L2 := [N3, E6 4 1, E6 10 14, (88, F7 p0.Nodes), (89, .c (I (List.length p0.Nodes : Int))), I9 90]) (G2 := [L4 0 p0, (1, .map true (H8 v10)), (9, A4 y11.1), (14, .map false (List.map (eM (A9) eB) (fY p0.Root true ([] : List (Int × Bool)))))]) 24 ?_
 refine aK ?_
 refine bJ (fun n s => ∃ v26 v27, hO p0 v10 j12 n v26 v27 = some r ∧ s = mk [N3, E6 4 1, E6 10 2, (88, F7 p0.Nodes), (89, .c (I (List.length p0.Nodes : Int))), C6 90 v26] [L4 0 p0, (1, .map true (H8 v10)), (2, .map false (F4 v27))] 3) n _ (zv [(0, 0), (1, 1), (14, 2)] [1, 4, 10, 88, 89, 90] 3) ⟨_, _, h, rfl⟩ (fun s ⟨v26, v27, h, _⟩ => nomatch h) ?_
 rintro n s ⟨v26, v27, h, rfl⟩
 rw [hO] at h
 refine za [1, 4, 10, 88, 89, 90, 91] ?_
 refine aO ?_
 refine zi h (fun h => ?_) fun h => ?_
 refine aC ?_
 refine aX h (fun A j => ∀ v40, j v40 = some r → A (mk [N3, E6 4 1, E6 10 2, (88, F7 p0.Nodes), (89, .c (I (List.length p0.Nodes : Int))), C6 90 v26] [L4 0 p0, (1, .map true (H8 v10)), (2, .map false (F4 v40))] 3)) (fun v40 h => ?_) (fun j28 Aj28 hj28 h => ?_)
 refine bB ?_
 refine zb ?_
 exact eZ (zv [(0, 0), (1, 1), (2, 2)] [1, 4, 10, 88, 89, 90] 3) (⟨_, _, h, rfl⟩)
 refine aK ?_
 refine zx fun _ => ?_
 obtain ⟨e29, he, h⟩ := aB h
 refine zd aE he ?_
 clear he
 refine zk 3 ?_
 refine ze [1, 4, 10, 12, 88, 89, 90] ?_
 refine zx fun _ => ?_
 refine zk 2 ?_
 refine zl aH e29.Kids ?_
 refine zk 1 ?_
 refine ze [1, 4, 10, 12, 88, 89, 90, 95, 96, 97] ?_
 refine aK ?_
 refine bJ (fun n s => ∃ v33 v34, jC e29 v10 j28 p0 v26 n v33 v34 = some r ∧ s = mk [N3, E6 4 1, E6 10 2, (88, F7 p0.Nodes), (89, .c (I (List.length p0.Nodes : Int))), C6 90 v26, C0 12 3 0, H1 95 e29.Kids, (96, .c (I (List.length e29.Kids : Int))), C6 97 v33] [L4 0 p0, (1, .map true (H8 v10)), (2, .map false (F4 v34)), (3, A4 e29)] 4) n _ (zv [(0, 0), (1, 1), (2, 2), (6, 3)] [1, 4, 10, 88, 89, 90, 12, 95, 96, 97] 4) ⟨_, _, h, rfl⟩ (fun s ⟨v33, v34, h, _⟩ => nomatch h) ?_
 rintro n s ⟨v33, v34, h, rfl⟩
 rw [jC] at h
 refine za [1, 4, 10, 12, 88, 89, 90, 95, 96, 97, 98] ?_
 refine aO ?_
 refine zi h (fun h => ?_) fun h => ?_
 refine aC ?_
 refine aO ?_
 refine aK ?_
 refine zx fun _ => ?_
 obtain ⟨e35, he, h⟩ := aB h
 refine zd aH he ?_
 clear he
 refine zk 2 ?_
 refine ze [1, 4, 10, 12, 14, 88, 89, 90, 95, 96, 97] ?_
 refine aO ?_
 refine zx fun _ => ?_
 refine zk 2 ?_
 obtain ⟨y36, he, h⟩ := aB h
 refine zw (v := .tup [B4 y36.1, B2 y36.2]) [1] (cT (kf := (A9)) (enc := aE) (l := v10) (k := e35) (ok := true) (kk := .int .i64) (j := ⟨.st [(3, 0, 1), (3, 1, 1), (3, 2, 1), (9, 3, 1), (55, 4, 1), (56, 5, 1), (22, 6, 1)], 7, 112, [.int .i64 0, .int .i64 0, .int .i64 0, .string ⟨#[]⟩, .slice none 0 0, .slice none 0 0, .slice none 0 0]⟩) (p := y36) (v := .agg [I y36.1.ID, I y36.1.Parent, I y36.1.Kind, Sx y36.1.Key, C7 y36.1.Attrs, C9 y36.1.Actions, C1 y36.1.Kids]) he (by kernel_rfl) eE (by kernel_rfl) (by kernel_rfl) (by kernel_rfl)) ?_
 clear he
 refine zk 6 ?_
 refine ze [1, 4, 10, 12, 14, 15, 16, 88, 89, 90, 95, 96, 97] ?_
 refine zx fun _ => ?_
 refine zk 3 ?_
 refine zE (A1 14 1) ?_
 refine zE (A6 y36.1.Parent) ?_
 refine zE (A1 3 0) ?_
 refine zE (A6 e29.ID) ?_
 refine zE (B2 (y36.1.Parent != e29.ID)) ?_
 refine zP (.bool ((!y36.2) || (y36.1.Parent != e29.ID))) ?_
 refine zk 1 ?_
 refine zE (.c (.mapr 2)) ?_
 refine zE (A6 e35) ?_
 obtain ⟨y37, he, h⟩ := aB h
 refine uH (e := [!((!y36.2) || (y36.1.Parent != e29.ID))]) [(117, .c (.mapr 2), some 1), (118, A6 e35, some 1)] (v := .c (Bo y37.1)) (foot := [2]) (by kernel_rfl) (by kernel_rfl) (by kernel_rfl) (fun hg => cT (kf := (A9)) (enc := eB) (l := v34) (k := e35) (ok := false) (kk := .int .i64) (j := ⟨.boo, 1, 1, [.bool false]⟩) (p := y37) (v := .c (Bo y37.1)) (cD he hg) (by kernel_rfl) eE (by kernel_rfl) (by kernel_rfl) (by kernel_rfl)) rfl rfl ?_
 clear he
 refine zP (.bool (((!y36.2) || (y36.1.Parent != e29.ID)) || y37.1)) ?_
 refine mC [1, 4, 10, 12, 14, 88, 89, 90, 95, 96, 97, 120] (L2 := [N3, E6 4 1, E6 10 2, (88, F7 p0.Nodes), (89, .c (I (List.length p0.Nodes : Int))), C6 90 v26, C0 12 3 0, H1 95 e29.Kids, (96, .c (I (List.length e29.Kids : Int))), C6 97 v33, C6 14 e35, (120, B2 (((!y36.2) || (y36.1.Parent != e29.ID)) || y37.1))]) (G2 := [L4 0 p0, (1, .map true (H8 v10)), (2, .map false (F4 v34)), (3, A4 e29), (14, A4 y36.1)]) 31 ?_
 refine zi h (fun h => ?_) fun h => ?_
 refine za [2, 3] ?_
 refine aL (pY 2 true (L2 := [(2, .c (.lmap true (List.map (eM (A9) aE) ([] : List (Int × aP))))), (3, .c (Bo false))]) (by kernel_rfl) (by kernel_rfl)) ?_
 cases h
 exact aI zr
 refine aC ?_
 refine zy fun _ => ?_
 refine zk 2 ?_
 refine jM (kf := (A9)) (enc := eB) (l := v34) (k := e35) (v := true) (n := 2) (ag := false) (kk := .int .i64) (by kernel_rfl) eE (by kernel_rfl) (by kernel_rfl) rfl rfl ?_
 refine cF ?_
 refine bB ?_
 refine zb ?_
 exact eZ (zv [(0, 0), (1, 1), (2, 2), (3, 3)] [1, 4, 10, 88, 89, 90, 12, 95, 96, 97] 4) (⟨_, _, h, rfl⟩)
 exact aL (zv [(0, 0), (1, 1), (2, 2)] [1, 4, 10, 88, 89, 90] 3) (bK (hj28 _ h))
 exact aL (zv [(0, 0), (1, 1), (2, 2)] [1, 4, 10] 3) (bK (hj12 _ h))
 refine zx fun _ => ?_
 refine zk 2 ?_
 refine zl aE p0.Nodes ?_
 refine zk 1 ?_
 refine ze [1, 4, 5, 39, 40, 41] ?_
 refine aK ?_
 refine bJ (fun n s => ∃ v3 v4 v5, jE p0 j1 n v3 v4 v5 = some r ∧ s = mk [N3, E6 4 1, C6 5 v3, (39, F7 p0.Nodes), (40, .c (I (List.length p0.Nodes : Int))), C6 41 v4] [L4 0 p0, (1, .map true (H8 v5))] 2) n _ (zv [(0, 0), (23, 1)] [1, 4, 5, 39, 40, 41] 2) ⟨_, _, _, h, rfl⟩ (fun s ⟨v3, v4, v5, h, _⟩ => nomatch h) ?_
 rintro n s ⟨v3, v4, v5, h, rfl⟩
 rw [jE] at h
 refine za [1, 4, 5, 39, 40, 41, 42] ?_
 refine aO ?_
 refine zi h (fun h => ?_) fun h => ?_
 refine aC ?_
 refine aO ?_
 refine aK ?_
 refine zx fun _ => ?_
 obtain ⟨e6, he, h⟩ := aB h
 refine zd aE he ?_
 clear he
 refine zk 3 ?_
 refine ze [1, 4, 5, 7, 39, 40, 41] ?_
 refine aO ?_
 refine zx fun _ => ?_
 refine zk 5 ?_
 refine zE (A1 5 0) ?_
 refine zE (A6 e6.ID) ?_
 refine zE (A1 0 1) ?_
 refine zE (A6 p0.Next) ?_
 refine zE (B2 (I8 e6.ID p0.Next)) ?_
 refine zP (.bool ((I7 e6.ID v3) || (I8 e6.ID p0.Next))) ?_
 refine zk 1 ?_
 refine zE (A1 5 1) ?_
 refine zE (A6 e6.Parent) ?_
 refine zE (B2 (e6.Parent == 0)) ?_
 refine zE (A1 5 0) ?_
 refine zE (A6 e6.ID) ?_
 refine zE (A1 0 0) ?_
 refine zE (A6 p0.Root) ?_
 refine zE (B2 (e6.ID == p0.Root)) ?_
 refine zE (B2 ((e6.Parent == 0) != (e6.ID == p0.Root))) ?_
 refine zP (.bool (((I7 e6.ID v3) || (I8 e6.ID p0.Next)) || ((e6.Parent == 0) != (e6.ID == p0.Root)))) ?_
 refine mC [1, 4, 7, 39, 40, 41, 66] (L2 := [N3, E6 4 1, (39, F7 p0.Nodes), (40, .c (I (List.length p0.Nodes : Int))), C6 41 v4, C0 7 5 0, (66, B2 (((I7 e6.ID v3) || (I8 e6.ID p0.Next)) || ((e6.Parent == 0) != (e6.ID == p0.Root))))]) (G2 := [L4 0 p0, (1, .map true (H8 v5)), (5, A4 e6)]) 29 ?_
 refine zi h (fun h => ?_) fun h => ?_
 refine za [2, 3] ?_
 refine aL (pY 2 true (L2 := [(2, .c (.lmap true (List.map (eM (A9) aE) ([] : List (Int × aP))))), (3, .c (Bo false))]) (by kernel_rfl) (by kernel_rfl)) ?_
 cases h
 exact aI zr
 refine aC ?_
 refine za [1, 4, 5, 7, 39, 40, 41] ?_
 refine zy fun _ => ?_
 refine zk 4 ?_
 refine jM (kf := (A9)) (enc := aE) (l := v5) (k := e6.ID) (v := e6) (n := 1) (ag := true) (kk := .int .i64) (by kernel_rfl) eE (by kernel_rfl) (by kernel_rfl) rfl rfl ?_
 refine cF ?_
 refine bB ?_
 refine zb ?_
 exact eZ (zv [(0, 0), (1, 1)] [1, 4, 5, 39, 40, 41] 2) (⟨_, _, _, h, rfl⟩)
 exact aL (zv [(0, 0), (1, 1)] [1, 4] 2) (bK (hj1 _ h))
def fE (y1 : (aP × Bool)) (self_view_described : (List (Int × aP)) → Int → Option aJ) (p0 : (List (Int × aP))) (j2 : List aJ → Option aJ) : Nat → Int → List aJ → Option aJ
 | 0, _, _ => none
 | n + 1, v7, v8 => (if (decide (v7 < (List.length y1.1.Kids : Int))) = true then (idx y1.1.Kids v7).bind fun (e9 : Int) => (self_view_described p0 e9).bind fun (y10 : aJ) => (pD 96 v8 [y10]).bind fun (l11 : List aJ) => fE y1 self_view_described p0 j2 n (IntKind.wrap .i64 (v7 + 1)) l11 else j2 v8)
def jK (self_view_described : (List (Int × aP)) → Int → Option aJ) (n : Nat) (p0 : (List (Int × aP))) (p1 : Int) : Option aJ := (some (cZ p1 p0, gU p1 p0)).bind fun (y1 : (aP × Bool)) => (aS (fun (v15 : List aJ) => some (aJ.mk y1.1.Kind y1.1.Key y1.1.Attrs y1.1.Actions v15)) (fun (j2 : List aJ → Option aJ) => fE y1 self_view_described p0 j2 n 0 ([] : List aJ)))
theorem uC (self_view_described : (K5) → Int → Option aJ) (ih_view_described : ∀ (p0 : (K5)) (p1 : Int) (r : aJ), self_view_described p0 p1 = some r → dI E 94 0 [M8 p0, A6 p1] [] (B0 r) []) (n : Nat) (p0 : (K5)) (p1 : Int) (r : aJ) (h : jK self_view_described n p0 p1 = some r) : dI E 94 0 [M8 p0, A6 p1] [] (B0 r) [] := by
 refine gT Tryz.func94 rfl ?_
 unfold jK at h
 refine za [0, 1, 4] ?_
 refine zx fun _ => ?_
 refine zk 2 ?_
 obtain ⟨y1, he, h⟩ := aB h
 refine zw (v := .agg [I y1.1.ID, I y1.1.Parent, I y1.1.Kind, Sx y1.1.Key, C7 y1.1.Attrs, C9 y1.1.Actions, C1 y1.1.Kids]) [] (cT (kf := (A9)) (enc := aE) (l := p0) (k := p1) (ok := false) (kk := .int .i64) (j := ⟨.st [(3, 0, 1), (3, 1, 1), (3, 2, 1), (9, 3, 1), (55, 4, 1), (56, 5, 1), (22, 6, 1)], 7, 112, [.int .i64 0, .int .i64 0, .int .i64 0, .string ⟨#[]⟩, .slice none 0 0, .slice none 0 0, .slice none 0 0]⟩) (p := y1) (v := .agg [I y1.1.ID, I y1.1.Parent, I y1.1.Kind, Sx y1.1.Key, C7 y1.1.Attrs, C9 y1.1.Actions, C1 y1.1.Kids]) he (by kernel_rfl) eE (by kernel_rfl) (by kernel_rfl) (by kernel_rfl)) ?_
 clear he
 refine zk 2 ?_
 refine ze [0, 4, 5] ?_
 refine za [0, 4, 5, 6] ?_
 refine aX h (fun A j => ∀ v15, j v15 = some r → A (mk [M6, N0] [(0, .blk 70 [I 0, Sx (⟨#[]⟩ : ByteArray), cQ, cQ, cQ]), (1, .blk 70 [I y1.1.Kind, Sx y1.1.Key, C7 y1.1.Attrs, C9 y1.1.Actions, K3 2 v15]), B7 2 70 5 v15] 3)) (fun v15 h => ?_) (fun j2 Aj2 hj2 h => ?_)
 refine za [4] ?_
 cases h
 exact aI zr
 refine zx fun _ => ?_
 refine zk 2 ?_
 refine zl aH y1.1.Kids ?_
 refine zk 1 ?_
 refine ze [0, 4, 6, 22, 23, 24] ?_
 refine aK ?_
 refine bJ (fun n s => ∃ v7 v8, fE y1 self_view_described p0 j2 n v7 v8 = some r ∧ s = mk [(0, M8 p0), M6, N0, H1 22 y1.1.Kids, (23, .c (I (List.length y1.1.Kids : Int))), C6 24 v7] [(0, .blk 70 [I 0, Sx (⟨#[]⟩ : ByteArray), cQ, cQ, cQ]), (1, .blk 70 [I y1.1.Kind, Sx y1.1.Key, C7 y1.1.Attrs, C9 y1.1.Actions, K3 2 v8]), B7 2 70 5 v8] 3) n _ (eA.trans (lX (n := 15) (T0 := 70) (l := [I y1.1.Kind, Sx y1.1.Key, C7 y1.1.Attrs, C9 y1.1.Actions, cQ]) (G2 := [(0, .blk 70 [I 0, Sx (⟨#[]⟩ : ByteArray), cQ, cQ, cQ]), (4, A4 y1.1), (15, .blk 70 [I y1.1.Kind, Sx y1.1.Key, C7 y1.1.Attrs, C9 y1.1.Actions, .app 21 (List.map bE ([] : List aJ))]), (21, .tok 70 5 (List.length ([] : List aJ)))]) (lim2 := 22) 4 70 5 (by kernel_rfl) (by kernel_rfl) (by kernel_rfl) (by kernel_rfl)) (zv [(0, 0), (15, 1), (21, 2)] [0, 4, 6, 22, 23, 24] 3)) ⟨_, _, h, rfl⟩ (fun s ⟨v7, v8, h, _⟩ => nomatch h) ?_
 rintro n s ⟨v7, v8, h, rfl⟩
 rw [fE] at h
 refine za [0, 4, 6, 22, 23, 24, 25] ?_
 refine aO ?_
 refine zi h (fun h => ?_) fun h => ?_
 refine aC ?_
 refine aO ?_
 refine aK ?_
 refine zx fun _ => ?_
 obtain ⟨e9, he, h⟩ := aB h
 refine zd aH he ?_
 clear he
 refine zk 2 ?_
 refine ze [0, 4, 6, 8, 22, 23, 24] ?_
 refine Uo [[], [0], [], [], [2, 3], [4, 2, 3], [1, 5, 4, 0, 2, 3], [0, 1, 2, 3, 4, 5, 6], [7, 6, 0, 1, 2, 3, 4, 5]] fun _ => ?_
 refine zk 4 ?_
 obtain ⟨y10, he, h⟩ := aB h
 refine zc aBj (ih_view_described _ _ y10 he) ?_
 clear he
 refine rG (e := 70) (sz := 5) (len := 1) (r := [I y10.Kind, Sx y10.Key, C7 y10.Attrs, C9 y10.Actions, G8 y10.Kids]) (l' := List.map bE [y10]) (nm := 12) (by kernel_rfl) (by simp only [List.map_cons, List.map_nil, iA]; kernel_rfl) (by kernel_rfl) (by kernel_rfl) rfl rfl rfl ?_
 obtain ⟨l11, he, h⟩ := aB h
 refine cH (enc := bE) (l := v8) (els := [y10]) (r := l11) (old := some 2) (e := 70) (sz := 5) (bytes := 96) (k := (H4 v8)) (nm := 13) he (by kernel_rfl) (by kernel_rfl) (fun x => by rw [iA]; rfl) (by kernel_rfl) (by kernel_rfl) rfl rfl rfl ?_
 clear he
 refine zk 2 ?_
 refine cF ?_
 refine bB ?_
 refine zb ?_
 exact eZ (zv [(0, 0), (1, 1), (13, 2)] [0, 4, 6, 22, 23, 24] 3) (⟨_, _, h, rfl⟩)
 exact aL (zv [(0, 0), (1, 1), (2, 2)] [4, 6] 3) (bK (hj2 _ h))
def gJ : Nat → (List (Int × aP)) → Int → Option aJ
 | 0, _, _ => none
 | n + 1, p0, p1 => jK (fun a0 a1 => gJ n a0 a1) n p0 p1
theorem yW (n : Nat) : (∀ (p0 : (K5)) (p1 : Int) (r : aJ), gJ n p0 p1 = some r → dI E 94 0 [M8 p0, A6 p1] [] (B0 r) []) := by
 induction n with
 | zero => intro p0 p1 r h; rw [gJ] at h; cases h
 | succ n ih => intro p0 p1 r h; rw [gJ] at h; exact uC _ ih n _ _ r h
end Go.Proofs.YtojkihhnioeggaaGreatDoor.S
