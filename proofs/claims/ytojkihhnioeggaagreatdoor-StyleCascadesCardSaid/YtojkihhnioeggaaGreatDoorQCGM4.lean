import Derived.Test.YtojkihhnioeggaaGreatDoorQCGM3
set_option linter.unusedVariables false
set_option linter.unusedSimpArgs false
set_option maxRecDepth 100000
set_option maxHeartbeats 4000000
namespace Go.Proofs.YtojkihhnioeggaaGreatDoor.S
open Go Go.Bm
def dB  (n : Nat) (p0 : Int) (p1 : Int) : Option Bool := (iB n p0).bind fun (y1 : Bool) => (gd [y1] (idx aZ p0)).bind fun (e2 : cB) => (gd [(y1 && (decide (p1 ≥ e2.low)))] (idx aZ p0)).bind fun (e3 : cB) => some ((y1 && (decide (p1 ≥ e2.low))) && (decide (p1 ≤ e3.high)))
theorem tH  (n : Nat) (p0 : Int) (p1 : Int) (r : Bool) (h : dB n p0 p1 = some r) : cW E 21 0 [B7 p0, B7 p1] [] (B3 r) [] := by
 refine eV Tryz.func21 rfl ?_
 unfold dB at h
 refine za [0, 1] ?_
 refine zx fun _ => ?_
 refine zk 1 ?_
 obtain ⟨y1, he, h⟩ := aC h
 refine zc Vh (pR n _ y1 he) ?_
 clear he
 refine zk 1 ?_
 refine zE (B7 p1) ?_
 refine zE (B7 p0) ?_
 obtain ⟨e2, he, h⟩ := aC h
 refine Du (es := [y1]) [(9, B7 p0, some 1)] (enc := jL) (xs := aZ) (ix := p0) (e := e2) (c := [Bo e2.inherited, I e2.low, I e2.high, I e2.start]) (len := 22) (sz := 4) (fun hg => bR he hg) (by kernel_rfl) (by kernel_rfl) (by kernel_rfl) (by kernel_rfl) (by kernel_rfl) (by kernel_rfl) (fun x => by kernel_rfl) rfl rfl ?_
 clear he
 refine zE (.c (.imm [I e2.low, I e2.high, I e2.start])) ?_
 refine zE (B7 e2.low) ?_
 refine zE (B3 (I0 p1 e2.low)) ?_
 refine zP (.bool (y1 && (I0 p1 e2.low))) ?_
 refine zk 1 ?_
 refine zE (B7 p1) ?_
 refine zE (B7 p0) ?_
 obtain ⟨e3, he, h⟩ := aC h
 refine Du (es := [y1 && (I0 p1 e2.low)]) [(17, B7 p0, some 1)] (enc := jL) (xs := aZ) (ix := p0) (e := e3) (c := [Bo e3.inherited, I e3.low, I e3.high, I e3.start]) (len := 22) (sz := 4) (fun hg => bR he hg) (by kernel_rfl) (by kernel_rfl) (by kernel_rfl) (by kernel_rfl) (by kernel_rfl) (by kernel_rfl) (fun x => by kernel_rfl) rfl rfl ?_
 clear he
 refine zE (.c (.imm [I e3.high, I e3.start])) ?_
 refine zE (B7 e3.high) ?_
 refine zE (B3 (I2 p1 e3.high)) ?_
 refine zP (.bool ((y1 && (I0 p1 e2.low)) && (I2 p1 e3.high))) ?_
 refine zk 1 ?_
 refine jY [4] (L2 := [(4, B3 ((y1 && (I0 p1 e2.low)) && (I2 p1 e3.high)))]) (G2 := []) 20 ?_
 cases h
 exact aD zr
def jB  (n : Nat) (p0 : bN) (p1 : Int) : Option Int := (iB n p0.Prop_).bind fun (y1 : Bool) => (if (!y1) = true then some 1 else (aS (fun (v3 : Bool) => (if v3 = true then some 9 else (gd [(p0.Source == 0)] (dB n p0.Prop_ p0.N)).bind fun (y4 : Bool) => (if ((p0.Source == 0) && (!y4)) = true then some 1 else (gd [(p0.Source == 1)] (eE n p0.Token)).bind fun (y5 : Bool) => (if ((p0.Source == 1) && (!y5)) = true then some 4 else (if (((p0.Prop_ == 5) || (p0.Prop_ == 21)) && ((jW .i64 p1 7) != 0)) = true then some 13 else some 0))))) (fun (j2 : Bool → Option Int) => (if ((decide (p0.Source < 0)) || (decide (p0.Source > 3))) = true then j2 ((decide (p0.Source < 0)) || (decide (p0.Source > 3))) else (if ((p0.N != 0) && (p0.Source != 0)) = true then j2 ((p0.N != 0) && (p0.Source != 0)) else j2 ((!(bQ p0.Token (⟨#[]⟩ : ByteArray))) && (p0.Source != 1)))))))
theorem wF  (n : Nat) (p0 : bN) (p1 : Int) (r : Int) (h : jB n p0 p1 = some r) : cW E 67 0 [M8 p0, B7 p1] [] (B7 r) [] := by
 refine eV Tryz.func67 rfl ?_
 unfold jB at h
 refine za [1, 2] ?_
 refine aI ?_
 refine aG ?_
 refine zx fun _ => ?_
 refine zk 2 ?_
 obtain ⟨y1, he, h⟩ := aC h
 refine zc Vh (pR n _ y1 he) ?_
 clear he
 refine zk 2 ?_
 refine ze [1, 2, 5] ?_
 refine zi h (fun h => ?_) fun h => ?_
 refine za [4] ?_
 cases h
 exact aD zr
 refine aQ h (fun A j => ∀ v3, j v3 = some r → A (mk [A6 1 p1, J0, J3 10 v3] [(0, E3 p0)] 1)) (fun v3 h => ?_) (fun j2 Aj2 hj2 h => ?_)
 refine zi h (fun h => ?_) fun h => ?_
 refine za [4] ?_
 cases h
 exact aD zr
 refine zx fun _ => ?_
 refine zk 4 ?_
 refine zE (B9 0 0) ?_
 refine zE (B7 p0.Prop_) ?_
 refine zE (B9 0 2) ?_
 refine zE (B7 p0.N) ?_
 obtain ⟨y4, he, h⟩ := aC h
 refine An [p0.Source == 0] fok21 (fun hg => tH n _ _ y4 (bR he hg)) ?_
 clear he
 refine zE (B3 (!y4)) ?_
 refine zP (.bool ((p0.Source == 0) && (!y4))) ?_
 refine zk 1 ?_
 refine ze [1, 2, 35] ?_
 refine zi h (fun h => ?_) fun h => ?_
 refine za [4] ?_
 cases h
 exact aD zr
 refine zx fun _ => ?_
 refine zk 4 ?_
 refine zE (B9 0 3) ?_
 refine zE (F0 p0.Token) ?_
 obtain ⟨y5, he, h⟩ := aC h
 refine An [p0.Source == 1] En (fun hg => kQ n _ y5 (bR he hg)) ?_
 clear he
 refine zE (B3 (!y5)) ?_
 refine zP (.bool ((p0.Source == 1) && (!y5))) ?_
 refine zk 1 ?_
 refine jY [1, 2, 47] (L2 := [A6 1 p1, J0, (47, B3 ((p0.Source == 1) && (!y5)))]) (G2 := [(0, E3 p0)]) 23 ?_
 refine zi h (fun h => ?_) fun h => ?_
 refine za [4] ?_
 cases h
 exact aD zr
 refine zx fun _ => ?_
 refine zk 4 ?_
 refine zE (B9 0 0) ?_
 refine zE (B7 p0.Prop_) ?_
 refine zE (B3 (p0.Prop_ == 21)) ?_
 refine zP (.bool ((p0.Prop_ == 5) || (p0.Prop_ == 21))) ?_
 refine zk 1 ?_
 refine zE (B7 p1) ?_
 refine zE (B7 (O4 p1 7)) ?_
 refine zE (B3 ((O4 p1 7) != 0)) ?_
 refine zP (.bool (((p0.Prop_ == 5) || (p0.Prop_ == 21)) && ((O4 p1 7) != 0))) ?_
 refine zk 1 ?_
 refine jY [57] (L2 := [(57, B3 (((p0.Prop_ == 5) || (p0.Prop_ == 21)) && ((O4 p1 7) != 0)))]) (G2 := [(0, E3 p0)]) 37 ?_
 refine zi h (fun h => ?_) fun h => ?_
 refine za [4] ?_
 cases h
 exact aD zr
 refine aB ?_
 refine za [4] ?_
 cases h
 exact aD zr
 refine zx fun _ => ?_
 refine zk 4 ?_
 refine zE (B9 0 1) ?_
 refine zE (B7 p0.Source) ?_
 refine zE (J5 p0.Source 3) ?_
 refine zP (.bool (A3 p0.Source 0 3)) ?_
 refine zk 1 ?_
 refine jY [1, 2, 10] (L2 := [A6 1 p1, J0, (10, B3 (A3 p0.Source 0 3))]) (G2 := [(0, E3 p0)]) 16 ?_
 refine zi h (fun h => ?_) fun h => ?_
 exact aH (zv [(0, 0)] [1, 2, 10] 1) (aB (hj2 _ h))
 refine zx fun _ => ?_
 refine zk 4 ?_
 refine zE (B9 0 1) ?_
 refine zE (B7 p0.Source) ?_
 refine zE (B3 (p0.Source != 0)) ?_
 refine zP (.bool ((p0.N != 0) && (p0.Source != 0))) ?_
 refine zk 1 ?_
 refine ze [1, 2, 10] ?_
 refine zi h (fun h => ?_) fun h => ?_
 exact aH (zv [(0, 0)] [1, 2, 10] 1) (aB (hj2 _ h))
 refine aW ?_
 refine zy fun _ => ?_
 refine zk 4 ?_
 refine zE (B9 0 1) ?_
 refine zE (B7 p0.Source) ?_
 refine zE (B3 (p0.Source != 1)) ?_
 refine zP (.bool ((!(bQ p0.Token (⟨#[]⟩ : ByteArray))) && (p0.Source != 1))) ?_
 refine zk 1 ?_
 refine bV ?_
 exact dF (zv [(0, 0)] [1, 2, 10] 1) (hj2 _ h)
def fB (e14 : bZ) (j13 : Unit → Option Int) (p0 : bK) (v12 : Int) : Nat → Int → Option Int
 | 0, _ => none
 | n + 1, v19 => (if (decide (v19 < (List.length e14.Decls : Int))) = true then (idx e14.Decls v19).bind fun (e20 : bN) => (jB n e20 e14.States).bind fun (y21 : Int) => (if (y21 != 0) = true then some y21 else fB e14 j13 p0 v12 n (IntKind.wrap .i64 (v19 + 1))) else j13 ())
def eA (p0 : bK) (j1 : Unit → Option Int) : Nat → Int → Option Int
 | 0, _ => none
 | n + 1, v12 => (if (decide (v12 < (List.length p0.Rules : Int))) = true then (aS (fun (_ : Unit) => eA p0 j1 n (IntKind.wrap .i64 (v12 + 1))) (fun (j13 : Unit → Option Int) => (idx p0.Rules v12).bind fun (e14 : bZ) => (if ((((decide (e14.Kind < 0)) || (decide (e14.Kind > 13))) || (decide (e14.UnderKind < 0))) || (decide (e14.UnderKind > 13))) = true then some 9 else (gd [(!(bQ e14.Class (⟨#[]⟩ : ByteArray)))] (eE n e14.Class)).bind fun (y15 : Bool) => (gd [(!((!(bQ e14.Class (⟨#[]⟩ : ByteArray))) && (!y15))), (!(bQ e14.UnderClass (⟨#[]⟩ : ByteArray)))] (eE n e14.UnderClass)).bind fun (y16 : Bool) => (if (((!(bQ e14.Class (⟨#[]⟩ : ByteArray))) && (!y15)) || ((!(bQ e14.UnderClass (⟨#[]⟩ : ByteArray))) && (!y16))) = true then some 4 else (if ((decide (e14.States < 0)) || (decide (e14.States > 31))) = true then some 1 else (if (decide ((List.length e14.Decls : Int) > 50)) = true then some 2 else fB e14 j13 p0 v12 n 0)))))) else j1 ())
def mB  (n : Nat) (p0 : bK) : Option Int := (if (decide ((List.length p0.Rules : Int) > 100)) = true then some 2 else (aS (fun (_ : Unit) => some 0) (fun (j1 : Unit → Option Int) => eA p0 j1 n 0)))
theorem zU  (n : Nat) (p0 : bK) (r : Int) (h : mB n p0 = some r) : cW E 34 0 [.agg [C5 p0.Rules]] [] (B7 r) [] := by
 refine eV Tryz.func34 rfl ?_
 unfold mB at h
 refine za [1] ?_
 refine aI ?_
 refine zx fun _ => ?_
 refine zk 2 ?_
 refine zl aY p0.Rules ?_
 refine zk 1 ?_
 refine ze [1, 11] ?_
 refine zi h (fun h => ?_) fun h => ?_
 refine za [2] ?_
 cases h
 exact aD zr
 refine aB ?_
 refine aQ h (fun A j => ∀ u, j u = some r → A (N7)) (fun u h => ?_) (fun j1 Aj1 hj1 h => ?_)
 refine za [2] ?_
 cases h
 exact aD zr
 refine zx fun _ => ?_
 refine zk 2 ?_
 refine zl aY p0.Rules ?_
 refine zk 1 ?_
 refine ze [13, 14, 15] ?_
 refine aG ?_
 refine bA (fun n s => ∃ v12, eA p0 j1 n v12 = some r ∧ s = mk [(13, .c (C5 p0.Rules)), (14, .c (I (List.length p0.Rules : Int))), A6 15 v12] [] 0) n _ (zv [] [13, 14, 15] 0) ⟨_, h, rfl⟩ (fun s ⟨v12, h, _⟩ => nomatch h) ?_
 rintro n s ⟨v12, h, rfl⟩
 rw [eA] at h
 refine za [13, 14, 15, 16] ?_
 refine aI ?_
 refine zi h (fun h => ?_) fun h => ?_
 refine aB ?_
 refine aQ h (fun A j => ∀ u, j u = some r → A (mk [(13, .c (C5 p0.Rules)), (14, .c (I (List.length p0.Rules : Int))), A6 15 v12] [] 0)) (fun u h => ?_) (fun j13 Aj13 hj13 h => ?_)
 refine aW ?_
 refine zb ?_
 exact dF (zv [] [13, 14, 15] 0) (⟨_, h, rfl⟩)
 refine aG ?_
 refine zx fun _ => ?_
 obtain ⟨e14, he, h⟩ := aC h
 refine zd aY he ?_
 clear he
 refine zk 3 ?_
 refine ze [4, 13, 14, 15] ?_
 refine aI ?_
 refine aG ?_
 refine zx fun _ => ?_
 refine zk 4 ?_
 refine zE (B9 3 0) ?_
 refine zE (B7 e14.Kind) ?_
 refine zE (J5 e14.Kind 13) ?_
 refine zP (.bool (A3 e14.Kind 0 13)) ?_
 refine zk 1 ?_
 refine zE (B9 3 3) ?_
 refine zE (B7 e14.UnderKind) ?_
 refine zE (H9 e14.UnderKind 0) ?_
 refine zP (.bool ((A3 e14.Kind 0 13) || (C1 e14.UnderKind 0))) ?_
 refine zk 1 ?_
 refine zE (B9 3 3) ?_
 refine zE (B7 e14.UnderKind) ?_
 refine zE (J5 e14.UnderKind 13) ?_
 refine zP (.bool (((A3 e14.Kind 0 13) || (C1 e14.UnderKind 0)) || (D5 e14.UnderKind 13))) ?_
 refine zk 1 ?_
 refine jY [4, 13, 14, 15, 19] (L2 := [(13, .c (C5 p0.Rules)), (14, .c (I (List.length p0.Rules : Int))), A6 15 v12, A1 4 3 0, (19, B3 (((A3 e14.Kind 0 13) || (C1 e14.UnderKind 0)) || (D5 e14.UnderKind 13)))]) (G2 := [K5 3 e14]) 24 ?_
 refine zi h (fun h => ?_) fun h => ?_
 refine za [2] ?_
 cases h
 exact aD zr
 refine zx fun _ => ?_
 refine zk 4 ?_
 refine zE (B9 3 1) ?_
 refine zE (F0 e14.Class) ?_
 obtain ⟨y15, he, h⟩ := aC h
 refine An [(!(bQ e14.Class (⟨#[]⟩ : ByteArray)))] En (fun hg => kQ n _ y15 (bR he hg)) ?_
 clear he
 refine zE (B3 (!y15)) ?_
 refine zP (.bool ((!(bQ e14.Class (⟨#[]⟩ : ByteArray))) && (!y15))) ?_
 refine zk 1 ?_
 refine zE (B9 3 4) ?_
 refine zE (F0 e14.UnderClass) ?_
 refine zE (.c (Bo (!(bQ e14.UnderClass (⟨#[]⟩ : ByteArray))))) ?_
 refine zF [(!((!(bQ e14.Class (⟨#[]⟩ : ByteArray))) && (!y15)))] (.c (Bo (!(bQ e14.UnderClass (⟨#[]⟩ : ByteArray))))) ?_
 refine zE (B9 3 4) ?_
 refine zE (F0 e14.UnderClass) ?_
 obtain ⟨y16, he, h⟩ := aC h
 refine An [(!((!(bQ e14.Class (⟨#[]⟩ : ByteArray))) && (!y15))), (!(bQ e14.UnderClass (⟨#[]⟩ : ByteArray)))] En (fun hg => kQ n _ y16 (bR he hg)) ?_
 clear he
 refine zE (B3 (!y16)) ?_
 refine zP (.bool ((!(bQ e14.UnderClass (⟨#[]⟩ : ByteArray))) && (!y16))) ?_
 refine zP (.bool (((!(bQ e14.Class (⟨#[]⟩ : ByteArray))) && (!y15)) || ((!(bQ e14.UnderClass (⟨#[]⟩ : ByteArray))) && (!y16)))) ?_
 refine zk 1 ?_
 refine jY [4, 13, 14, 15, 38] (L2 := [(13, .c (C5 p0.Rules)), (14, .c (I (List.length p0.Rules : Int))), A6 15 v12, A1 4 3 0, (38, .c (Bo (((!(bQ e14.Class (⟨#[]⟩ : ByteArray))) && (!y15)) || ((!(bQ e14.UnderClass (⟨#[]⟩ : ByteArray))) && (!y16)))))]) (G2 := [K5 3 e14]) 45 ?_
 refine zi h (fun h => ?_) fun h => ?_
 refine za [2] ?_
 cases h
 exact aD zr
 refine zx fun _ => ?_
 refine zk 4 ?_
 refine zE (B9 3 2) ?_
 refine zE (B7 e14.States) ?_
 refine zE (J5 e14.States 31) ?_
 refine zP (.bool (A3 e14.States 0 31)) ?_
 refine zk 1 ?_
 refine ze [4, 13, 14, 15, 59] ?_
 refine zi h (fun h => ?_) fun h => ?_
 refine za [2] ?_
 cases h
 exact aD zr
 refine zx fun _ => ?_
 refine zk 2 ?_
 refine zl bI e14.Decls ?_
 refine zk 2 ?_
 refine ze [4, 13, 14, 15, 68] ?_
 refine zi h (fun h => ?_) fun h => ?_
 refine za [2] ?_
 cases h
 exact aD zr
 refine aB ?_
 refine zx fun _ => ?_
 refine zk 2 ?_
 refine zl bI e14.Decls ?_
 refine zk 1 ?_
 refine jY [4, 13, 14, 15, 74, 75, 76] (L2 := [(13, .c (C5 p0.Rules)), (14, .c (I (List.length p0.Rules : Int))), A6 15 v12, A1 4 3 0, K7 74 e14.Decls, (75, .c (I (List.length e14.Decls : Int))), I5 76]) (G2 := [K5 3 e14]) 63 ?_
 refine aG ?_
 refine bA (fun n s => ∃ v19, fB e14 j13 p0 v12 n v19 = some r ∧ s = mk [(13, .c (C5 p0.Rules)), (14, .c (I (List.length p0.Rules : Int))), A6 15 v12, I7, K7 74 e14.Decls, (75, .c (I (List.length e14.Decls : Int))), A6 76 v19] [K5 0 e14] 1) n _ (zv [(3, 0)] [13, 14, 15, 4, 74, 75, 76] 1) ⟨_, h, rfl⟩ (fun s ⟨v19, h, _⟩ => nomatch h) ?_
 rintro n s ⟨v19, h, rfl⟩
 rw [fB] at h
 refine za [4, 13, 14, 15, 74, 75, 76, 77] ?_
 refine aI ?_
 refine zi h (fun h => ?_) fun h => ?_
 refine aB ?_
 refine aI ?_
 refine aG ?_
 refine zx fun _ => ?_
 obtain ⟨e20, he, h⟩ := aC h
 refine zd bI he ?_
 clear he
 refine zk 3 ?_
 refine ze [4, 6, 13, 14, 15, 74, 75, 76] ?_
 refine zx fun _ => ?_
 refine zk 3 ?_
 obtain ⟨y21, he, h⟩ := aC h
 refine zc fok67 (wF n _ _ y21 he) ?_
 clear he
 refine zk 1 ?_
 refine ze [4, 7, 13, 14, 15, 74, 75, 76] ?_
 refine za [4, 7, 13, 14, 15, 74, 75, 76, 85] ?_
 refine zi h (fun h => ?_) fun h => ?_
 refine za [2] ?_
 cases h
 exact aD zr
 refine aB ?_
 refine aW ?_
 refine zb ?_
 exact dF (zv [(0, 0)] [13, 14, 15, 4, 74, 75, 76] 1) (⟨_, h, rfl⟩)
 exact aH (zv [] [13, 14, 15] 0) (bG (hj13 _ h))
 exact aH (zv [] [] 0) (bG (hj1 _ h))
def pN  (n : Nat) (p0 : Int) : Option Bool := some ((decide (p0 ≥ 0)) && (decide (p0 ≤ 16777215)))
theorem Gj  (n : Nat) (p0 : Int) (r : Bool) (h : pN n p0 = some r) : cW E 68 0 [B7 p0] [] (B3 r) [] := by
 refine eV Tryz.func68 rfl ?_
 unfold pN at h
 refine za [0] ?_
 refine zx fun _ => ?_
 refine zk 3 ?_
 refine zE (B7 p0) ?_
 refine zE (B3 (I2 p0 16777215)) ?_
 refine zP (.bool (E1 p0 0 16777215)) ?_
 refine zk 1 ?_
 refine ze [2] ?_
 cases h
 exact aD zr
def dM (e15 : dL) (j14 : List (ByteArray × Bool) → Option Int) (v13 : List (ByteArray × Bool)) (p0 : bS) (v12 : Int) : Nat → Int → Option Int
 | 0, _ => none
 | n + 1, v19 => (if (decide (v19 < 4)) = true then (idx (gJ.toL (gJ.mk e15.Light e15.Dark e15.HighLight e15.HighDark)) v19).bind fun (e20 : Int) => (gd [(e20 != (-1 : Int))] (pN n e20)).bind fun (y21 : Bool) => (if ((e20 != (-1 : Int)) && (!y21)) = true then some 1 else dM e15 j14 v13 p0 v12 n (IntKind.wrap .i64 (v19 + 1))) else j14 (iU e15.Name true v13))
def fI (p0 : bS) (j1 : Unit → Option Int) : Nat → Int → List (ByteArray × Bool) → Option Int
 | 0, _, _ => none
 | n + 1, v12, v13 => (if (decide (v12 < (List.length p0.Tokens : Int))) = true then (aS (fun (v23 : List (ByteArray × Bool)) => fI p0 j1 n (IntKind.wrap .i64 (v12 + 1)) v23) (fun (j14 : List (ByteArray × Bool) → Option Int) => (idx p0.Tokens v12).bind fun (e15 : dL) => (eE n e15.Name).bind fun (y16 : Bool) => (if (!y16) = true then some 4 else (some (eO e15.Name v13, kU e15.Name v13)).bind fun (y17 : (Bool × Bool)) => (if y17.1 = true then some 6 else dM e15 j14 v13 p0 v12 n 0)))) else j1 ())
def lM  (n : Nat) (p0 : bS) : Option Int := (if (decide ((List.length p0.Tokens : Int) > 100)) = true then some 2 else (aS (fun (_ : Unit) => some 0) (fun (j1 : Unit → Option Int) => fI p0 j1 n 0 ([] : List (ByteArray × Bool)))))
theorem zT  (n : Nat) (p0 : bS) (r : Int) (h : lM n p0 = some r) : cW E 35 0 [.agg [F8 p0.Tokens]] [] (B7 r) [] := by
 refine eV Tryz.func35 rfl ?_
 unfold lM at h
 refine za [1] ?_
 refine aI ?_
 refine zx fun _ => ?_
 refine zk 2 ?_
 refine zl bH p0.Tokens ?_
 refine zk 1 ?_
 refine ze [1, 11] ?_
 refine zi h (fun h => ?_) fun h => ?_
 refine za [2] ?_
 cases h
 exact aD zr
 refine aB ?_
 refine za [1, 3] ?_
 refine aQ h (fun A j => ∀ u, j u = some r → A (N7)) (fun u h => ?_) (fun j1 Aj1 hj1 h => ?_)
 refine za [2] ?_
 cases h
 exact aD zr
 refine zx fun _ => ?_
 refine zk 2 ?_
 refine zl bH p0.Tokens ?_
 refine zk 1 ?_
 refine ze [3, 14, 15, 16] ?_
 refine aG ?_
 refine bA (fun n s => ∃ v12 v13, fI p0 j1 n v12 v13 = some r ∧ s = mk [F6 3 0, (14, .c (F8 p0.Tokens)), (15, .c (I (List.length p0.Tokens : Int))), A6 16 v12] [(0, .map false (O5 v13))] 1) n _ (zv [(6, 0)] [3, 14, 15, 16] 1) ⟨_, _, h, rfl⟩ (fun s ⟨v12, v13, h, _⟩ => nomatch h) ?_
 rintro n s ⟨v12, v13, h, rfl⟩
 rw [fI] at h
 refine za [3, 14, 15, 16, 17] ?_
 refine aI ?_
 refine zi h (fun h => ?_) fun h => ?_
 refine aB ?_
 refine aQ h (fun A j => ∀ v23, j v23 = some r → A (mk [F6 3 0, (14, .c (F8 p0.Tokens)), (15, .c (I (List.length p0.Tokens : Int))), A6 16 v12] [(0, .map false (O5 v23))] 1)) (fun v23 h => ?_) (fun j14 Aj14 hj14 h => ?_)
 refine aW ?_
 refine zb ?_
 exact dF (zv [(0, 0)] [3, 14, 15, 16] 1) (⟨_, _, h, rfl⟩)
 refine aG ?_
 refine zx fun _ => ?_
 obtain ⟨e15, he, h⟩ := aC h
 refine zd bH he ?_
 clear he
 refine zk 3 ?_
 refine ze [3, 5, 14, 15, 16] ?_
 refine aI ?_
 refine aG ?_
 refine zx fun _ => ?_
 refine zk 2 ?_
 obtain ⟨y16, he, h⟩ := aC h
 refine zc En (kQ n _ y16 he) ?_
 clear he
 refine zk 2 ?_
 refine ze [3, 5, 14, 15, 16, 20] ?_
 refine zi h (fun h => ?_) fun h => ?_
 refine za [2] ?_
 cases h
 exact aD zr
 refine zx fun _ => ?_
 refine zk 3 ?_
 obtain ⟨y17, he, h⟩ := aC h
 refine zw (v := .c (Bo y17.1)) [0] (dK (kf := Value.string) (enc := eB) (l := v13) (k := e15.Name) (ok := false) (kk := .str) (j := ⟨.boo, 1, 1, [.bool false]⟩) (p := y17) (v := .c (Bo y17.1)) he (by kernel_rfl) Lr (by kernel_rfl) (by kernel_rfl) (by kernel_rfl)) ?_
 clear he
 refine zk 1 ?_
 refine ze [3, 5, 14, 15, 16, 25] ?_
 refine zi h (fun h => ?_) fun h => ?_
 refine za [2] ?_
 cases h
 exact aD zr
 refine aB ?_
 refine zx fun _ => ?_
 refine zk 3 ?_
 refine lB (kf := Value.string) (enc := eB) (l := v13) (k := e15.Name) (v := true) (n := 0) (ag := false) (kk := .str) (by kernel_rfl) Lr (by kernel_rfl) (by kernel_rfl) rfl rfl ?_
 refine jY [3, 5, 14, 15, 16] (L2 := [F6 3 0, (14, .c (F8 p0.Tokens)), (15, .c (I (List.length p0.Tokens : Int))), A6 16 v12, A1 5 4 0]) (G2 := [(0, .map false (O5 (iU e15.Name true v13))), (4, H4 e15)]) 20 ?_
 refine za [3, 14, 15, 16, 41, 42] ?_
 refine aG ?_
 refine bA (fun n s => ∃ v19, dM e15 j14 v13 p0 v12 n v19 = some r ∧ s = mk [F6 3 0, (14, .c (F8 p0.Tokens)), (15, .c (I (List.length p0.Tokens : Int))), A6 16 v12, (41, .agg [I e15.Light, I e15.Dark, I e15.HighLight, I e15.HighDark]), A6 42 v19] [(0, .map false (O5 (iU e15.Name true v13)))] 1) n _ (zv [(0, 0)] [3, 14, 15, 16, 41, 42] 1) ⟨_, h, rfl⟩ (fun s ⟨v19, h, _⟩ => nomatch h) ?_
 rintro n s ⟨v19, h, rfl⟩
 rw [dM] at h
 refine za [3, 14, 15, 16, 41, 42, 43] ?_
 refine aI ?_
 refine zi h (fun h => ?_) fun h => ?_
 refine aB ?_
 refine aI ?_
 refine aG ?_
 refine zx fun _ => ?_
 obtain ⟨e20, he, h⟩ := aC h
 refine cZ (v := .c (I e20)) (foot := []) (wV (enc := aN) (xs := (gJ.toL (gJ.mk e15.Light e15.Dark e15.HighLight e15.HighDark))) (ix := v19) (e := e20) (len := 4) (j := ⟨.int .i64, 1, 8, [.int .i64 0]⟩) (v := .c (I e20)) he (by kernel_rfl) (by kernel_rfl) (fun x => by kernel_rfl) (by decide) (by kernel_rfl)) (by kernel_rfl) rfl rfl ?_
 clear he
 refine zk 1 ?_
 refine ze [3, 7, 14, 15, 16, 41, 42] ?_
 refine zx fun _ => ?_
 refine zk 3 ?_
 refine zE (B7 e20) ?_
 obtain ⟨y21, he, h⟩ := aC h
 refine An [(e20 != (-1 : Int))] fok68 (fun hg => Gj n _ y21 (bR he hg)) ?_
 clear he
 refine zE (B3 (!y21)) ?_
 refine zP (.bool ((e20 != (-1 : Int)) && (!y21))) ?_
 refine ze [3, 14, 15, 16, 41, 42, 51] ?_
 refine zi h (fun h => ?_) fun h => ?_
 refine za [2] ?_
 cases h
 exact aD zr
 refine aB ?_
 refine aW ?_
 refine zb ?_
 exact dF (zv [(0, 0)] [3, 14, 15, 16, 41, 42] 1) (⟨_, h, rfl⟩)
 exact aH (zv [(0, 0)] [3, 14, 15, 16] 1) (bG (hj14 _ h))
 exact aH (zv [] [] 0) (bG (hj1 _ h))
def gI (y2 : (aR × Bool)) (self_view_preorder : (List (Int × aR)) → Int → Option (List Int)) (p0 : (List (Int × aR))) (j1 : List Int → Option (List Int)) : Nat → List Int → Int → Option (List Int)
 | 0, _, _ => none
 | n + 1, v6, v7 => (if (decide (v7 < (List.length y2.1.Kids : Int))) = true then (idx y2.1.Kids v7).bind fun (e8 : Int) => (self_view_preorder p0 e8).bind fun (y9 : (List Int)) => (pV 8 v6 y9).bind fun (l10 : List Int) => gI y2 self_view_preorder p0 j1 n l10 (IntKind.wrap .i64 (v7 + 1)) else j1 v6)
def kP (self_view_preorder : (List (Int × aR)) → Int → Option (List Int)) (n : Nat) (p0 : (List (Int × aR))) (p1 : Int) : Option (List Int) := (aS (fun (v13 : List Int) => some v13) (fun (j1 : List Int → Option (List Int)) => (some (eO p1 p0, kU p1 p0)).bind fun (y2 : (aR × Bool)) => gI y2 self_view_preorder p0 j1 n [p1] 0))
theorem uW (self_view_preorder : (M4) → Int → Option (K3)) (ih_view_preorder : ∀ (p0 : (M4)) (p1 : Int) (r : (K3)), self_view_preorder p0 p1 = some r → cW E 74 0 [O7 p0, B7 p1] [] (.c (D4 r)) []) (n : Nat) (p0 : (M4)) (p1 : Int) (r : (K3)) (h : kP self_view_preorder n p0 p1 = some r) : cW E 74 0 [O7 p0, B7 p1] [] (.c (D4 r)) [] := by
 refine eV Tryz.func74 rfl ?_
 unfold kP at h
 refine za [0, 1] ?_
 refine za [0, 1, 5] ?_
 refine aQ h (fun A j => ∀ v13, j v13 = some r → A (mk [(5, .c (.app 0 (List.map aN v13)))] [C4 0 3 1 v13] 1)) (fun v13 h => ?_) (fun j1 Aj1 hj1 h => ?_)
 refine za [4] ?_
 cases h
 exact aD zr
 refine zx fun _ => ?_
 refine zk 2 ?_
 obtain ⟨y2, he, h⟩ := aC h
 refine zw (v := .agg [I y2.1.ID, I y2.1.Parent, I y2.1.Kind, Sx y2.1.Key, C7 y2.1.Attrs, D3 y2.1.Actions, D4 y2.1.Kids]) [] (dK (kf := (B4)) (enc := aE) (l := p0) (k := p1) (ok := false) (kk := .int .i64) (j := ⟨.st [(3, 0, 1), (3, 1, 1), (3, 2, 1), (9, 3, 1), (55, 4, 1), (56, 5, 1), (22, 6, 1)], 7, 112, [.int .i64 0, .int .i64 0, .int .i64 0, .string ⟨#[]⟩, .slice none 0 0, .slice none 0 0, .slice none 0 0]⟩) (p := y2) (v := .agg [I y2.1.ID, I y2.1.Parent, I y2.1.Kind, Sx y2.1.Key, C7 y2.1.Attrs, D3 y2.1.Actions, D4 y2.1.Kids]) he (by kernel_rfl) iD (by kernel_rfl) (by kernel_rfl) (by kernel_rfl)) ?_
 clear he
 refine zk 1 ?_
 refine zl aN y2.1.Kids ?_
 refine zk 1 ?_
 refine ze [0, 5, 13, 14, 15] ?_
 refine aG ?_
 refine bA (fun n s => ∃ v6 v7, gI y2 self_view_preorder p0 j1 n v6 v7 = some r ∧ s = mk [(0, O7 p0), (5, .c (.app 0 (List.map aN v6))), J6 13 y2.1.Kids, (14, .c (I (List.length y2.1.Kids : Int))), A6 15 v7] [C4 0 3 1 v6] 1) n _ (zv [(2, 0)] [0, 5, 13, 14, 15] 1) ⟨_, _, h, rfl⟩ (fun s ⟨v6, v7, h, _⟩ => nomatch h) ?_
 rintro n s ⟨v6, v7, h, rfl⟩
 rw [gI] at h
 refine za [0, 5, 13, 14, 15, 16] ?_
 refine aI ?_
 refine zi h (fun h => ?_) fun h => ?_
 refine aB ?_
 refine aI ?_
 refine aG ?_
 refine zx fun _ => ?_
 obtain ⟨e8, he, h⟩ := aC h
 refine zd aN he ?_
 clear he
 refine zk 2 ?_
 refine ze [0, 5, 7, 13, 14, 15] ?_
 refine zy fun _ => ?_
 refine zk 3 ?_
 obtain ⟨y9, he, h⟩ := aC h
 refine zc Yo (ih_view_preorder _ _ y9 he) ?_
 clear he
 obtain ⟨l10, he, h⟩ := aC h
 refine cH (enc := aN) (l := v6) (els := y9) (r := l10) (old := some 0) (e := 3) (sz := 1) (bytes := 8) (k := (H1 v6)) (nm := 9) he (by kernel_rfl) (by kernel_rfl) (fun x => by kernel_rfl) (by kernel_rfl) (by kernel_rfl) rfl rfl rfl ?_
 clear he
 refine zk 1 ?_
 refine bV ?_
 refine aW ?_
 refine zb ?_
 exact dF (zv [(9, 0)] [0, 5, 13, 14, 15] 1) (⟨_, _, h, rfl⟩)
 exact aH (zv [(0, 0)] [5] 1) (bG (hj1 _ h))
def fA : Nat → (List (Int × aR)) → Int → Option (List Int)
 | 0, _, _ => none
 | n + 1, p0, p1 => kP (fun a0 a1 => fA n a0 a1) n p0 p1
theorem sS (n : Nat) : (∀ (p0 : (M4)) (p1 : Int) (r : (K3)), fA n p0 p1 = some r → cW E 74 0 [O7 p0, B7 p1] [] (.c (D4 r)) []) := by
 induction n with
 | zero => intro p0 p1 r h; rw [fA] at h; cases h
 | succ n ih => intro p0 p1 r h; rw [fA] at h; exact uW _ ih n _ _ r h
def jK (e29 : aR) (v10 : List (Int × aR)) (j28 : List (Int × Bool) → Option ((List (Int × aR)) × Bool)) (p0 : bB) (v26 : Int) : Nat → Int → List (Int × Bool) → Option ((List (Int × aR)) × Bool)
 | 0, _, _ => none
 | n + 1, v33, v34 => (if (decide (v33 < (List.length e29.Kids : Int))) = true then (idx e29.Kids v33).bind fun (e35 : Int) => (some (eO e35 v10, kU e35 v10)).bind fun (y36 : (aR × Bool)) => (gd [(!((!y36.2) || (y36.1.Parent != e29.ID)))] (some (eO e35 v34, kU e35 v34))).bind fun (y37 : (Bool × Bool)) => (if (((!y36.2) || (y36.1.Parent != e29.ID)) || y37.1) = true then some (([] : List (Int × aR)), false) else jK e29 v10 j28 p0 v26 n (IntKind.wrap .i64 (v33 + 1)) (iU e35 true v34)) else j28 v34)
def iF (p0 : bB) (v10 : List (Int × aR)) (j12 : List (Int × Bool) → Option ((List (Int × aR)) × Bool)) : Nat → Int → List (Int × Bool) → Option ((List (Int × aR)) × Bool)
 | 0, _, _ => none
 | n + 1, v26, v27 => (if (decide (v26 < (List.length p0.Nodes : Int))) = true then (aS (fun (v40 : List (Int × Bool)) => iF p0 v10 j12 n (IntKind.wrap .i64 (v26 + 1)) v40) (fun (j28 : List (Int × Bool) → Option ((List (Int × aR)) × Bool)) => (idx p0.Nodes v26).bind fun (e29 : aR) => jK e29 v10 j28 p0 v26 n 0 v27)) else j12 v27)
def jM (p0 : bB) (j1 : List (Int × aR) → Option ((List (Int × aR)) × Bool)) : Nat → Int → Int → List (Int × aR) → Option ((List (Int × aR)) × Bool)
 | 0, _, _, _ => none
 | n + 1, v3, v4, v5 => (if (decide (v4 < (List.length p0.Nodes : Int))) = true then (idx p0.Nodes v4).bind fun (e6 : aR) => (if (((decide (e6.ID ≤ v3)) || (decide (e6.ID ≥ p0.Next))) || ((e6.Parent == 0) != (e6.ID == p0.Root))) = true then some (([] : List (Int × aR)), false) else jM p0 j1 n e6.ID (IntKind.wrap .i64 (v4 + 1)) (iU e6.ID e6 v5)) else j1 v5)
def rD  (n : Nat) (p0 : bB) : Option ((List (Int × aR)) × Bool) := (if ((((decide (p0.Next < 2)) || (decide (p0.Next > 1099511627776))) || (decide ((List.length p0.Nodes : Int) < 1))) || (decide ((List.length p0.Nodes : Int) > 400))) = true then some (([] : List (Int × aR)), false) else (aS (fun (v10 : List (Int × aR)) => (some (eO p0.Root v10, kU p0.Root v10)).bind fun (y11 : (aR × Bool)) => (if (!y11.2) = true then some (([] : List (Int × aR)), false) else (aS (fun (v43 : List (Int × Bool)) => (if ((List.length v43 : Int) != (List.length v10 : Int)) = true then some (([] : List (Int × aR)), false) else (fA n v10 p0.Root).bind fun (y44 : (List Int)) => some (v10, ((List.length y44 : Int) == (List.length v10 : Int))))) (fun (j12 : List (Int × Bool) → Option ((List (Int × aR)) × Bool)) => iF p0 v10 j12 n 0 (iU p0.Root true ([] : List (Int × Bool))))))) (fun (j1 : List (Int × aR) → Option ((List (Int × aR)) × Bool)) => jM p0 j1 n 0 0 ([] : List (Int × aR)))))
theorem Hw  (n : Nat) (p0 : bB) (r : ((M4) × Bool)) (h : rD n p0 = some r) : cW E 93 0 [C0 p0] [] (.tup [O7 r.1, B3 r.2]) [] := by
 refine eV Tryz.func93 rfl ?_
 unfold rD at h
 refine za [1] ?_
 refine aI ?_
 refine zx fun _ => ?_
 refine zk 4 ?_
 refine zE (B9 0 1) ?_
 refine zE (B7 p0.Next) ?_
 refine zE (B3 (G5 p0.Next)) ?_
 refine zP (.bool (J9 p0.Next)) ?_
 refine zk 1 ?_
 refine zE (B9 0 2) ?_
 refine zE (F4 p0.Nodes) ?_
 refine jZ (e := [!(J9 p0.Next)]) [(27, F4 p0.Nodes, some 1)] (v := .c (I (List.length p0.Nodes : Int))) (foot := []) (by kernel_rfl) (by kernel_rfl) (by kernel_rfl) (fun hg => lN (enc := aE) (l := p0.Nodes) (by kernel_rfl)) rfl rfl ?_
 refine zE (.c (Bo (decide ((List.length p0.Nodes : Int) < 1)))) ?_
 refine zP (.bool ((J9 p0.Next) || (decide ((List.length p0.Nodes : Int) < 1)))) ?_
 refine zk 1 ?_
 refine zE (B9 0 2) ?_
 refine zE (F4 p0.Nodes) ?_
 refine jZ (e := [(!((J9 p0.Next) || (decide ((List.length p0.Nodes : Int) < 1))))]) [(33, F4 p0.Nodes, some 1)] (v := .c (I (List.length p0.Nodes : Int))) (foot := []) (by kernel_rfl) (by kernel_rfl) (by kernel_rfl) (fun hg => lN (enc := aE) (l := p0.Nodes) (by kernel_rfl)) rfl rfl ?_
 refine zE (.c (Bo (decide ((List.length p0.Nodes : Int) > 400)))) ?_
 refine zP (.bool (((J9 p0.Next) || (decide ((List.length p0.Nodes : Int) < 1))) || (decide ((List.length p0.Nodes : Int) > 400)))) ?_
 refine jY [1, 36] (L2 := [H3, (36, .c (Bo (((J9 p0.Next) || (decide ((List.length p0.Nodes : Int) < 1))) || (decide ((List.length p0.Nodes : Int) > 400)))))]) (G2 := [I1 0 p0]) 23 ?_
 refine zi h (fun h => ?_) fun h => ?_
 refine za [2, 3] ?_
 refine aH (qI 2 true (L2 := [(2, .c (.lmap true (List.map (eM (B4) aE) ([] : List (Int × aR))))), L9 3]) (by kernel_rfl) (by kernel_rfl)) ?_
 cases h
 exact aD zr
 refine aB ?_
 refine za [1, 4] ?_
 refine za [1, 4, 5] ?_
 refine aQ h (fun A j => ∀ v10, j v10 = some r → A (mk [H3, F6 4 1] [I1 0 p0, (1, .map true (I4 v10))] 2)) (fun v10 h => ?_) (fun j1 Aj1 hj1 h => ?_)
 refine aI ?_
 refine zx fun _ => ?_
 refine zk 3 ?_
 obtain ⟨y11, he, h⟩ := aC h
 refine zw (v := .tup [B5 y11.1, B3 y11.2]) [1] (dK (kf := (B4)) (enc := aE) (l := v10) (k := p0.Root) (ok := true) (kk := .int .i64) (j := ⟨.st [(3, 0, 1), (3, 1, 1), (3, 2, 1), (9, 3, 1), (55, 4, 1), (56, 5, 1), (22, 6, 1)], 7, 112, [.int .i64 0, .int .i64 0, .int .i64 0, .string ⟨#[]⟩, .slice none 0 0, .slice none 0 0, .slice none 0 0]⟩) (p := y11) (v := .agg [I y11.1.ID, I y11.1.Parent, I y11.1.Kind, Sx y11.1.Key, C7 y11.1.Attrs, D3 y11.1.Actions, D4 y11.1.Kids]) he (by kernel_rfl) iD (by kernel_rfl) (by kernel_rfl) (by kernel_rfl)) ?_
 clear he
 refine zk 6 ?_
 refine ze [1, 4, 9] ?_
 refine za [1, 4, 82] ?_
 refine zi h (fun h => ?_) fun h => ?_
 refine za [2, 3] ?_
 refine aH (qI 2 true (L2 := [(2, .c (.lmap true (List.map (eM (B4) aE) ([] : List (Int × aR))))), L9 3]) (by kernel_rfl) (by kernel_rfl)) ?_
 cases h
 exact aD zr
 refine aB ?_
 refine zx fun _ => ?_
 refine zk 3 ?_
 refine lB (kf := (B4)) (enc := eB) (l := ([] : List (Int × Bool))) (k := p0.Root) (v := true) (n := 14) (ag := false) (kk := .int .i64) (by kernel_rfl) iD (by kernel_rfl) (by kernel_rfl) rfl rfl ?_
 refine zk 2 ?_
 refine ze [1, 4, 10] ?_
 refine aQ h (fun A j => ∀ v43, j v43 = some r → A (mk [H3, F6 4 1, F6 10 2] [I1 0 p0, (1, .map true (I4 v10)), (2, .map false (O1 v43))] 3)) (fun v43 h => ?_) (fun j12 Aj12 hj12 h => ?_)
 refine aI ?_
 refine zx fun _ => ?_
 refine zk 1 ?_
 refine zw (v := .c (I (List.length v43 : Int))) [2] (Gu (B4) eB v43 (by kernel_rfl)) ?_
 refine zk 1 ?_
 refine zw (v := .c (I (List.length v10 : Int))) [1] (Gu (B4) aE v10 (by kernel_rfl)) ?_
 refine zk 1 ?_
 refine ze [1, 4, 129] ?_
 refine zi h (fun h => ?_) fun h => ?_
 refine za [2, 3] ?_
 refine aH (qI 2 true (L2 := [(2, .c (.lmap true (List.map (eM (B4) aE) ([] : List (Int × aR))))), L9 3]) (by kernel_rfl) (by kernel_rfl)) ?_
 cases h
 exact aD zr
 refine aB ?_
 refine aH (sP 1 (ag := true) (l := List.map (eM (B4) aE) v10) (L2 := [H3, (4, O7 v10), (129, .c (Bo ((List.length v43 : Int) != (List.length v10 : Int))))]) (G2 := [I1 0 p0, (2, .map false (O1 v43))]) (by kernel_rfl) (by kernel_rfl) (by kernel_rfl)) ?_
 refine zx fun _ => ?_
 refine zk 4 ?_
 obtain ⟨y44, he, h⟩ := aC h
 refine zc Yo (sS n _ _ y44 he) ?_
 clear he
 refine zl aN y44 ?_
 refine zk 1 ?_
 refine zw (v := .c (I (List.length v10 : Int))) [] (Gu (B4) aE v10 (by kernel_rfl)) ?_
 refine zk 3 ?_
 refine jY [2, 3] (L2 := [(2, O7 v10), (3, .c (Bo ((List.length y44 : Int) == (List.length v10 : Int))))]) (G2 := [I1 0 p0, (2, .map false (O1 v43))]) 19 ?_
 cases h
 exact aD zr
 refine zx fun _ => ?_
 refine zk 2 ?_
 refine zl aE p0.Nodes ?_
 refine zk 1 ?_
 refine jY [1, 4, 10, 88, 89, 90] (L2 := [H3, F6 4 1, F6 10 14, (88, F4 p0.Nodes), (89, .c (I (List.length p0.Nodes : Int))), I5 90]) (G2 := [I1 0 p0, (1, .map true (I4 v10)), (9, A9 y11.1), (14, .map false (List.map (eM (B4) eB) (iU p0.Root true ([] : List (Int × Bool)))))]) 24 ?_
 refine aG ?_
 refine bA (fun n s => ∃ v26 v27, iF p0 v10 j12 n v26 v27 = some r ∧ s = mk [H3, F6 4 1, F6 10 2, (88, F4 p0.Nodes), (89, .c (I (List.length p0.Nodes : Int))), A6 90 v26] [I1 0 p0, (1, .map true (I4 v10)), (2, .map false (O1 v27))] 3) n _ (zv [(0, 0), (1, 1), (14, 2)] [1, 4, 10, 88, 89, 90] 3) ⟨_, _, h, rfl⟩ (fun s ⟨v26, v27, h, _⟩ => nomatch h) ?_
 rintro n s ⟨v26, v27, h, rfl⟩
 rw [iF] at h
 refine za [1, 4, 10, 88, 89, 90, 91] ?_
 refine aI ?_
 refine zi h (fun h => ?_) fun h => ?_
 refine aB ?_
 refine aQ h (fun A j => ∀ v40, j v40 = some r → A (mk [H3, F6 4 1, F6 10 2, (88, F4 p0.Nodes), (89, .c (I (List.length p0.Nodes : Int))), A6 90 v26] [I1 0 p0, (1, .map true (I4 v10)), (2, .map false (O1 v40))] 3)) (fun v40 h => ?_) (fun j28 Aj28 hj28 h => ?_)
 refine aW ?_
 refine zb ?_
 exact dF (zv [(0, 0), (1, 1), (2, 2)] [1, 4, 10, 88, 89, 90] 3) (⟨_, _, h, rfl⟩)
 refine aG ?_
 refine zx fun _ => ?_
 obtain ⟨e29, he, h⟩ := aC h
 refine zd aE he ?_
 clear he
 refine zk 3 ?_
 refine ze [1, 4, 10, 12, 88, 89, 90] ?_
 refine zx fun _ => ?_
 refine zk 2 ?_
 refine zl aN e29.Kids ?_
 refine zk 1 ?_
 refine ze [1, 4, 10, 12, 88, 89, 90, 95, 96, 97] ?_
 refine aG ?_
 refine bA (fun n s => ∃ v33 v34, jK e29 v10 j28 p0 v26 n v33 v34 = some r ∧ s = mk [H3, F6 4 1, F6 10 2, (88, F4 p0.Nodes), (89, .c (I (List.length p0.Nodes : Int))), A6 90 v26, A1 12 3 0, J6 95 e29.Kids, (96, .c (I (List.length e29.Kids : Int))), A6 97 v33] [I1 0 p0, (1, .map true (I4 v10)), (2, .map false (O1 v34)), (3, A9 e29)] 4) n _ (zv [(0, 0), (1, 1), (2, 2), (6, 3)] [1, 4, 10, 88, 89, 90, 12, 95, 96, 97] 4) ⟨_, _, h, rfl⟩ (fun s ⟨v33, v34, h, _⟩ => nomatch h) ?_
 rintro n s ⟨v33, v34, h, rfl⟩
 rw [jK] at h
 refine za [1, 4, 10, 12, 88, 89, 90, 95, 96, 97, 98] ?_
 refine aI ?_
 refine zi h (fun h => ?_) fun h => ?_
 refine aB ?_
 refine aI ?_
 refine aG ?_
 refine zx fun _ => ?_
 obtain ⟨e35, he, h⟩ := aC h
 refine zd aN he ?_
 clear he
 refine zk 2 ?_
 refine ze [1, 4, 10, 12, 14, 88, 89, 90, 95, 96, 97] ?_
 refine aI ?_
 refine zx fun _ => ?_
 refine zk 2 ?_
 obtain ⟨y36, he, h⟩ := aC h
 refine zw (v := .tup [B5 y36.1, B3 y36.2]) [1] (dK (kf := (B4)) (enc := aE) (l := v10) (k := e35) (ok := true) (kk := .int .i64) (j := ⟨.st [(3, 0, 1), (3, 1, 1), (3, 2, 1), (9, 3, 1), (55, 4, 1), (56, 5, 1), (22, 6, 1)], 7, 112, [.int .i64 0, .int .i64 0, .int .i64 0, .string ⟨#[]⟩, .slice none 0 0, .slice none 0 0, .slice none 0 0]⟩) (p := y36) (v := .agg [I y36.1.ID, I y36.1.Parent, I y36.1.Kind, Sx y36.1.Key, C7 y36.1.Attrs, D3 y36.1.Actions, D4 y36.1.Kids]) he (by kernel_rfl) iD (by kernel_rfl) (by kernel_rfl) (by kernel_rfl)) ?_
 clear he
 refine zk 6 ?_
 refine ze [1, 4, 10, 12, 14, 15, 16, 88, 89, 90, 95, 96, 97] ?_
 refine zx fun _ => ?_
 refine zk 3 ?_
 refine zE (B9 14 1) ?_
 refine zE (B7 y36.1.Parent) ?_
 refine zE (B9 3 0) ?_
 refine zE (B7 e29.ID) ?_
 refine zE (B3 (y36.1.Parent != e29.ID)) ?_
 refine zP (.bool ((!y36.2) || (y36.1.Parent != e29.ID))) ?_
 refine zk 1 ?_
 refine zE (.c (.mapr 2)) ?_
 refine zE (B7 e35) ?_
 obtain ⟨y37, he, h⟩ := aC h
 refine Fg (e := [!((!y36.2) || (y36.1.Parent != e29.ID))]) [(117, .c (.mapr 2), some 1), (118, B7 e35, some 1)] (v := .c (Bo y37.1)) (foot := [2]) (by kernel_rfl) (by kernel_rfl) (by kernel_rfl) (fun hg => dK (kf := (B4)) (enc := eB) (l := v34) (k := e35) (ok := false) (kk := .int .i64) (j := ⟨.boo, 1, 1, [.bool false]⟩) (p := y37) (v := .c (Bo y37.1)) (bR he hg) (by kernel_rfl) iD (by kernel_rfl) (by kernel_rfl) (by kernel_rfl)) rfl rfl ?_
 clear he
 refine zP (.bool (((!y36.2) || (y36.1.Parent != e29.ID)) || y37.1)) ?_
 refine jY [1, 4, 10, 12, 14, 88, 89, 90, 95, 96, 97, 120] (L2 := [H3, F6 4 1, F6 10 2, (88, F4 p0.Nodes), (89, .c (I (List.length p0.Nodes : Int))), A6 90 v26, A1 12 3 0, J6 95 e29.Kids, (96, .c (I (List.length e29.Kids : Int))), A6 97 v33, A6 14 e35, (120, B3 (((!y36.2) || (y36.1.Parent != e29.ID)) || y37.1))]) (G2 := [I1 0 p0, (1, .map true (I4 v10)), (2, .map false (O1 v34)), (3, A9 e29), (14, A9 y36.1)]) 31 ?_
 refine zi h (fun h => ?_) fun h => ?_
 refine za [2, 3] ?_
 refine aH (qI 2 true (L2 := [(2, .c (.lmap true (List.map (eM (B4) aE) ([] : List (Int × aR))))), L9 3]) (by kernel_rfl) (by kernel_rfl)) ?_
 cases h
 exact aD zr
 refine aB ?_
 refine zy fun _ => ?_
 refine zk 2 ?_
 refine lB (kf := (B4)) (enc := eB) (l := v34) (k := e35) (v := true) (n := 2) (ag := false) (kk := .int .i64) (by kernel_rfl) iD (by kernel_rfl) (by kernel_rfl) rfl rfl ?_
 refine bV ?_
 refine aW ?_
 refine zb ?_
 exact dF (zv [(0, 0), (1, 1), (2, 2), (3, 3)] [1, 4, 10, 88, 89, 90, 12, 95, 96, 97] 4) (⟨_, _, h, rfl⟩)
 exact aH (zv [(0, 0), (1, 1), (2, 2)] [1, 4, 10, 88, 89, 90] 3) (bG (hj28 _ h))
 exact aH (zv [(0, 0), (1, 1), (2, 2)] [1, 4, 10] 3) (bG (hj12 _ h))
 refine zx fun _ => ?_
 refine zk 2 ?_
 refine zl aE p0.Nodes ?_
 refine zk 1 ?_
 refine ze [1, 4, 5, 39, 40, 41] ?_
 refine aG ?_
 refine bA (fun n s => ∃ v3 v4 v5, jM p0 j1 n v3 v4 v5 = some r ∧ s = mk [H3, F6 4 1, A6 5 v3, (39, F4 p0.Nodes), (40, .c (I (List.length p0.Nodes : Int))), A6 41 v4] [I1 0 p0, (1, .map true (I4 v5))] 2) n _ (zv [(0, 0), (23, 1)] [1, 4, 5, 39, 40, 41] 2) ⟨_, _, _, h, rfl⟩ (fun s ⟨v3, v4, v5, h, _⟩ => nomatch h) ?_
 rintro n s ⟨v3, v4, v5, h, rfl⟩
 rw [jM] at h
 refine za [1, 4, 5, 39, 40, 41, 42] ?_
 refine aI ?_
 refine zi h (fun h => ?_) fun h => ?_
 refine aB ?_
 refine aI ?_
 refine aG ?_
 refine zx fun _ => ?_
 obtain ⟨e6, he, h⟩ := aC h
 refine zd aE he ?_
 clear he
 refine zk 3 ?_
 refine ze [1, 4, 5, 7, 39, 40, 41] ?_
 refine aI ?_
 refine zx fun _ => ?_
 refine zk 5 ?_
 refine zE (B9 5 0) ?_
 refine zE (B7 e6.ID) ?_
 refine zE (B9 0 1) ?_
 refine zE (B7 p0.Next) ?_
 refine zE (B3 (I0 e6.ID p0.Next)) ?_
 refine zP (.bool ((I2 e6.ID v3) || (I0 e6.ID p0.Next))) ?_
 refine zk 1 ?_
 refine zE (B9 5 1) ?_
 refine zE (B7 e6.Parent) ?_
 refine zE (B3 (e6.Parent == 0)) ?_
 refine zE (B9 5 0) ?_
 refine zE (B7 e6.ID) ?_
 refine zE (B9 0 0) ?_
 refine zE (B7 p0.Root) ?_
 refine zE (B3 (e6.ID == p0.Root)) ?_
 refine zE (B3 ((e6.Parent == 0) != (e6.ID == p0.Root))) ?_
 refine zP (.bool (((I2 e6.ID v3) || (I0 e6.ID p0.Next)) || ((e6.Parent == 0) != (e6.ID == p0.Root)))) ?_
 refine jY [1, 4, 7, 39, 40, 41, 66] (L2 := [H3, F6 4 1, (39, F4 p0.Nodes), (40, .c (I (List.length p0.Nodes : Int))), A6 41 v4, A1 7 5 0, (66, B3 (((I2 e6.ID v3) || (I0 e6.ID p0.Next)) || ((e6.Parent == 0) != (e6.ID == p0.Root))))]) (G2 := [I1 0 p0, (1, .map true (I4 v5)), (5, A9 e6)]) 29 ?_
 refine zi h (fun h => ?_) fun h => ?_
 refine za [2, 3] ?_
 refine aH (qI 2 true (L2 := [(2, .c (.lmap true (List.map (eM (B4) aE) ([] : List (Int × aR))))), L9 3]) (by kernel_rfl) (by kernel_rfl)) ?_
 cases h
 exact aD zr
 refine aB ?_
 refine za [1, 4, 5, 7, 39, 40, 41] ?_
 refine zy fun _ => ?_
 refine zk 4 ?_
 refine lB (kf := (B4)) (enc := aE) (l := v5) (k := e6.ID) (v := e6) (n := 1) (ag := true) (kk := .int .i64) (by kernel_rfl) iD (by kernel_rfl) (by kernel_rfl) rfl rfl ?_
 refine bV ?_
 refine aW ?_
 refine zb ?_
 exact dF (zv [(0, 0), (1, 1)] [1, 4, 5, 39, 40, 41] 2) (⟨_, _, _, h, rfl⟩)
 exact aH (zv [(0, 0), (1, 1)] [1, 4] 2) (bG (hj1 _ h))
def fF (y1 : (aR × Bool)) (self_view_described : (List (Int × aR)) → Int → Option aL) (p0 : (List (Int × aR))) (j2 : List aL → Option aL) : Nat → Int → List aL → Option aL
 | 0, _, _ => none
 | n + 1, v7, v8 => (if (decide (v7 < (List.length y1.1.Kids : Int))) = true then (idx y1.1.Kids v7).bind fun (e9 : Int) => (self_view_described p0 e9).bind fun (y10 : aL) => (pV 96 v8 [y10]).bind fun (l11 : List aL) => fF y1 self_view_described p0 j2 n (IntKind.wrap .i64 (v7 + 1)) l11 else j2 v8)
def jT (self_view_described : (List (Int × aR)) → Int → Option aL) (n : Nat) (p0 : (List (Int × aR))) (p1 : Int) : Option aL := (some (eO p1 p0, kU p1 p0)).bind fun (y1 : (aR × Bool)) => (aS (fun (v15 : List aL) => some (aL.mk y1.1.Kind y1.1.Key y1.1.Attrs y1.1.Actions v15)) (fun (j2 : List aL → Option aL) => fF y1 self_view_described p0 j2 n 0 ([] : List aL)))
theorem uE (self_view_described : (M4) → Int → Option aL) (ih_view_described : ∀ (p0 : (M4)) (p1 : Int) (r : aL), self_view_described p0 p1 = some r → cW E 94 0 [O7 p0, B7 p1] [] (B2 r) []) (n : Nat) (p0 : (M4)) (p1 : Int) (r : aL) (h : jT self_view_described n p0 p1 = some r) : cW E 94 0 [O7 p0, B7 p1] [] (B2 r) [] := by
 refine eV Tryz.func94 rfl ?_
 unfold jT at h
 refine za [0, 1, 4] ?_
 refine zx fun _ => ?_
 refine zk 2 ?_
 obtain ⟨y1, he, h⟩ := aC h
 refine zw (v := .agg [I y1.1.ID, I y1.1.Parent, I y1.1.Kind, Sx y1.1.Key, C7 y1.1.Attrs, D3 y1.1.Actions, D4 y1.1.Kids]) [] (dK (kf := (B4)) (enc := aE) (l := p0) (k := p1) (ok := false) (kk := .int .i64) (j := ⟨.st [(3, 0, 1), (3, 1, 1), (3, 2, 1), (9, 3, 1), (55, 4, 1), (56, 5, 1), (22, 6, 1)], 7, 112, [.int .i64 0, .int .i64 0, .int .i64 0, .string ⟨#[]⟩, .slice none 0 0, .slice none 0 0, .slice none 0 0]⟩) (p := y1) (v := .agg [I y1.1.ID, I y1.1.Parent, I y1.1.Kind, Sx y1.1.Key, C7 y1.1.Attrs, D3 y1.1.Actions, D4 y1.1.Kids]) he (by kernel_rfl) iD (by kernel_rfl) (by kernel_rfl) (by kernel_rfl)) ?_
 clear he
 refine zk 2 ?_
 refine ze [0, 4, 5] ?_
 refine za [0, 4, 5, 6] ?_
 refine aQ h (fun A j => ∀ v15, j v15 = some r → A (mk [I7, M9] [(0, .blk 70 [I 0, Sx (⟨#[]⟩ : ByteArray), cE, cE, cE]), (1, .blk 70 [I y1.1.Kind, Sx y1.1.Key, C7 y1.1.Attrs, D3 y1.1.Actions, K4 2 v15]), C4 2 70 5 v15] 3)) (fun v15 h => ?_) (fun j2 Aj2 hj2 h => ?_)
 refine za [4] ?_
 cases h
 exact aD zr
 refine zx fun _ => ?_
 refine zk 2 ?_
 refine zl aN y1.1.Kids ?_
 refine zk 1 ?_
 refine ze [0, 4, 6, 22, 23, 24] ?_
 refine aG ?_
 refine bA (fun n s => ∃ v7 v8, fF y1 self_view_described p0 j2 n v7 v8 = some r ∧ s = mk [(0, O7 p0), I7, M9, J6 22 y1.1.Kids, (23, .c (I (List.length y1.1.Kids : Int))), A6 24 v7] [(0, .blk 70 [I 0, Sx (⟨#[]⟩ : ByteArray), cE, cE, cE]), (1, .blk 70 [I y1.1.Kind, Sx y1.1.Key, C7 y1.1.Attrs, D3 y1.1.Actions, K4 2 v8]), C4 2 70 5 v8] 3) n _ (dT.trans (lF (n := 15) (T0 := 70) (l := [I y1.1.Kind, Sx y1.1.Key, C7 y1.1.Attrs, D3 y1.1.Actions, cE]) (G2 := [(0, .blk 70 [I 0, Sx (⟨#[]⟩ : ByteArray), cE, cE, cE]), (4, A9 y1.1), (15, .blk 70 [I y1.1.Kind, Sx y1.1.Key, C7 y1.1.Attrs, D3 y1.1.Actions, .app 21 (List.map bC ([] : List aL))]), (21, .tok 70 5 (List.length ([] : List aL)))]) (lim2 := 22) 4 70 5 (by kernel_rfl) (by kernel_rfl) (by kernel_rfl) (by kernel_rfl)) (zv [(0, 0), (15, 1), (21, 2)] [0, 4, 6, 22, 23, 24] 3)) ⟨_, _, h, rfl⟩ (fun s ⟨v7, v8, h, _⟩ => nomatch h) ?_
 rintro n s ⟨v7, v8, h, rfl⟩
 rw [fF] at h
 refine za [0, 4, 6, 22, 23, 24, 25] ?_
 refine aI ?_
 refine zi h (fun h => ?_) fun h => ?_
 refine aB ?_
 refine aI ?_
 refine aG ?_
 refine zx fun _ => ?_
 obtain ⟨e9, he, h⟩ := aC h
 refine zd aN he ?_
 clear he
 refine zk 2 ?_
 refine ze [0, 4, 6, 8, 22, 23, 24] ?_
 refine Rg [[], [0], [], [], [2, 3], [4, 2, 3], [1, 5, 4, 0, 2, 3], [0, 1, 2, 3, 4, 5, 6], [7, 6, 0, 1, 2, 3, 4, 5]] fun _ => ?_
 refine zk 4 ?_
 obtain ⟨y10, he, h⟩ := aC h
 refine zc fok94 (ih_view_described _ _ y10 he) ?_
 clear he
 refine qR (e := 70) (sz := 5) (len := 1) (r := [I y10.Kind, Sx y10.Key, C7 y10.Attrs, D3 y10.Actions, G6 y10.Kids]) (l' := List.map bC [y10]) (nm := 12) (by kernel_rfl) (by simp only [List.map_cons, List.map_nil, gD]; kernel_rfl) (by kernel_rfl) (by kernel_rfl) rfl rfl rfl ?_
 obtain ⟨l11, he, h⟩ := aC h
 refine cH (enc := bC) (l := v8) (els := [y10]) (r := l11) (old := some 2) (e := 70) (sz := 5) (bytes := 96) (k := (H1 v8)) (nm := 13) he (by kernel_rfl) (by kernel_rfl) (fun x => by rw [gD]; rfl) (by kernel_rfl) (by kernel_rfl) rfl rfl rfl ?_
 clear he
 refine zk 2 ?_
 refine bV ?_
 refine aW ?_
 refine zb ?_
 exact dF (zv [(0, 0), (1, 1), (13, 2)] [0, 4, 6, 22, 23, 24] 3) (⟨_, _, h, rfl⟩)
 exact aH (zv [(0, 0), (1, 1), (2, 2)] [4, 6] 3) (bG (hj2 _ h))
def gP : Nat → (List (Int × aR)) → Int → Option aL
 | 0, _, _ => none
 | n + 1, p0, p1 => jT (fun a0 a1 => gP n a0 a1) n p0 p1
theorem zB (n : Nat) : (∀ (p0 : (M4)) (p1 : Int) (r : aL), gP n p0 p1 = some r → cW E 94 0 [O7 p0, B7 p1] [] (B2 r) []) := by
 induction n with
 | zero => intro p0 p1 r h; rw [gP] at h; cases h
 | succ n ih => intro p0 p1 r h; rw [gP] at h; exact uE _ ih n _ _ r h
end Go.Proofs.YtojkihhnioeggaaGreatDoor.S
