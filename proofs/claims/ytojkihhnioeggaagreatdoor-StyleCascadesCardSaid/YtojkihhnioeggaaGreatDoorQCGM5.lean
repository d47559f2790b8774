import Derived.Test.YtojkihhnioeggaaGreatDoorQCGM4
set_option linter.unusedVariables false
set_option linter.unusedSimpArgs false
set_option maxRecDepth 100000
set_option maxHeartbeats 4000000
namespace Go.Proofs.YtojkihhnioeggaaGreatDoor.S
open Go Go.Bm
def rL (p0 : ByteArray) (j1 : Unit → Option Bool) : Nat → Int → Option Bool
 | 0, _ => none
 | n + 1, v3 => (if (decide (v3 < (ByteArray.size p0 : Int))) = true then (yD p0 v3).bind fun (u4 : Int) => (if ((((((decide (u4 < 97)) || (decide (u4 > 122))) && ((decide (u4 < 65)) || (decide (u4 > 90)))) && ((decide (u4 < 48)) || (decide (u4 > 57)))) && (u4 != 45)) && (u4 != 95)) = true then some false else rL p0 j1 n (IntKind.wrap .i64 (v3 + 1))) else j1 ())
def yU  (n : Nat) (p0 : ByteArray) : Option Bool := (aS (fun (_ : Unit) => some (decide ((ByteArray.size p0 : Int) ≤ 24))) (fun (j1 : Unit → Option Bool) => rL p0 j1 n 0))
theorem Oi  (n : Nat) (p0 : ByteArray) (r : Bool) (h : yU n p0 = some r) : cW E 130 0 [F0 p0] [] (B3 r) [] := by
 refine eV Tryz.func130 rfl ?_
 unfold yU at h
 refine za [0] ?_
 refine aQ h (fun A j => ∀ u, j u = some r → A (mk [(0, F0 p0)] [] 0)) (fun u h => ?_) (fun j1 Aj1 hj1 h => ?_)
 refine za [2] ?_
 cases h
 exact aD zr
 refine za [0, 6, 7] ?_
 refine aG ?_
 refine bA (fun n s => ∃ v3, rL p0 j1 n v3 = some r ∧ s = mk [(0, F0 p0), (6, .c (I (ByteArray.size p0 : Int))), A6 7 v3] [] 0) n _ (zv [] [0, 6, 7] 0) ⟨_, h, rfl⟩ (fun s ⟨v3, h, _⟩ => nomatch h) ?_
 rintro n s ⟨v3, h, rfl⟩
 rw [rL] at h
 refine za [0, 6, 7, 8] ?_
 refine aI ?_
 refine zi h (fun h => ?_) fun h => ?_
 refine aB ?_
 refine aI ?_
 refine aG ?_
 refine za [0, 3, 6, 7] ?_
 refine zx fun _ => ?_
 refine zk 2 ?_
 obtain ⟨u4, he, h⟩ := aC h
 refine zs he ?_
 clear he
 refine zk 1 ?_
 refine ze [0, 4, 6, 7] ?_
 refine zx fun _ => ?_
 refine zk 3 ?_
 refine zE (I9 u4) ?_
 refine zE (J5 u4 122) ?_
 refine zP (.bool (G0 u4)) ?_
 refine zk 1 ?_
 refine zE (I9 u4) ?_
 refine zE (H9 u4 65) ?_
 refine zF [G0 u4] (H9 u4 65) ?_
 refine zE (I9 u4) ?_
 refine zE (J5 u4 90) ?_
 refine zP (.bool (J4 u4)) ?_
 refine zP (.bool ((G0 u4) && (J4 u4))) ?_
 refine zk 1 ?_
 refine zE (I9 u4) ?_
 refine zE (H9 u4 48) ?_
 refine zF [(G0 u4) && (J4 u4)] (H9 u4 48) ?_
 refine zE (I9 u4) ?_
 refine zE (J5 u4 57) ?_
 refine zP (.bool (N1 u4)) ?_
 refine zP (.bool (((G0 u4) && (J4 u4)) && (N1 u4))) ?_
 refine Wp 1 (L' := [(0, F0 p0), (6, .c (I (ByteArray.size p0 : Int))), A6 7 v3, (4, I9 u4), (13, I9 u4), (14, H9 u4 97), (15, H9 u4 97), (16, .cnd [!(C1 u4 97)] (I9 u4)), (17, .cnd [!(C1 u4 97)] (J5 u4 122)), (18, B3 (G0 u4)), (19, B3 (G0 u4)), (20, .cnd [G0 u4] (I9 u4)), (21, .cnd [G0 u4] (H9 u4 65)), (22, .cnd [G0 u4] (H9 u4 65)), (23, .cnd [G0 u4, !(C1 u4 65)] (I9 u4)), (24, .cnd [G0 u4, !(C1 u4 65)] (J5 u4 90)), (25, .cnd [G0 u4] (B3 (J4 u4))), (26, B3 ((G0 u4) && (J4 u4))), (27, B3 ((G0 u4) && (J4 u4))), (28, .cnd [(G0 u4) && (J4 u4)] (I9 u4)), (29, .cnd [(G0 u4) && (J4 u4)] (H9 u4 48)), (30, .cnd [(G0 u4) && (J4 u4)] (H9 u4 48)), (31, .cnd [(G0 u4) && (J4 u4), !(C1 u4 48)] (I9 u4)), (32, .cnd [(G0 u4) && (J4 u4), !(C1 u4 48)] (J5 u4 57)), (33, .cnd [(G0 u4) && (J4 u4)] (B3 (N1 u4))), (34, B3 (((G0 u4) && (J4 u4)) && (N1 u4))), (35, B3 (((G0 u4) && (J4 u4)) && (N1 u4)))]) (G' := []) (X' := []) ?_
 refine zE (I9 u4) ?_
 refine zE (B3 (u4 != 45)) ?_
 refine zP (.bool ((((G0 u4) && (J4 u4)) && (N1 u4)) && (u4 != 45))) ?_
 refine zk 1 ?_
 refine zE (I9 u4) ?_
 refine zE (B3 (u4 != 95)) ?_
 refine zP (.bool (((((G0 u4) && (J4 u4)) && (N1 u4)) && (u4 != 45)) && (u4 != 95))) ?_
 refine ze [0, 6, 7, 42] ?_
 refine zi h (fun h => ?_) fun h => ?_
 refine za [2] ?_
 cases h
 exact aD zr
 refine aB ?_
 refine aW ?_
 refine zb ?_
 exact dF (zv [] [0, 6, 7] 0) (⟨_, h, rfl⟩)
 exact aH (zv [] [0] 0) (bG (hj1 _ h))
def jD  (n : Nat) (p0 : aJ) : Option Bool := (aS (fun (v2 : Bool) => (if v2 = true then some ((bQ p0.S (⟨#[]⟩ : ByteArray)) && ((List.length p0.L : Int) == 0)) else (if (p0.Kind == 3) = true then some ((p0.N == 0) && ((List.length p0.L : Int) == 0)) else (if (p0.Kind == 4) = true then some ((p0.N == 0) && (bQ p0.S (⟨#[]⟩ : ByteArray))) else some false)))) (fun (j1 : Bool → Option Bool) => (if (p0.Kind == 1) = true then j1 (p0.Kind == 1) else j1 (p0.Kind == 2))))
theorem Fm  (n : Nat) (p0 : aJ) (r : Bool) (h : jD n p0 = some r) : cW E 149 0 [B8 p0] [] (B3 r) [] := by
 refine eV Tryz.func149 rfl ?_
 unfold jD at h
 refine za [1] ?_
 refine aI ?_
 refine za [1, 4] ?_
 refine aG ?_
 refine aQ h (fun A j => ∀ v2, j v2 = some r → A (mk [H3, A6 4 p0.Kind, J3 5 v2] [(0, E5 p0)] 1)) (fun v2 h => ?_) (fun j1 Aj1 hj1 h => ?_)
 refine zi h (fun h => ?_) fun h => ?_
 refine zx fun _ => ?_
 refine zk 4 ?_
 refine zE (B9 0 3) ?_
 refine zE (M7 p0.L) ?_
 refine jZ (e := [(bQ p0.S (⟨#[]⟩ : ByteArray))]) [(13, M7 p0.L, some 1)] (v := .c (I (List.length p0.L : Int))) (foot := []) (by kernel_rfl) (by kernel_rfl) (by kernel_rfl) (fun hg => lN (enc := aP) (l := p0.L) (by kernel_rfl)) rfl rfl ?_
 refine zE (.c (Bo ((List.length p0.L : Int) == 0))) ?_
 refine zP (.bool ((bQ p0.S (⟨#[]⟩ : ByteArray)) && ((List.length p0.L : Int) == 0))) ?_
 refine zk 1 ?_
 refine ze [2] ?_
 cases h
 exact aD zr
 refine za [1, 4, 17] ?_
 refine zi h (fun h => ?_) fun h => ?_
 refine zx fun _ => ?_
 refine zk 4 ?_
 refine zE (B9 0 3) ?_
 refine zE (M7 p0.L) ?_
 refine jZ (e := [p0.N == 0]) [(24, M7 p0.L, some 1)] (v := .c (I (List.length p0.L : Int))) (foot := []) (by kernel_rfl) (by kernel_rfl) (by kernel_rfl) (fun hg => lN (enc := aP) (l := p0.L) (by kernel_rfl)) rfl rfl ?_
 refine zE (.c (Bo ((List.length p0.L : Int) == 0))) ?_
 refine zP (.bool ((p0.N == 0) && ((List.length p0.L : Int) == 0))) ?_
 refine zk 1 ?_
 refine ze [2] ?_
 cases h
 exact aD zr
 refine za [1, 28] ?_
 refine zi h (fun h => ?_) fun h => ?_
 refine zx fun _ => ?_
 refine zk 4 ?_
 refine zE (B9 0 2) ?_
 refine zE (F0 p0.S) ?_
 refine zE (.c (Bo (bQ p0.S (⟨#[]⟩ : ByteArray)))) ?_
 refine zP (.bool ((p0.N == 0) && (bQ p0.S (⟨#[]⟩ : ByteArray)))) ?_
 refine zk 1 ?_
 refine ze [2] ?_
 cases h
 exact aD zr
 refine aB ?_
 refine za [2] ?_
 cases h
 exact aD zr
 refine za [1, 4, 5] ?_
 refine zi h (fun h => ?_) fun h => ?_
 exact aH (zv [(0, 0)] [1, 4, 5] 1) (aB (hj1 _ h))
 refine aW ?_
 refine zb ?_
 exact dF (zv [(0, 0)] [1, 4, 5] 1) (hj1 _ h)
def jA  (n : Nat) (p0 : Int) : Option Bool := some ((decide (p0 ≥ (-1099511627776 : Int))) && (decide (p0 ≤ 1099511627776)))
theorem Dz  (n : Nat) (p0 : Int) (r : Bool) (h : jA n p0 = some r) : cW E 150 0 [B7 p0] [] (B3 r) [] := by
 refine eV Tryz.func150 rfl ?_
 unfold jA at h
 refine za [0] ?_
 refine zx fun _ => ?_
 refine zk 3 ?_
 refine zE (B7 p0) ?_
 refine zE (B3 (I2 p0 1099511627776)) ?_
 refine zP (.bool ((decide (p0 ≥ (-1099511627776 : Int))) && (I2 p0 1099511627776))) ?_
 refine zk 1 ?_
 refine ze [2] ?_
 cases h
 exact aD zr
def pG  (n : Nat) (p0 : aX) : Option aX := some (aX.mk 4 [p0])
theorem qW  (n : Nat) (p0 : aX) (r : aX) (h : pG n p0 = some r) : cW E 153 0 [C9 p0] [] (C9 r) [] := by
 refine eV Tryz.func153 rfl ?_
 unfold pG at h
 refine za [1, 2] ?_
 refine zx fun _ => ?_
 refine zk 1 ?_
 refine qR (e := 190) (sz := 2) (len := 1) (r := [I p0.Kind, F3 p0.Of]) (l' := List.map bL [p0]) (nm := 3) (by kernel_rfl) (by simp only [List.map_cons, List.map_nil, gG]; kernel_rfl) (by kernel_rfl) (by kernel_rfl) rfl rfl rfl ?_
 refine zk 2 ?_
 refine ze [2] ?_
 cases h
 exact aD zr
def rE (self_expr_join : aX → aX → Option (aX × Bool)) (n : Nat) (p0 : aX) (p1 : aX) : Option (aX × Bool) := (if (p0.Kind != p1.Kind) = true then some ((aX.mk 0 ([] : List aX)), false) else (if ((List.length p0.Of : Int) == 0) = true then some (p1, true) else (if ((List.length p1.Of : Int) == 0) = true then some (p0, true) else (idx p0.Of 0).bind fun (e1 : aX) => (idx p1.Of 0).bind fun (e2 : aX) => (self_expr_join e1 e2).bind fun (y3 : (aX × Bool)) => (if (!y3.2) = true then some ((aX.mk 0 ([] : List aX)), false) else (pG n y3.1).bind fun (y4 : aX) => some (y4, true)))))
theorem zX (self_expr_join : aX → aX → Option (aX × Bool)) (ih_expr_join : ∀ (p0 : aX) (p1 : aX) (r : (aX × Bool)), self_expr_join p0 p1 = some r → cW E 155 0 [C9 p0, C9 p1] [] (.tup [C9 r.1, B3 r.2]) []) (n : Nat) (p0 : aX) (p1 : aX) (r : (aX × Bool)) (h : rE self_expr_join n p0 p1 = some r) : cW E 155 0 [C9 p0, C9 p1] [] (.tup [C9 r.1, B3 r.2]) [] := by
 refine eV Tryz.func155 rfl ?_
 unfold rE at h
 refine za [2, 3, 4] ?_
 refine aI ?_
 refine aG ?_
 refine za [2, 3, 4, 8] ?_
 refine zi h (fun h => ?_) fun h => ?_
 refine za [4, 5] ?_
 cases h
 exact aD zr
 refine zx fun _ => ?_
 refine zk 2 ?_
 refine zl bL p0.Of ?_
 refine zk 2 ?_
 refine ze [2, 3, 4, 15] ?_
 refine zi h (fun h => ?_) fun h => ?_
 refine za [4, 5] ?_
 cases h
 exact aD zr
 refine zx fun _ => ?_
 refine zk 2 ?_
 refine zl bL p1.Of ?_
 refine zk 2 ?_
 refine ze [2, 3, 4, 21] ?_
 refine zi h (fun h => ?_) fun h => ?_
 refine za [4, 5] ?_
 cases h
 exact aD zr
 refine aB ?_
 refine xI [[], [0], [1, 0], [2, 1, 0], [], [4], [5, 4], [6, 5, 4], [3, 7, 2, 1, 0, 6, 5, 4], [8, 3, 7, 2, 1, 0, 6, 5, 4], [9, 8, 3, 7, 2, 1, 0, 6, 5, 4], [9, 8, 3, 7, 2, 1, 0, 6, 5, 4], [], [12, 10, 8, 0, 1, 2, 3, 4, 5, 6, 7, 9], [11, 13, 0, 1, 2, 3, 4, 5, 6, 7, 8, 9, 10, 12]] fun _ => ?_
 refine zk 2 ?_
 obtain ⟨e1, he, h⟩ := aC h
 refine cZ (v := .c (M6 e1)) (foot := []) (dN (enc := bL) (sz := 2) (l := p0.Of) (ix := 0) he (by kernel_rfl) (gG e1) (by kernel_rfl)) (by kernel_rfl) rfl rfl ?_
 clear he
 refine zk 3 ?_
 obtain ⟨e2, he, h⟩ := aC h
 refine cZ (v := .c (M6 e2)) (foot := []) (dN (enc := bL) (sz := 2) (l := p1.Of) (ix := 0) he (by kernel_rfl) (gG e2) (by kernel_rfl)) (by kernel_rfl) rfl rfl ?_
 clear he
 refine zk 1 ?_
 obtain ⟨y3, he, h⟩ := aC h
 refine zc Yb (ih_expr_join _ _ y3 he) ?_
 clear he
 refine zk 6 ?_
 refine jY [4, 6, 7] (L2 := [A1 4 2 0, A1 6 32 0, J3 7 y3.2]) (G2 := [(0, I8 p0), (1, I8 p1), (2, G4), (32, I8 y3.1)]) 35 ?_
 refine aI ?_
 refine za [4, 6, 40] ?_
 refine zi h (fun h => ?_) fun h => ?_
 refine za [4, 5] ?_
 cases h
 exact aD zr
 refine aB ?_
 refine zx fun _ => ?_
 refine zk 1 ?_
 obtain ⟨y4, he, h⟩ := aC h
 refine zc Pr (qW n _ y4 he) ?_
 clear he
 refine zk 2 ?_
 refine ze [4, 5] ?_
 cases h
 exact aD zr
def sB : Nat → aX → aX → Option (aX × Bool)
 | 0, _, _ => none
 | n + 1, p0, p1 => rE (fun a0 a1 => sB n a0 a1) n p0 p1
theorem Lw (n : Nat) : (∀ (p0 : aX) (p1 : aX) (r : (aX × Bool)), sB n p0 p1 = some r → cW E 155 0 [C9 p0, C9 p1] [] (.tup [C9 r.1, B3 r.2]) []) := by
 induction n with
 | zero => intro p0 p1 r h; rw [sB] at h; cases h
 | succ n ih => intro p0 p1 r h; rw [sB] at h; exact zX _ ih n _ _ r h
def oE (l3 : List aX) (j2 : Int → List aX → Option (aX × Bool)) : Nat → Int → Int → List aX → Option (aX × Bool)
 | 0, _, _, _ => none
 | n + 1, v6, v7, v8 => (if (decide (v6 < (List.length l3 : Int))) = true then (idx l3 v6).bind fun (e9 : aX) => (sB n (aX.mk v7 v8) e9).bind fun (y10 : (aX × Bool)) => (if (!y10.2) = true then some ((aX.mk 0 ([] : List aX)), false) else oE l3 j2 n (IntKind.wrap .i64 (v6 + 1)) y10.1.Kind y10.1.Of) else j2 v7 v8)
def nL  (n : Nat) (p0 : (List aX)) : Option (aX × Bool) := (if ((List.length p0 : Int) == 0) = true then some ((aX.mk 4 ([] : List aX)), true) else (idx p0 0).bind fun (e1 : aX) => (aS (fun (v14 : Int) (v15 : List aX) => (pG n (aX.mk v14 v15)).bind fun (y16 : aX) => some (y16, true)) (fun (j2 : Int → List aX → Option (aX × Bool)) => (Uc p0 1 (List.length p0 : Int)).bind fun (l3 : List aX) => oE l3 j2 n 0 e1.Kind e1.Of)))
theorem Dx  (n : Nat) (p0 : (List aX)) (r : (aX × Bool)) (h : nL n p0 = some r) : cW E 152 0 [.c (F3 p0)] [] (.tup [C9 r.1, B3 r.2]) [] := by
 refine eV Tryz.func152 rfl ?_
 unfold nL at h
 refine za [0, 2] ?_
 refine aI ?_
 refine zx fun _ => ?_
 refine zk 1 ?_
 refine zl bL p0 ?_
 refine zk 1 ?_
 refine ze [0, 2, 10] ?_
 refine zi h (fun h => ?_) fun h => ?_
 refine za [2, 3] ?_
 cases h
 exact aD zr
 refine aB ?_
 refine zx fun _ => ?_
 refine zk 1 ?_
 obtain ⟨e1, he, h⟩ := aC h
 refine cZ (v := .c (M6 e1)) (foot := []) (dN (enc := bL) (sz := 2) (l := p0) (ix := 0) he (by kernel_rfl) (gG e1) (by kernel_rfl)) (by kernel_rfl) rfl rfl ?_
 clear he
 refine zk 3 ?_
 refine ze [0, 2, 4] ?_
 refine aQ h (fun A j => ∀ v14 v15, j v14 v15 = some r → A (mk [J0, H8] [(0, G4), (1, .blk 190 [I v14, F3 v15])] 2)) (fun v14 v15 h => ?_) (fun j2 Aj2 hj2 h => ?_)
 refine zx fun _ => ?_
 refine zk 1 ?_
 obtain ⟨y16, he, h⟩ := aC h
 refine zc Pr (qW n _ y16 he) ?_
 clear he
 refine zk 2 ?_
 refine ze [2, 3] ?_
 cases h
 exact aD zr
 refine zx fun _ => ?_
 refine zk 1 ?_
 obtain ⟨l3, he, h⟩ := aC h
 refine zw (v := .c (F3 l3)) [] (Iz (enc := bL) (l := p0) (p := 1) (q := (List.length p0 : Int)) (sz := 2) he (by kernel_rfl) (fun x => by rw [gG]; rfl)) ?_
 clear he
 refine zl bL l3 ?_
 refine zk 1 ?_
 refine jY [2, 4, 16, 17, 18] (L2 := [J0, A1 4 8 0, (16, .c (F3 l3)), (17, .c (I (List.length l3 : Int))), I5 18]) (G2 := [(0, G4), (8, I8 e1)]) 14 ?_
 refine aG ?_
 refine bA (fun n s => ∃ v6 v7 v8, oE l3 j2 n v6 v7 v8 = some r ∧ s = mk [J0, H8, (16, .c (F3 l3)), (17, .c (I (List.length l3 : Int))), A6 18 v6] [(0, G4), (1, .blk 190 [I v7, F3 v8])] 2) n _ (zv [(0, 0), (8, 1)] [2, 4, 16, 17, 18] 2) ⟨_, _, _, h, rfl⟩ (fun s ⟨v6, v7, v8, h, _⟩ => nomatch h) ?_
 rintro n s ⟨v6, v7, v8, h, rfl⟩
 rw [oE] at h
 refine za [2, 4, 16, 17, 18, 19] ?_
 refine aI ?_
 refine zi h (fun h => ?_) fun h => ?_
 refine aB ?_
 refine aI ?_
 refine aG ?_
 refine zx fun _ => ?_
 obtain ⟨e9, he, h⟩ := aC h
 refine cZ (v := .c (M6 e9)) (foot := []) (dN (enc := bL) (sz := 2) (l := l3) (ix := v6) he (by kernel_rfl) (gG e9) (by kernel_rfl)) (by kernel_rfl) rfl rfl ?_
 clear he
 refine zk 3 ?_
 refine ze [2, 4, 6, 16, 17, 18] ?_
 refine za [2, 4, 6, 16, 17, 18] ?_
 refine zx fun _ => ?_
 refine zk 2 ?_
 obtain ⟨y10, he, h⟩ := aC h
 refine zc Yb (Lw n _ _ y10 he) ?_
 clear he
 refine zk 5 ?_
 refine ze [2, 4, 7, 16, 17, 18] ?_
 refine za [2, 4, 16, 17, 18, 29] ?_
 refine zi h (fun h => ?_) fun h => ?_
 refine za [2, 3] ?_
 cases h
 exact aD zr
 refine aB ?_
 refine aW ?_
 refine zb ?_
 exact dF (zv [(0, 0), (1, 1)] [2, 4, 16, 17, 18] 2) (⟨_, _, _, h, rfl⟩)
 exact aH (zv [(0, 0), (1, 1)] [2, 4] 2) (bG (hj2 _ _ h))
def jN (p0 : aJ) (self_expr_check : aJ → Int → Int → Option (aX × Int × Int)) (p1 : Int) (j6 : List aX → Int → Option (aX × Int × Int)) : Nat → List aX → Int → Int → Option (aX × Int × Int)
 | 0, _, _, _ => none
 | n + 1, v10, v11, v12 => (if (decide (v11 < (List.length p0.L : Int))) = true then (idx p0.L v11).bind fun (e13 : aJ) => (self_expr_check e13 (IntKind.wrap .i64 (p1 + 1)) v12).bind fun (y14 : (aX × Int × Int)) => (if (y14.2.1 != 0) = true then some ((aX.mk 0 ([] : List aX)), y14.2.1, y14.2.2) else (pV 32 v10 [y14.1]).bind fun (l15 : List aX) => jN p0 self_expr_check p1 j6 n l15 (IntKind.wrap .i64 (v11 + 1)) y14.2.2) else j6 v10 v12)
def eP (self_expr_check : aJ → Int → Int → Option (aX × Int × Int)) (n : Nat) (p0 : aJ) (p1 : Int) (p2 : Int) : Option (aX × Int × Int) := (if ((p0.Kind == 4) && (decide (p1 ≥ 16))) = true then some ((aX.mk 0 ([] : List aX)), 8, p2) else (jD n p0).bind fun (y1 : Bool) => (if (!y1) = true then some ((aX.mk 0 ([] : List aX)), 9, (IntKind.wrap .i64 (p2 + 1))) else (aS (fun (v4 : Bool) => (if v4 = true then some ((aX.mk 0 ([] : List aX)), 1, (IntKind.wrap .i64 (p2 + 1))) else (if (((decide ((ByteArray.size p0.S : Int) > 2000)) || (decide ((List.length p0.L : Int) > 100))) || (decide ((IntKind.wrap .i64 (p2 + 1)) > 1000))) = true then some ((aX.mk 0 ([] : List aX)), 2, (IntKind.wrap .i64 (p2 + 1))) else (utf8_ValidString n p0.S).bind fun (y5 : Bool) => (if (!y5) = true then some ((aX.mk 0 ([] : List aX)), 3, (IntKind.wrap .i64 (p2 + 1))) else (if (p0.Kind != 4) = true then some ((aX.mk p0.Kind ([] : List aX)), 0, (IntKind.wrap .i64 (p2 + 1))) else (aS (fun (v19 : List aX) (v20 : Int) => (nL n v19).bind fun (y21 : (aX × Bool)) => (if (!y21.2) = true then some ((aX.mk 0 ([] : List aX)), 5, v20) else some (y21.1, 0, v20))) (fun (j6 : List aX → Int → Option (aX × Int × Int)) => jN p0 self_expr_check p1 j6 n ([] : List aX) 0 (IntKind.wrap .i64 (p2 + 1))))))))) (fun (j2 : Bool → Option (aX × Int × Int)) => (gd [(p0.Kind == 1)] (jA n p0.N)).bind fun (y3 : Bool) => (if ((p0.Kind == 1) && (!y3)) = true then j2 ((p0.Kind == 1) && (!y3)) else j2 (((p0.Kind == 2) && (p0.N != 0)) && (p0.N != 1)))))))
theorem xO (self_expr_check : aJ → Int → Int → Option (aX × Int × Int)) (ih_expr_check : ∀ (p0 : aJ) (p1 : Int) (p2 : Int) (r : (aX × Int × Int)), self_expr_check p0 p1 p2 = some r → cW E 147 1 [B8 p0, B7 p1, B9 0 0] [G3 p2] (.tup [C9 r.1, B7 r.2.1]) [G3 r.2.2]) (n : Nat) (p0 : aJ) (p1 : Int) (p2 : Int) (r : (aX × Int × Int)) (h : eP self_expr_check n p0 p1 p2 = some r) : cW E 147 1 [B8 p0, B7 p1, B9 0 0] [G3 p2] (.tup [C9 r.1, B7 r.2.1]) [G3 r.2.2] := by
 refine eV Tryz.func147 rfl ?_
 unfold eP at h
 refine za [1, 2, 3, 6] ?_
 refine aI ?_
 refine zx fun _ => ?_
 refine zk 4 ?_
 refine zE (B7 p1) ?_
 refine zE (B3 (I0 p1 16)) ?_
 refine zP (.bool ((p0.Kind == 4) && (I0 p1 16))) ?_
 refine ze [1, 2, 3, 6, 21] ?_
 refine zi h (fun h => ?_) fun h => ?_
 refine za [6, 7] ?_
 cases h
 exact aD zr
 refine aB ?_
 refine za [1, 2, 3, 6] ?_
 refine aI ?_
 refine aG ?_
 refine zx fun _ => ?_
 refine zk 1 ?_
 obtain ⟨y1, he, h⟩ := aC h
 refine zc fok149 (Fm n _ y1 he) ?_
 clear he
 refine zk 2 ?_
 refine ze [1, 2, 3, 6, 28] ?_
 refine zi h (fun h => ?_) fun h => ?_
 refine za [6, 7] ?_
 cases h
 exact aD zr
 refine aQ h (fun A j => ∀ v4, j v4 = some r → A (mk [A6 1 p1, J0, N5, O9, J3 33 v4] [G3 (D9 p2 1), (1, E5 p0), (2, G4)] 3)) (fun v4 h => ?_) (fun j2 Aj2 hj2 h => ?_)
 refine zi h (fun h => ?_) fun h => ?_
 refine za [6, 7] ?_
 cases h
 exact aD zr
 refine zx fun _ => ?_
 refine zk 5 ?_
 refine zE (B9 1 3) ?_
 refine zE (M7 p0.L) ?_
 refine jZ (e := [(!(decide ((ByteArray.size p0.S : Int) > 2000)))]) [(64, M7 p0.L, some 1)] (v := .c (I (List.length p0.L : Int))) (foot := []) (by kernel_rfl) (by kernel_rfl) (by kernel_rfl) (fun hg => lN (enc := aP) (l := p0.L) (by kernel_rfl)) rfl rfl ?_
 refine zE (.c (Bo (decide ((List.length p0.L : Int) > 100)))) ?_
 refine zP (.bool ((decide ((ByteArray.size p0.S : Int) > 2000)) || (decide ((List.length p0.L : Int) > 100)))) ?_
 refine zk 1 ?_
 refine zE (B9 0 0) ?_
 refine zE (B9 0 0) ?_
 refine zE (B7 (D9 p2 1)) ?_
 refine zE (B3 (decide ((D9 p2 1) > 1000))) ?_
 refine zP (.bool (((decide ((ByteArray.size p0.S : Int) > 2000)) || (decide ((List.length p0.L : Int) > 100))) || (decide ((D9 p2 1) > 1000)))) ?_
 refine zk 1 ?_
 refine jY [1, 2, 3, 6, 57] (L2 := [A6 1 p1, J0, N5, O9, (57, .c (Bo (((decide ((ByteArray.size p0.S : Int) > 2000)) || (decide ((List.length p0.L : Int) > 100))) || (decide ((D9 p2 1) > 1000)))))]) (G2 := [G3 (D9 p2 1), (1, E5 p0), (2, G4)]) 20 ?_
 refine zi h (fun h => ?_) fun h => ?_
 refine za [6, 7] ?_
 cases h
 exact aD zr
 refine zx fun _ => ?_
 refine zk 2 ?_
 obtain ⟨y5, he, h⟩ := aC h
 refine zc fok151 (xH n _ y5 he) ?_
 clear he
 refine zk 2 ?_
 refine ze [1, 2, 3, 6, 75] ?_
 refine zi h (fun h => ?_) fun h => ?_
 refine za [6, 7] ?_
 cases h
 exact aD zr
 refine za [1, 2, 3, 6, 81] ?_
 refine zi h (fun h => ?_) fun h => ?_
 refine za [6, 7] ?_
 cases h
 exact aD zr
 refine aB ?_
 refine za [1, 2, 3, 6, 8] ?_
 refine aQ h (fun A j => ∀ v19 v20, j v19 v20 = some r → A (mk [M9, (8, .c (.app 2 (List.map bL v19)))] [G3 v20, (1, G4), C4 2 190 2 v19] 3)) (fun v19 v20 h => ?_) (fun j6 Aj6 hj6 h => ?_)
 refine zx fun _ => ?_
 refine zk 1 ?_
 obtain ⟨y21, he, h⟩ := aC h
 refine zc fok152 (Dx n _ y21 he) ?_
 clear he
 refine zk 6 ?_
 refine ze [6, 13, 14] ?_
 refine aI ?_
 refine za [6, 13, 118] ?_
 refine zi h (fun h => ?_) fun h => ?_
 refine za [6, 7] ?_
 cases h
 exact aD zr
 refine aB ?_
 refine za [6, 7] ?_
 cases h
 exact aD zr
 refine zx fun _ => ?_
 refine zk 2 ?_
 refine zl aP p0.L ?_
 refine zk 1 ?_
 refine ze [1, 2, 6, 8, 89, 90, 91] ?_
 refine aG ?_
 refine bA (fun n s => ∃ v10 v11 v12, jN p0 self_expr_check p1 j6 n v10 v11 v12 = some r ∧ s = mk [A6 1 p1, J0, M9, (8, .c (.app 2 (List.map bL v10))), (89, M7 p0.L), (90, .c (I (List.length p0.L : Int))), A6 91 v11] [G3 v12, (1, G4), C4 2 190 2 v10] 3) n _ (dT.trans (mO (L2 := [A6 1 p1, J0, O9, (8, .c (.app 34 (List.map bL ([] : List aX)))), (89, M7 p0.L), (90, .c (I (List.length p0.L : Int))), I5 91]) (G2 := [G3 (D9 p2 1), (1, E5 p0), (2, G4), (34, .tok 190 2 (List.length ([] : List aX)))]) (lim2 := 35) 8 190 2 (by kernel_rfl) (by kernel_rfl) (by kernel_rfl) (by kernel_rfl)) (zv [(0, 0), (2, 1), (34, 2)] [1, 2, 6, 8, 89, 90, 91] 3)) ⟨_, _, _, h, rfl⟩ (fun s ⟨v10, v11, v12, h, _⟩ => nomatch h) ?_
 rintro n s ⟨v10, v11, v12, h, rfl⟩
 rw [jN] at h
 refine za [1, 2, 6, 8, 89, 90, 91, 92] ?_
 refine aI ?_
 refine zi h (fun h => ?_) fun h => ?_
 refine aB ?_
 refine aI ?_
 refine aG ?_
 refine zx fun _ => ?_
 obtain ⟨e13, he, h⟩ := aC h
 refine cZ (v := .c (J7 e13)) (foot := []) (dN (enc := aP) (sz := 4) (l := p0.L) (ix := v11) he (by kernel_rfl) (dR e13) (by kernel_rfl)) (by kernel_rfl) rfl rfl ?_
 clear he
 refine zk 3 ?_
 refine ze [1, 2, 6, 8, 10, 89, 90, 91] ?_
 refine zx fun _ => ?_
 refine zk 4 ?_
 obtain ⟨y14, he, h⟩ := aC h
 refine zo [(0, 0)] Wq (ih_expr_check _ _ _ y14 he) ?_
 clear he
 refine zk 6 ?_
 refine ze [1, 2, 6, 8, 11, 12, 89, 90, 91] ?_
 refine aI ?_
 refine za [1, 2, 6, 8, 11, 12, 89, 90, 91, 104] ?_
 refine zi h (fun h => ?_) fun h => ?_
 refine za [6, 7] ?_
 cases h
 exact aD zr
 refine aB ?_
 refine zy fun _ => ?_
 refine zk 2 ?_
 refine qR (e := 190) (sz := 2) (len := 1) (r := [I y14.1.Kind, F3 y14.1.Of]) (l' := List.map bL [y14.1]) (nm := 23) (by kernel_rfl) (by simp only [List.map_cons, List.map_nil, gG]; kernel_rfl) (by kernel_rfl) (by kernel_rfl) rfl rfl rfl ?_
 obtain ⟨l15, he, h⟩ := aC h
 refine cH (enc := bL) (l := v10) (els := [y14.1]) (r := l15) (old := some 2) (e := 190) (sz := 2) (bytes := 32) (k := (H1 v10)) (nm := 24) he (by kernel_rfl) (by kernel_rfl) (fun x => by rw [gG]; rfl) (by kernel_rfl) (by kernel_rfl) rfl rfl rfl ?_
 clear he
 refine zk 1 ?_
 refine bV ?_
 refine aW ?_
 refine zb ?_
 exact dF (zv [(0, 0), (1, 1), (24, 2)] [1, 2, 6, 8, 89, 90, 91] 3) (⟨_, _, _, h, rfl⟩)
 exact aH (zv [(0, 0), (1, 1), (2, 2)] [6, 8] 3) (bG (hj6 _ _ h))
 refine zx fun _ => ?_
 refine zk 4 ?_
 refine zE (B9 1 1) ?_
 refine zE (B7 p0.N) ?_
 obtain ⟨y3, he, h⟩ := aC h
 refine An [p0.Kind == 1] fok150 (fun hg => Dz n _ y3 (bR he hg)) ?_
 clear he
 refine zE (B3 (!y3)) ?_
 refine zP (.bool ((p0.Kind == 1) && (!y3))) ?_
 refine zk 1 ?_
 refine jY [1, 2, 3, 6, 33] (L2 := [A6 1 p1, J0, N5, O9, (33, B3 ((p0.Kind == 1) && (!y3)))]) (G2 := [G3 (D9 p2 1), (1, E5 p0), (2, G4)]) 31 ?_
 refine zi h (fun h => ?_) fun h => ?_
 exact aH (zv [(0, 0), (1, 1), (2, 2)] [1, 2, 3, 6, 33] 3) (aB (hj2 _ h))
 refine aW ?_
 refine zy fun _ => ?_
 refine zk 4 ?_
 refine zE (B9 1 1) ?_
 refine zE (B7 p0.N) ?_
 refine zE (B3 (p0.N != 0)) ?_
 refine zP (.bool ((p0.Kind == 2) && (p0.N != 0))) ?_
 refine zk 1 ?_
 refine zE (B9 1 1) ?_
 refine zE (B7 p0.N) ?_
 refine zE (B3 (p0.N != 1)) ?_
 refine zP (.bool (((p0.Kind == 2) && (p0.N != 0)) && (p0.N != 1))) ?_
 refine zk 1 ?_
 refine bV ?_
 exact dF (zv [(0, 0), (1, 1), (2, 2)] [1, 2, 3, 6, 33] 3) (hj2 _ h)
def dZ : Nat → aJ → Int → Int → Option (aX × Int × Int)
 | 0, _, _, _ => none
 | n + 1, p0, p1, p2 => eP (fun a0 a1 a2 => dZ n a0 a1 a2) n p0 p1 p2
theorem Hm (n : Nat) : (∀ (p0 : aJ) (p1 : Int) (p2 : Int) (r : (aX × Int × Int)), dZ n p0 p1 p2 = some r → cW E 147 1 [B8 p0, B7 p1, B9 0 0] [G3 p2] (.tup [C9 r.1, B7 r.2.1]) [G3 r.2.2]) := by
 induction n with
 | zero => intro p0 p1 p2 r h; rw [dZ] at h; cases h
 | succ n ih => intro p0 p1 p2 r h; rw [dZ] at h; exact xO _ ih n _ _ _ r h
def kI (self_expr_copyType : aX → Option aX) (n : Nat) (p0 : aX) : Option aX := (if ((List.length p0.Of : Int) == 0) = true then some (aX.mk p0.Kind ([] : List aX)) else (idx p0.Of 0).bind fun (e1 : aX) => (self_expr_copyType e1).bind fun (y2 : aX) => (pG n y2).bind fun (y3 : aX) => some y3)
theorem uQ (self_expr_copyType : aX → Option aX) (ih_expr_copyType : ∀ (p0 : aX) (r : aX), self_expr_copyType p0 = some r → cW E 148 0 [C9 p0] [] (C9 r) []) (n : Nat) (p0 : aX) (r : aX) (h : kI self_expr_copyType n p0 = some r) : cW E 148 0 [C9 p0] [] (C9 r) [] := by
 refine eV Tryz.func148 rfl ?_
 unfold kI at h
 refine za [1, 2] ?_
 refine aI ?_
 refine zx fun _ => ?_
 refine zk 2 ?_
 refine zl bL p0.Of ?_
 refine zk 1 ?_
 refine ze [1, 2, 6] ?_
 refine zi h (fun h => ?_) fun h => ?_
 refine za [2] ?_
 cases h
 exact aD zr
 refine aB ?_
 refine zx fun _ => ?_
 refine zk 2 ?_
 obtain ⟨e1, he, h⟩ := aC h
 refine cZ (v := .c (M6 e1)) (foot := []) (dN (enc := bL) (sz := 2) (l := p0.Of) (ix := 0) he (by kernel_rfl) (gG e1) (by kernel_rfl)) (by kernel_rfl) rfl rfl ?_
 clear he
 refine zk 1 ?_
 obtain ⟨y2, he, h⟩ := aC h
 refine zc Vp (ih_expr_copyType _ y2 he) ?_
 clear he
 obtain ⟨y3, he, h⟩ := aC h
 refine zc Pr (qW n _ y3 he) ?_
 clear he
 refine zk 1 ?_
 refine jY [2] (L2 := [O0]) (G2 := [(0, I8 p0), (1, I8 y3)]) 13 ?_
 cases h
 exact aD zr
def gN : Nat → aX → Option aX
 | 0, _ => none
 | n + 1, p0 => kI (fun a0 => gN n a0) n p0
theorem Bp (n : Nat) : (∀ (p0 : aX) (r : aX), gN n p0 = some r → cW E 148 0 [C9 p0] [] (C9 r) []) := by
 induction n with
 | zero => intro p0 r h; rw [gN] at h; cases h
 | succ n ih => intro p0 r h; rw [gN] at h; exact uQ _ ih n _ r h
def lO  (n : Nat) (p0 : aJ) : Option (aX × Int) := (dZ n p0 0 0).bind fun (y1 : (aX × Int × Int)) => (if (y1.2.1 != 0) = true then some ((aX.mk 0 ([] : List aX)), y1.2.1) else (gN n y1.1).bind fun (y2 : aX) => some (y2, 0))
theorem Eh  (n : Nat) (p0 : aJ) (r : (aX × Int)) (h : lO n p0 = some r) : cW E 144 0 [B8 p0] [] (.tup [C9 r.1, B7 r.2]) [] := by
 refine eV Tryz.func144 rfl ?_
 unfold lO at h
 refine za [1, 2] ?_
 refine za [1, 2, 4] ?_
 refine zx fun _ => ?_
 refine zk 1 ?_
 obtain ⟨y1, he, h⟩ := aC h
 refine zo [(0, 3)] Wq (Hm n _ _ _ y1 he) ?_
 clear he
 refine zk 6 ?_
 refine ze [2, 5, 6] ?_
 refine aI ?_
 refine za [2, 5, 6, 13] ?_
 refine zi h (fun h => ?_) fun h => ?_
 refine za [2, 3] ?_
 cases h
 exact aD zr
 refine aB ?_
 refine zx fun _ => ?_
 refine zk 1 ?_
 obtain ⟨y2, he, h⟩ := aC h
 refine zc Vp (Bp n _ y2 he) ?_
 clear he
 refine zk 2 ?_
 refine ze [2, 3] ?_
 cases h
 exact aD zr
def kG  (n : Nat) (p0 : aJ) : Option Int := (lO n p0).bind fun (y1 : (aX × Int)) => some y1.2
theorem xJ  (n : Nat) (p0 : aJ) (r : Int) (h : kG n p0 = some r) : cW E 139 0 [B8 p0] [] (B7 r) [] := by
 refine eV Tryz.func139 rfl ?_
 unfold kG at h
 refine za [1] ?_
 refine zx fun _ => ?_
 refine zk 1 ?_
 obtain ⟨y1, he, h⟩ := aC h
 refine zc fok144 (Eh n _ y1 he) ?_
 clear he
 refine zk 6 ?_
 refine ze [4] ?_
 refine za [2] ?_
 cases h
 exact aD zr
def eU (p0 : (List bF)) (j1 : Unit → Option Int) : Nat → Int → Option Int
 | 0, _ => none
 | n + 1, v6 => (if (decide (v6 < (List.length p0 : Int))) = true then (idx p0 v6).bind fun (e7 : bF) => (eE n e7.Name).bind fun (y8 : Bool) => (if (!y8) = true then some 4 else (gd [(decide (v6 > 0))] (idx p0 (IntKind.wrap .i64 (v6 - 1)))).bind fun (e9 : bF) => (if ((decide (v6 > 0)) && (!(Oq e9.Name e7.Name))) = true then some 10 else (kG n e7.Value).bind fun (y10 : Int) => (if (y10 != 0) = true then some y10 else eU p0 j1 n (IntKind.wrap .i64 (v6 + 1))))) else j1 ())
def nB  (n : Nat) (p0 : (List bF)) : Option Int := (aS (fun (_ : Unit) => some 0) (fun (j1 : Unit → Option Int) => eU p0 j1 n 0))
theorem xQ  (n : Nat) (p0 : (List bF)) (r : Int) (h : nB n p0 = some r) : cW E 131 0 [.c (C7 p0)] [] (B7 r) [] := by
 refine eV Tryz.func131 rfl ?_
 unfold nB at h
 refine za [0] ?_
 refine aQ h (fun A j => ∀ u, j u = some r → A (N7)) (fun u h => ?_) (fun j1 Aj1 hj1 h => ?_)
 refine za [2] ?_
 cases h
 exact aD zr
 refine zx fun _ => ?_
 refine zk 1 ?_
 refine zl aM p0 ?_
 refine zk 1 ?_
 refine ze [0, 6, 7, 8] ?_
 refine aG ?_
 refine bA (fun n s => ∃ v6, eU p0 j1 n v6 = some r ∧ s = mk [(0, .c (C7 p0)), (6, .c (C7 p0)), (7, .c (I (List.length p0 : Int))), A6 8 v6] [] 0) n _ (zv [] [0, 6, 7, 8] 0) ⟨_, h, rfl⟩ (fun s ⟨v6, h, _⟩ => nomatch h) ?_
 rintro n s ⟨v6, h, rfl⟩
 rw [eU] at h
 refine za [0, 6, 7, 8, 9] ?_
 refine aI ?_
 refine zi h (fun h => ?_) fun h => ?_
 refine aB ?_
 refine aI ?_
 refine aG ?_
 refine zx fun _ => ?_
 refine zk 1 ?_
 obtain ⟨e7, he, h⟩ := aC h
 refine zd aM he ?_
 clear he
 refine zk 4 ?_
 refine ze [0, 3, 4, 6, 7, 8] ?_
 refine aI ?_
 refine aG ?_
 refine zx fun _ => ?_
 refine zk 2 ?_
 obtain ⟨y8, he, h⟩ := aC h
 refine zc En (kQ n _ y8 he) ?_
 clear he
 refine zk 2 ?_
 refine ze [0, 3, 4, 6, 7, 8, 13] ?_
 refine zi h (fun h => ?_) fun h => ?_
 refine za [2] ?_
 cases h
 exact aD zr
 refine xI [[], [0], [1, 0], [2, 1, 0], [2, 1, 0], [4, 2, 1, 0], [3, 5, 2, 1, 0, 4], [6, 2, 3, 5, 1, 0, 4], [7, 2, 6, 3, 5, 1, 0, 4], [2, 1, 0], [9, 2, 1, 0], [8, 10, 2, 7, 6, 3, 5, 1, 0, 4, 9], [2, 11, 1, 0, 8, 10, 7, 6, 3, 5, 4, 9], [12, 2, 11, 1, 0, 8, 10, 7, 6, 3, 5, 4, 9]] fun _ => ?_
 refine zk 3 ?_
 refine zE (.c (C7 p0)) ?_
 refine zE (B7 v6) ?_
 refine zE (B7 (F5 v6)) ?_
 obtain ⟨e9, he, h⟩ := aC h
 refine jZ (e := [D5 v6 0]) [(22, .c (C7 p0), some 1), (24, B7 (F5 v6), some 1)] (v := .c (G8 e9.Name e9.Value)) (foot := []) (by kernel_rfl) (by kernel_rfl) (by kernel_rfl) (fun hg => dN (enc := aM) (sz := 5) (l := p0) (ix := (F5 v6)) (bR he hg) (by kernel_rfl) (by kernel_rfl) (by kernel_rfl)) rfl rfl ?_
 clear he
 refine zE (.c (G8 e9.Name e9.Value)) ?_
 refine zE (F0 e9.Name) ?_
 refine zE (B9 4 0) ?_
 refine zE (F0 e7.Name) ?_
 refine zE (B3 (!(Oq e9.Name e7.Name))) ?_
 refine zP (.bool ((D5 v6 0) && (!(Oq e9.Name e7.Name)))) ?_
 refine zk 1 ?_
 refine jY [0, 4, 6, 7, 8, 18] (L2 := [(0, .c (C7 p0)), (6, .c (C7 p0)), (7, .c (I (List.length p0 : Int))), A6 8 v6, A1 4 4 0, (18, B3 ((D5 v6 0) && (!(Oq e9.Name e7.Name))))]) (G2 := [(4, .blk 172 [Sx e7.Name, I e7.Value.Kind, I e7.Value.N, Sx e7.Value.S, D2 e7.Value.L])]) 26 ?_
 refine zi h (fun h => ?_) fun h => ?_
 refine za [2] ?_
 cases h
 exact aD zr
 refine aB ?_
 refine zx fun _ => ?_
 refine zk 2 ?_
 obtain ⟨y10, he, h⟩ := aC h
 refine zc Xs (xJ n _ y10 he) ?_
 clear he
 refine zk 1 ?_
 refine ze [0, 5, 6, 7, 8] ?_
 refine za [0, 5, 6, 7, 8, 36] ?_
 refine zi h (fun h => ?_) fun h => ?_
 refine za [2] ?_
 cases h
 exact aD zr
 refine aB ?_
 refine aW ?_
 refine zb ?_
 exact dF (zv [] [0, 6, 7, 8] 0) (⟨_, h, rfl⟩)
 exact aH (zv [] [] 0) (bG (hj1 _ h))
def gZ (e15 : cR) (j14 : Unit → Option Int) (p0 : (List cR)) (v13 : Int) : Nat → Int → Option Int
 | 0, _ => none
 | n + 1, v21 => (if (decide (v21 < (List.length e15.Args : Int))) = true then (idx e15.Args v21).bind fun (e22 : aJ) => (kG n e22).bind fun (y23 : Int) => (if (y23 != 0) = true then some y23 else gZ e15 j14 p0 v13 n (IntKind.wrap .i64 (v21 + 1))) else j14 ())
def eJ (p0 : (List cR)) (j1 : Unit → Option Int) : Nat → Int → Option Int
 | 0, _ => none
 | n + 1, v13 => (if (decide (v13 < (List.length p0 : Int))) = true then (aS (fun (_ : Unit) => eJ p0 j1 n (IntKind.wrap .i64 (v13 + 1))) (fun (j14 : Unit → Option Int) => (idx p0 v13).bind fun (e15 : cR) => (eE n e15.Event).bind fun (y16 : Bool) => (gd [(!(!y16))] (eE n e15.Handler)).bind fun (y17 : Bool) => (if ((!y16) || (!y17)) = true then some 4 else (gd [(decide (v13 > 0))] (idx p0 (IntKind.wrap .i64 (v13 - 1)))).bind fun (e18 : cR) => (if ((decide (v13 > 0)) && (!(Oq e18.Event e15.Event))) = true then some 10 else (if ((decide ((ByteArray.size e15.Instance : Int) > 400)) || (decide ((List.length e15.Args : Int) > 100))) = true then some 2 else gZ e15 j14 p0 v13 n 0))))) else j1 ())
def nT  (n : Nat) (p0 : (List cR)) : Option Int := (aS (fun (_ : Unit) => some 0) (fun (j1 : Unit → Option Int) => eJ p0 j1 n 0))
theorem Cz  (n : Nat) (p0 : (List cR)) (r : Int) (h : nT n p0 = some r) : cW E 132 0 [P0 p0] [] (B7 r) [] := by
 refine eV Tryz.func132 rfl ?_
 unfold nT at h
 refine za [0] ?_
 refine aQ h (fun A j => ∀ u, j u = some r → A (N7)) (fun u h => ?_) (fun j1 Aj1 hj1 h => ?_)
 refine za [2] ?_
 cases h
 exact aD zr
 refine zx fun _ => ?_
 refine zk 1 ?_
 refine zl aF p0 ?_
 refine zk 1 ?_
 refine ze [0, 8, 9, 10] ?_
 refine aG ?_
 refine bA (fun n s => ∃ v13, eJ p0 j1 n v13 = some r ∧ s = mk [(0, P0 p0), (8, P0 p0), (9, .c (I (List.length p0 : Int))), A6 10 v13] [] 0) n _ (zv [] [0, 8, 9, 10] 0) ⟨_, h, rfl⟩ (fun s ⟨v13, h, _⟩ => nomatch h) ?_
 rintro n s ⟨v13, h, rfl⟩
 rw [eJ] at h
 refine za [0, 8, 9, 10, 11] ?_
 refine aI ?_
 refine zi h (fun h => ?_) fun h => ?_
 refine aB ?_
 refine aQ h (fun A j => ∀ u, j u = some r → A (mk [(0, P0 p0), (8, P0 p0), (9, .c (I (List.length p0 : Int))), A6 10 v13] [] 0)) (fun u h => ?_) (fun j14 Aj14 hj14 h => ?_)
 refine aW ?_
 refine zb ?_
 exact dF (zv [] [0, 8, 9, 10] 0) (⟨_, h, rfl⟩)
 refine aG ?_
 refine zx fun _ => ?_
 refine zk 1 ?_
 obtain ⟨e15, he, h⟩ := aC h
 refine zd aF he ?_
 clear he
 refine zk 4 ?_
 refine ze [0, 3, 4, 8, 9, 10] ?_
 refine aI ?_
 refine aG ?_
 refine zx fun _ => ?_
 refine zk 2 ?_
 obtain ⟨y16, he, h⟩ := aC h
 refine zc En (kQ n _ y16 he) ?_
 clear he
 refine zk 2 ?_
 refine zE (B9 4 2) ?_
 refine zE (F0 e15.Handler) ?_
 obtain ⟨y17, he, h⟩ := aC h
 refine An [!(!y16)] En (fun hg => kQ n _ y17 (bR he hg)) ?_
 clear he
 refine zE (B3 (!y17)) ?_
 refine zP (.bool ((!y16) || (!y17))) ?_
 refine zk 1 ?_
 refine jY [0, 3, 4, 8, 9, 10, 15] (L2 := [(0, P0 p0), (8, P0 p0), (9, .c (I (List.length p0 : Int))), A6 10 v13, A1 4 4 0, A6 3 v13, (15, B3 ((!y16) || (!y17)))]) (G2 := [(4, G7 e15)]) 18 ?_
 refine zi h (fun h => ?_) fun h => ?_
 refine za [2] ?_
 cases h
 exact aD zr
 refine xI [[], [0], [1, 0], [2, 1, 0], [2, 1, 0], [4, 2, 1, 0], [3, 5, 2, 1, 0, 4], [6, 2, 3, 5, 1, 0, 4], [7, 2, 6, 3, 5, 1, 0, 4], [2, 1, 0], [9, 2, 1, 0], [8, 10, 2, 7, 6, 3, 5, 1, 0, 4, 9], [2, 11, 1, 0, 8, 10, 7, 6, 3, 5, 4, 9], [12, 2, 11, 1, 0, 8, 10, 7, 6, 3, 5, 4, 9]] fun _ => ?_
 refine zk 3 ?_
 refine zE (P0 p0) ?_
 refine zE (B7 v13) ?_
 refine zE (B7 (F5 v13)) ?_
 obtain ⟨e18, he, h⟩ := aC h
 refine jZ (e := [D5 v13 0]) [(30, P0 p0, some 1), (32, B7 (F5 v13), some 1)] (v := .c (K6 e18)) (foot := []) (by kernel_rfl) (by kernel_rfl) (by kernel_rfl) (fun hg => dN (enc := aF) (sz := 4) (l := p0) (ix := (F5 v13)) (bR he hg) (by kernel_rfl) (by kernel_rfl) (by kernel_rfl)) rfl rfl ?_
 clear he
 refine zE (.c (K6 e18)) ?_
 refine zE (F0 e18.Event) ?_
 refine zE (B9 4 0) ?_
 refine zE (F0 e15.Event) ?_
 refine zE (B3 (!(Oq e18.Event e15.Event))) ?_
 refine zP (.bool ((D5 v13 0) && (!(Oq e18.Event e15.Event)))) ?_
 refine zk 1 ?_
 refine jY [0, 4, 8, 9, 10, 26] (L2 := [(0, P0 p0), (8, P0 p0), (9, .c (I (List.length p0 : Int))), A6 10 v13, A1 4 4 0, (26, B3 ((D5 v13 0) && (!(Oq e18.Event e15.Event))))]) (G2 := [(4, G7 e15)]) 32 ?_
 refine zi h (fun h => ?_) fun h => ?_
 refine za [2] ?_
 cases h
 exact aD zr
 refine zx fun _ => ?_
 refine zk 5 ?_
 refine zE (B9 4 3) ?_
 refine zE (M7 e15.Args) ?_
 refine jZ (e := [(!(decide ((ByteArray.size e15.Instance : Int) > 400)))]) [(47, M7 e15.Args, some 1)] (v := .c (I (List.length e15.Args : Int))) (foot := []) (by kernel_rfl) (by kernel_rfl) (by kernel_rfl) (fun hg => lN (enc := aP) (l := e15.Args) (by kernel_rfl)) rfl rfl ?_
 refine zE (.c (Bo (decide ((List.length e15.Args : Int) > 100)))) ?_
 refine zP (.bool ((decide ((ByteArray.size e15.Instance : Int) > 400)) || (decide ((List.length e15.Args : Int) > 100)))) ?_
 refine zk 1 ?_
 refine ze [0, 4, 8, 9, 10, 40] ?_
 refine zi h (fun h => ?_) fun h => ?_
 refine za [2] ?_
 cases h
 exact aD zr
 refine aB ?_
 refine zx fun _ => ?_
 refine zk 2 ?_
 refine zl aP e15.Args ?_
 refine zk 1 ?_
 refine jY [0, 8, 9, 10, 52, 53, 54] (L2 := [(0, P0 p0), (8, P0 p0), (9, .c (I (List.length p0 : Int))), A6 10 v13, (52, M7 e15.Args), (53, .c (I (List.length e15.Args : Int))), I5 54]) (G2 := [(4, G7 e15)]) 47 ?_
 refine aG ?_
 refine bA (fun n s => ∃ v21, gZ e15 j14 p0 v13 n v21 = some r ∧ s = mk [(0, P0 p0), (8, P0 p0), (9, .c (I (List.length p0 : Int))), A6 10 v13, (52, M7 e15.Args), (53, .c (I (List.length e15.Args : Int))), A6 54 v21] [] 0) n _ (zv [] [0, 8, 9, 10, 52, 53, 54] 0) ⟨_, h, rfl⟩ (fun s ⟨v21, h, _⟩ => nomatch h) ?_
 rintro n s ⟨v21, h, rfl⟩
 rw [gZ] at h
 refine za [0, 8, 9, 10, 52, 53, 54, 55] ?_
 refine aI ?_
 refine zi h (fun h => ?_) fun h => ?_
 refine aB ?_
 refine aI ?_
 refine aG ?_
 refine zx fun _ => ?_
 obtain ⟨e22, he, h⟩ := aC h
 refine cZ (v := .c (J7 e22)) (foot := []) (dN (enc := aP) (sz := 4) (l := e15.Args) (ix := v21) he (by kernel_rfl) (dR e22) (by kernel_rfl)) (by kernel_rfl) rfl rfl ?_
 clear he
 refine zk 3 ?_
 refine ze [0, 6, 8, 9, 10, 52, 53, 54] ?_
 refine zx fun _ => ?_
 refine zk 1 ?_
 obtain ⟨y23, he, h⟩ := aC h
 refine zc Xs (xJ n _ y23 he) ?_
 clear he
 refine zk 1 ?_
 refine ze [0, 7, 8, 9, 10, 52, 53, 54] ?_
 refine za [0, 7, 8, 9, 10, 52, 53, 54, 61] ?_
 refine zi h (fun h => ?_) fun h => ?_
 refine za [2] ?_
 cases h
 exact aD zr
 refine aB ?_
 refine aW ?_
 refine zb ?_
 exact dF (zv [] [0, 8, 9, 10, 52, 53, 54] 0) (⟨_, h, rfl⟩)
 exact aH (zv [] [0, 8, 9, 10] 0) (bG (hj14 _ h))
 exact aH (zv [] [] 0) (bG (hj1 _ h))
end Go.Proofs.YtojkihhnioeggaaGreatDoor.S
