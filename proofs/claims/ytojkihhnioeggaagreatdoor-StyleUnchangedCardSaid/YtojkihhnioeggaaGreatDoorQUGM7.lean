import Derived.Test.YtojkihhnioeggaaGreatDoorQUGM6
set_option linter.unusedVariables false
set_option linter.unusedSimpArgs false
set_option maxRecDepth 100000
set_option maxHeartbeats 4000000
namespace Go.Proofs.YtojkihhnioeggaaGreatDoor.S
open Go Go.Bm
def cC (p1 : Int) (p3 : bH) (j35 : List Int → Option (List Int)) (p2 : Int) (v33 : Int) : Nat → Int → List Int → Option (List Int)
 | 0, _, _ => none
 | n + 1, v49, v50 => (gd [(decide (v49 > p1))] (uQ v49 (List.length v50))).bind fun (k51 : Nat) => (gd [(decide (v49 > p1))] (v50[k51]?)).bind fun (e52 : Int) => (gd [(decide (v49 > p1))] (uQ (IntKind.wrap .i64 (v49 - 1)) (List.length v50))).bind fun (k53 : Nat) => (gd [(decide (v49 > p1))] (v50[k53]?)).bind fun (e54 : Int) => (gd [(decide (v49 > p1))] (kN n e52 e54 p3)).bind fun (y55 : Int) => (if ((decide (v49 > p1)) && (decide (y55 < 0))) = true then (uQ (IntKind.wrap .i64 (v49 - 1)) (List.length v50)).bind fun (k56 : Nat) => (v50[k56]?).bind fun (e57 : Int) => (uQ v49 (List.length v50)).bind fun (k58 : Nat) => (v50[k58]?).bind fun (e59 : Int) => (uQ v49 (List.length v50)).bind fun (k60 : Nat) => (v50[k60]?).bind fun (e61 : Int) => (uQ (IntKind.wrap .i64 (v49 - 1)) (List.length (List.set v50 k60 e57))).bind fun (k62 : Nat) => ((List.set v50 k60 e57)[k62]?).bind fun (e63 : Int) => cC p1 p3 j35 p2 v33 n (IntKind.wrap .i64 (v49 - 1)) (List.set (List.set v50 k60 e57) k62 e59) else j35 v50)
def cB (p2 : Int) (p1 : Int) (p3 : bH) : Nat → Int → List Int → Option (List Int)
 | 0, _, _ => none
 | n + 1, v33, v34 => (if (decide (v33 < p2)) = true then (aS (fun (v66 : List Int) => cB p2 p1 p3 n (IntKind.wrap .i64 (v33 + 1)) v66) (fun (j35 : List Int → Option (List Int)) => cC p1 p3 j35 p2 v33 n v33 v34)) else some v34)
def cL  (n : Nat) (p0 : (List Int)) (p1 : Int) (p2 : Int) (p3 : bH) : Option (List Int) := cB p2 p1 p3 n (IntKind.wrap .i64 (p1 + 1)) p0
theorem iE  (n : Nat) (p0 : (M4)) (p1 : Int) (p2 : Int) (p3 : bH) (r : (M4)) (h : cL n p0 p1 p2 p3 = some r) : dI E 102 1 [J9, A6 p1, A6 p2, G7 p3.Rules] [F3 p0] (.tup []) [F3 r] := by
 refine gT Tryz.func102 rfl ?_
 unfold cL at h
 refine za [0, 1, 2, 3, 8] ?_
 refine aK ?_
 refine bJ (fun n s => ∃ v33 v34, cB p2 p1 p3 n v33 v34 = some r ∧ s = mk [(0, J9), C6 1 p1, C6 2 p2, (3, G7 p3.Rules), C6 8 v33] [F3 v34] 1) n _ (zv [(0, 0)] [0, 1, 2, 3, 8] 1) ⟨_, _, h, rfl⟩ (fun s ⟨v33, v34, h, _⟩ => nomatch h) ?_
 rintro n s ⟨v33, v34, h, rfl⟩
 rw [cB] at h
 refine aO ?_
 refine za [0, 1, 2, 3, 8, 14] ?_
 refine zi h (fun h => ?_) fun h => ?_
 refine aC ?_
 refine aX h (fun A j => ∀ v66, j v66 = some r → A (mk [(0, J9), C6 1 p1, C6 2 p2, (3, G7 p3.Rules), C6 8 v33] [F3 v66] 1)) (fun v66 h => ?_) (fun j35 Aj35 hj35 h => ?_)
 refine bB ?_
 refine zb ?_
 exact eZ (zv [(0, 0)] [0, 1, 2, 3, 8] 1) (⟨_, _, h, rfl⟩)
 refine aK ?_
 refine za [0, 1, 2, 3, 8, 9] ?_
 refine aK ?_
 refine bJ (fun n s => ∃ v49 v50, cC p1 p3 j35 p2 v33 n v49 v50 = some r ∧ s = mk [(0, J9), C6 1 p1, C6 2 p2, (3, G7 p3.Rules), C6 8 v33, C6 9 v49] [F3 v50] 1) n _ (zv [(0, 0)] [0, 1, 2, 3, 8, 9] 1) ⟨_, _, h, rfl⟩ (fun s ⟨v49, v50, h, _⟩ => nomatch h) ?_
 rintro n s ⟨v49, v50, h, rfl⟩
 rw [cC] at h
 refine aO ?_
 refine Dm [[], [], [0, 1], [2, 0, 1], [3, 2, 0, 1], [3, 2, 0, 1], [3, 2, 0, 1], [5, 6, 3, 2, 0, 1], [7, 3, 5, 6, 2, 0, 1], [3, 2, 0, 1], [3, 2, 0, 1], [10, 3, 2, 0, 1], [9, 11, 3, 2, 0, 1, 10], [12, 3, 9, 11, 2, 0, 1, 10], [4, 8, 13, 3, 2, 0, 1, 7, 5, 6, 12, 9, 11, 10], [14, 3, 4, 8, 13, 2, 0, 1, 7, 5, 6, 12, 9, 11, 10], [3, 15, 2, 0, 1, 14, 4, 8, 13, 7, 5, 6, 12, 9, 11, 10]] fun _ => ?_
 refine zk 4 ?_
 refine zE (G7 p3.Rules) ?_
 refine zE (J9) ?_
 refine zE (A6 v49) ?_
 obtain ⟨k51, he, h⟩ := aB h
 refine lM (e := [E2 v49 p1]) [(23, J9, some 1), (24, A6 v49, some 1)] (v := .c (.ptr 0 (k51 * 1))) (foot := [0]) (by kernel_rfl) (by kernel_rfl) (by kernel_rfl) (fun hg => rJ (enc := aH) (l := v50) (n := 0) (sz := 1) (k := k51) (ix := v49) (cD he hg) (by kernel_rfl)) rfl rfl ?_
 clear he
 obtain ⟨e52, he, h⟩ := aB h
 refine uH (e := [E2 v49 p1]) [(25, .c (.ptr 0 (k51 * 1)), some 1)] (v := .c (I e52)) (foot := [0]) (by kernel_rfl) (by kernel_rfl) (by kernel_rfl) (fun hg => Dc (enc := aH) (l := v50) (n := 0) (q := k51) (f := 0) (sz := 1) (e := e52) (j := ⟨.int .i64, 1, 8, [.int .i64 0]⟩) (cD he hg) (by kernel_rfl) (by kernel_rfl)) rfl rfl ?_
 clear he
 refine zE (J9) ?_
 refine zE (A6 v49) ?_
 refine zE (A6 (F6 v49)) ?_
 obtain ⟨k53, he, h⟩ := aB h
 refine lM (e := [E2 v49 p1]) [(27, J9, some 1), (29, A6 (F6 v49), some 1)] (v := .c (.ptr 0 (k53 * 1))) (foot := [0]) (by kernel_rfl) (by kernel_rfl) (by kernel_rfl) (fun hg => rJ (enc := aH) (l := v50) (n := 0) (sz := 1) (k := k53) (ix := (F6 v49)) (cD he hg) (by kernel_rfl)) rfl rfl ?_
 clear he
 obtain ⟨e54, he, h⟩ := aB h
 refine uH (e := [E2 v49 p1]) [(30, .c (.ptr 0 (k53 * 1)), some 1)] (v := .c (I e54)) (foot := [0]) (by kernel_rfl) (by kernel_rfl) (by kernel_rfl) (fun hg => Dc (enc := aH) (l := v50) (n := 0) (q := k53) (f := 0) (sz := 1) (e := e54) (j := ⟨.int .i64, 1, 8, [.int .i64 0]⟩) (cD he hg) (by kernel_rfl) (by kernel_rfl)) rfl rfl ?_
 clear he
 obtain ⟨y55, he, h⟩ := aB h
 refine rx_EO (e := [E2 v49 p1]) [(22, G7 p3.Rules, some 1), (26, A6 e52, some 1), (31, A6 e54, some 1)] (v := .c (I y55)) (foot := []) (by kernel_rfl) (by kernel_rfl) (by kernel_rfl) (fun hg => Ia (F := 38) (As := [A6 e52, A6 e54, .c (.imm [D3 p3.Rules])]) (Bs := [A6 e52, A6 e54, .c (.imm [D3 p3.Rules])]) (r := .c (I y55)) (v := .c (I y55)) (by kernel_rfl) fok38 (by kernel_rfl) (xN n _ _ _ y55 (cD he hg)) (by kernel_rfl)) rfl rfl ?_
 clear he
 refine zE (J5 y55 0) ?_
 refine zP (.bool ((E2 v49 p1) && (D9 y55 0))) ?_
 refine mC [0, 1, 2, 3, 8, 9, 34] (L2 := [(0, J9), C6 1 p1, C6 2 p2, (3, G7 p3.Rules), C6 8 v33, C6 9 v49, (34, B2 ((E2 v49 p1) && (D9 y55 0)))]) (G2 := [F3 v50]) 18 ?_
 refine zi h (fun h => ?_) fun h => ?_
 refine aC ?_
 refine aO ?_
 refine aK ?_
 refine Uo [[], [], [], [], [3], [], [], [6], [5, 7, 6], [8, 5, 7, 6], [], [], [10, 11], [12, 10, 11], [0, 1, 5, 6, 7, 8, 9, 13, 12, 10, 11], [14, 9, 0, 1, 5, 6, 7, 8, 13, 12, 10, 11], [2, 4, 0, 1, 3, 5, 6, 7, 8, 9, 10, 11, 12, 13, 14, 15], [16, 13, 15, 0, 1, 2, 3, 4, 5, 6, 7, 8, 9, 10, 11, 12, 14]] fun _ => ?_
 refine zk 8 ?_
 obtain ⟨k56, he, h⟩ := aB h
 refine dT (v := .c (.ptr 0 (k56 * 1))) (foot := [0]) (rJ (enc := aH) (l := v50) (n := 0) (sz := 1) (k := k56) (ix := (F6 v49)) he (by kernel_rfl)) (by kernel_rfl) rfl rfl ?_
 have hb_k56 := oH he; clear he
 obtain ⟨e57, he, h⟩ := aB h
 refine zw (v := .c (I e57)) [0] (Dc (enc := aH) (l := v50) (n := 0) (q := k56) (f := 0) (sz := 1) (e := e57) (j := ⟨.int .i64, 1, 8, [.int .i64 0]⟩) he (by kernel_rfl) (by kernel_rfl)) ?_
 clear he
 refine zk 2 ?_
 obtain ⟨k58, he, h⟩ := aB h
 refine dT (v := .c (.ptr 0 (k58 * 1))) (foot := [0]) (rJ (enc := aH) (l := v50) (n := 0) (sz := 1) (k := k58) (ix := v49) he (by kernel_rfl)) (by kernel_rfl) rfl rfl ?_
 have hb_k58 := oH he; clear he
 obtain ⟨e59, he, h⟩ := aB h
 refine zw (v := .c (I e59)) [0] (Dc (enc := aH) (l := v50) (n := 0) (q := k58) (f := 0) (sz := 1) (e := e59) (j := ⟨.int .i64, 1, 8, [.int .i64 0]⟩) he (by kernel_rfl) (by kernel_rfl)) ?_
 clear he
 obtain ⟨k60, he, h⟩ := aB h
 refine dT (v := .c (.ptr 0 (k60 * 1))) (foot := [0]) (rJ (enc := aH) (l := v50) (n := 0) (sz := 1) (k := k60) (ix := v49) he (by kernel_rfl)) (by kernel_rfl) rfl rfl ?_
 have hb_k60 := oH he; clear he
 obtain ⟨e61, he, h⟩ := aB h
 refine wJ (enc := aH) (n := 0) (q := k60) (f := 0) (sz := 1) (T0 := 3) (lp := [I e57]) (l := v50) (e := e61) (e2 := e57) he (by kernel_rfl) (by simp only [List.length_cons, List.length_nil]; omega) (by kernel_rfl) (by kernel_rfl) rfl rfl ?_
 clear he
 obtain ⟨k62, he, h⟩ := aB h
 refine dT (v := .c (.ptr 0 (k62 * 1))) (foot := [0]) (rJ (enc := aH) (l := (List.set v50 k60 e57)) (n := 0) (sz := 1) (k := k62) (ix := (F6 v49)) he (by kernel_rfl)) (by kernel_rfl) rfl rfl ?_
 have hb_k62 := oH he; clear he
 obtain ⟨e63, he, h⟩ := aB h
 refine wJ (enc := aH) (n := 0) (q := k62) (f := 0) (sz := 1) (T0 := 3) (lp := [I e59]) (l := (List.set v50 k60 e57)) (e := e63) (e2 := e59) he (by kernel_rfl) (by simp only [List.length_cons, List.length_nil]; omega) (by kernel_rfl) (by kernel_rfl) rfl rfl ?_
 clear he
 refine cF ?_
 refine bB ?_
 refine zb ?_
 exact eZ (zv [(0, 0)] [0, 1, 2, 3, 8, 9] 1) (⟨_, _, h, rfl⟩)
 exact aL (zv [(0, 0)] [0, 1, 2, 3, 8] 1) (bK (hj35 _ h))
 cases h
 exact bK zr
def gZ (v15 : Int) (p1 : Int) (j16 : Unit → Option (List Int)) (p2 : bH) (y12 : (List Int)) : Nat → Unit → Option (List Int)
 | 0, _ => none
 | n + 1, _ => (if (decide ((IntKind.wrap .i64 (2 * v15)) ≤ p1)) = true then none else j16 ())
def cX (p1 : Int) (p2 : bH) (y12 : (List Int)) : Nat → Int → Option (List Int)
 | 0, _ => none
 | n + 1, v15 => (if (decide (v15 < p1)) = true then (aS (fun (_ : Unit) => (aS (fun (_ : Unit) => cX p1 p2 y12 n (IntKind.wrap .i64 (v15 * 2))) (fun (j17 : Unit → Option (List Int)) => (if (decide ((IntKind.wrap .i64 (0 + v15)) < p1)) = true then none else j17 ())))) (fun (j16 : Unit → Option (List Int)) => gZ v15 p1 j16 p2 y12 n ())) else some y12)
def cP (p1 : Int) (p2 : bH) (j1 : Int → List Int → Option (List Int)) : Nat → Int → Int → List Int → Option (List Int)
 | 0, _, _, _ => none
 | n + 1, v3, v4, v5 => (if (decide (v4 ≤ p1)) = true then (cL n v5 v3 v4 p2).bind fun (y6 : (List Int)) => cP p1 p2 j1 n v4 (IntKind.wrap .i64 (v4 + 20)) y6 else j1 v3 v5)
def gF  (n : Nat) (p0 : (List Int)) (p1 : Int) (p2 : bH) : Option (List Int) := (aS (fun (v10 : Int) (v11 : List Int) => (cL n v11 v10 p1 p2).bind fun (y12 : (List Int)) => cX p1 p2 y12 n 20) (fun (j1 : Int → List Int → Option (List Int)) => cP p1 p2 j1 n 0 20 p0))
theorem pN  (n : Nat) (p0 : (M4)) (p1 : Int) (p2 : bH) (r : (M4)) (h : gF n p0 p1 p2 = some r) : dI E 71 1 [J9, A6 p1, G7 p2.Rules] [F3 p0] (.tup []) [F3 r] := by
 refine gT Tryz.func71 rfl ?_
 unfold gF at h
 refine za [0, 1, 2, 6] ?_
 refine za [0, 1, 2, 6, 7, 8] ?_
 refine aX h (fun A j => ∀ v10 v11, j v10 v11 = some r → A (mk [(0, J9), C6 1 p1, (2, G7 p2.Rules), (6, .c (I 20)), C6 7 v10] [F3 v11] 1)) (fun v10 v11 h => ?_) (fun j1 Aj1 hj1 h => ?_)
 refine zx fun _ => ?_
 refine zk 4 ?_
 obtain ⟨y12, he, h⟩ := aB h
 refine zo [(0, 0)] Vo (iE n _ _ _ _ y12 he) ?_
 clear he
 refine ze [0, 1, 2, 6] ?_
 refine aK ?_
 refine bJ (fun n s => ∃ v15, cX p1 p2 y12 n v15 = some r ∧ s = mk [(0, J9), C6 1 p1, (2, G7 p2.Rules), C6 6 v15] [F3 y12] 1) n _ (zv [(0, 0)] [0, 1, 2, 6] 1) ⟨_, h, rfl⟩ (fun s ⟨v15, h, _⟩ => nomatch h) ?_
 rintro n s ⟨v15, h, rfl⟩
 rw [cX] at h
 refine aO ?_
 refine za [0, 1, 2, 6, 30] ?_
 refine zi h (fun h => ?_) fun h => ?_
 refine aC ?_
 refine aK ?_
 refine za [0, 1, 2, 6, 7, 8] ?_
 refine aX h (fun A j => ∀ u, j u = some r → A (mk [(0, J9), C6 1 p1, (2, G7 p2.Rules), C6 6 v15, I9 7] [F3 y12] 1)) (fun u h => ?_) (fun j16 Aj16 hj16 h => ?_)
 refine aX h (fun A j => ∀ u, j u = some r → A (mk [(0, J9), C6 1 p1, (2, G7 p2.Rules), C6 6 v15] [F3 y12] 1)) (fun u h => ?_) (fun j17 Aj17 hj17 h => ?_)
 refine bB ?_
 refine zb ?_
 exact eZ (zv [(0, 0)] [0, 1, 2, 6] 1) (⟨_, h, rfl⟩)
 refine za [0, 1, 2, 6, 7, 9] ?_
 refine za [0, 1, 2, 6, 7, 9, 54] ?_
 refine zi h (fun h => ?_) fun h => ?_
 cases h
 exact aL (zv [(0, 0)] [0, 1, 2, 6] 1) (aC (hj17 _ h))
 refine aK ?_
 refine bJ (fun n s => ∃ u, gZ v15 p1 j16 p2 y12 n u = some r ∧ s = mk [(0, J9), C6 1 p1, (2, G7 p2.Rules), C6 6 v15, I9 7, (8, A6 (IntKind.wrap .i64 (2 * v15)))] [F3 y12] 1) n _ (zv [(0, 0)] [0, 1, 2, 6, 7, 8] 1) ⟨(), h, rfl⟩ (fun s ⟨u, h, _⟩ => nomatch h) ?_
 rintro n s ⟨u, h, rfl⟩
 rw [gZ] at h
 refine aO ?_
 refine za [0, 1, 2, 6, 7, 8, 35] ?_
 refine zi h (fun h => ?_) fun h => ?_
 refine aC ?_
 refine aK ?_
 cases h
 exact aL (zv [(0, 0)] [0, 1, 2, 6, 7] 1) (bK (hj16 _ h))
 cases h
 exact bK zr
 refine aK ?_
 refine bJ (fun n s => ∃ v3 v4 v5, cP p1 p2 j1 n v3 v4 v5 = some r ∧ s = mk [(0, J9), C6 1 p1, (2, G7 p2.Rules), (6, .c (I 20)), C6 7 v3, C6 8 v4] [F3 v5] 1) n _ (zv [(0, 0)] [0, 1, 2, 6, 7, 8] 1) ⟨_, _, _, h, rfl⟩ (fun s ⟨v3, v4, v5, h, _⟩ => nomatch h) ?_
 rintro n s ⟨v3, v4, v5, h, rfl⟩
 rw [cP] at h
 refine aO ?_
 refine za [0, 1, 2, 6, 7, 8, 13] ?_
 refine zi h (fun h => ?_) fun h => ?_
 refine aC ?_
 refine aK ?_
 refine zx fun _ => ?_
 refine zk 4 ?_
 obtain ⟨y6, he, h⟩ := aB h
 refine zo [(0, 0)] Vo (iE n _ _ _ _ y6 he) ?_
 clear he
 refine ze [0, 1, 2, 6, 8] ?_
 refine za [0, 1, 2, 6, 7, 8] ?_
 refine bB ?_
 refine zb ?_
 exact eZ (zv [(0, 0)] [0, 1, 2, 6, 7, 8] 1) (⟨_, _, _, h, rfl⟩)
 exact aL (zv [(0, 0)] [0, 1, 2, 6, 7] 1) (bK (hj1 _ _ h))
def dF  (n : Nat) (p0 : (List Int)) (p1 : bH) : Option (List Int) := (gF n p0 (List.length p0 : Int) p1).bind fun (y1 : (List Int)) => some y1
theorem nQ  (n : Nat) (p0 : (M4)) (p1 : bH) (r : (M4)) (h : dF n p0 p1 = some r) : dI E 37 1 [J9, G7 p1.Rules] [F3 p0] (.tup []) [F3 r] := by
 refine gT Tryz.func37 rfl ?_
 unfold dF at h
 refine zy fun _ => ?_
 refine zk 2 ?_
 refine dT (v := .c (I (List.length p0 : Int))) (foot := [0]) (Rr (enc := aH) (l := p0) (n := 0) (by kernel_rfl)) (by kernel_rfl) rfl rfl ?_
 refine zk 1 ?_
 obtain ⟨y1, he, h⟩ := aB h
 refine zo [(0, 0)] fok71 (pN n _ _ _ y1 he) ?_
 clear he
 refine cF ?_
 cases h
 exact zr
def tI  (n : Nat) (p0 : bA) : Option ((List (Int × aP)) × Bool) := (lR n p0).bind fun (y1 : ((List (Int × aP)) × aJ × Int)) => some (y1.1, (y1.2.2 == 0))
theorem Hl  (n : Nat) (p0 : bA) (r : ((K5) × Bool)) (h : tI n p0 = some r) : dI E 73 0 [C8 p0] [] (.tup [M8 r.1, B2 r.2]) [] := by
 refine gT Tryz.func73 rfl ?_
 unfold tI at h
 refine za [1] ?_
 refine zx fun _ => ?_
 refine zk 1 ?_
 obtain ⟨y1, he, h⟩ := aB h
 refine zc aBo (uL n _ y1 he) ?_
 clear he
 refine zk 8 ?_
 refine ze [4, 6] ?_
 refine za [2, 3] ?_
 cases h
 exact aI zr
def oE  (n : Nat) (p0 : bA) : Option (List Int) := (tI n p0).bind fun (y1 : ((List (Int × aP)) × Bool)) => (if (!y1.2) = true then some ([] : List Int) else (fA n y1.1 p0.Root).bind fun (y2 : (List Int)) => some y2)
theorem xB  (n : Nat) (p0 : bA) (r : (M4)) (h : oE n p0 = some r) : dI E 41 0 [C8 p0] [] (.c (C1 r)) [] := by
 refine gT Tryz.func41 rfl ?_
 unfold oE at h
 refine za [1] ?_
 refine zx fun _ => ?_
 refine zk 1 ?_
 obtain ⟨y1, he, h⟩ := aB h
 refine zc fok73 (Hl n _ y1 he) ?_
 clear he
 refine zk 5 ?_
 refine ze [1, 3, 4] ?_
 refine aO ?_
 refine za [1, 3, 11] ?_
 refine zi h (fun h => ?_) fun h => ?_
 refine za [2] ?_
 cases h
 exact aI zr
 refine aC ?_
 refine zx fun _ => ?_
 refine zk 3 ?_
 obtain ⟨y2, he, h⟩ := aB h
 refine zc Ye (sP n _ _ y2 he) ?_
 clear he
 refine zk 1 ?_
 refine ze [2] ?_
 cases h
 exact aI zr
def iH (p1 : bY) (p0 : eI) (j1 : Unit → Option Bool) : Nat → Bool → Int → Int → Int → ByteArray → List bD → List cU → List Int → Option Bool
 | 0, _, _, _, _, _, _, _, _ => none
 | n + 1, v6, v7, v8, v9, v10, v11, v12, v13 => (if v6 = true then (gd [((p1.UnderKind == 0) || (v9 == p1.UnderKind)), (!(bV p1.UnderClass (⟨#[]⟩ : ByteArray)))] (some (cZ v7 p0.class_, gU v7 p0.class_))).bind fun (y14 : (ByteArray × Bool)) => (if (((p1.UnderKind == 0) || (v9 == p1.UnderKind)) && ((bV p1.UnderClass (⟨#[]⟩ : ByteArray)) || (bV y14.1 p1.UnderClass))) = true then some true else (some (cZ v8 p0.nodes, gU v8 p0.nodes)).bind fun (y15 : (aP × Bool)) => iH p1 p0 j1 n y15.2 y15.1.ID y15.1.Parent y15.1.Kind y15.1.Key y15.1.Attrs y15.1.Actions y15.1.Kids) else j1 ())
def mU  (n : Nat) (p0 : eI) (p1 : bY) (p2 : Int) : Option Bool := (if ((p1.UnderKind == 0) && (bV p1.UnderClass (⟨#[]⟩ : ByteArray))) = true then some true else (aS (fun (_ : Unit) => some false) (fun (j1 : Unit → Option Bool) => (some (cZ p2 p0.nodes, gU p2 p0.nodes)).bind fun (y2 : (aP × Bool)) => (some (cZ y2.1.Parent p0.nodes, gU y2.1.Parent p0.nodes)).bind fun (y3 : (aP × Bool)) => iH p1 p0 j1 n y3.2 y3.1.ID y3.1.Parent y3.1.Kind y3.1.Key y3.1.Attrs y3.1.Actions y3.1.Kids)))
theorem Dy  (n : Nat) (p0 : eI) (p1 : bY) (p2 : Int) (r : Bool) (h : mU n p0 p1 p2 = some r) : dI E 86 0 [I0 p0, F2 p1, A6 p2] [] (B2 r) [] := by
 refine gT Tryz.func86 rfl ?_
 unfold mU at h
 refine za [2, 3, 4] ?_
 refine aO ?_
 refine zx fun _ => ?_
 refine zk 4 ?_
 refine zE (A1 1 4) ?_
 refine zE (F1 p1.UnderClass) ?_
 refine zE (.c (Bo (bV p1.UnderClass (⟨#[]⟩ : ByteArray)))) ?_
 refine zn (L2 := [C6 2 p2, I1, I3, C0 9 1 3, C6 10 p1.UnderKind, (11, B2 (p1.UnderKind == 0)), (12, B2 (p1.UnderKind == 0)), (13, .cnd [p1.UnderKind == 0] (A1 1 4)), (14, .cnd [p1.UnderKind == 0] (F1 p1.UnderClass)), (15, .cnd [p1.UnderKind == 0] (.c (Bo (bV p1.UnderClass (⟨#[]⟩ : ByteArray)))))]) (G2 := [K9 p0, (1, B3 p1)]) (X2 := []) ?_
 refine zP (.bool ((p1.UnderKind == 0) && (bV p1.UnderClass (⟨#[]⟩ : ByteArray)))) ?_
 refine ze [2, 3, 4, 16] ?_
 refine zi h (fun h => ?_) fun h => ?_
 refine za [6] ?_
 cases h
 exact aI zr
 refine aC ?_
 refine aX h (fun A j => ∀ u, j u = some r → A (mk [] [] 0)) (fun u h => ?_) (fun j1 Aj1 hj1 h => ?_)
 refine za [6] ?_
 cases h
 exact aI zr
 refine zx fun _ => ?_
 refine zk 5 ?_
 obtain ⟨y2, he, h⟩ := aB h
 refine zw (v := .agg [I y2.1.ID, I y2.1.Parent, I y2.1.Kind, Sx y2.1.Key, C7 y2.1.Attrs, C9 y2.1.Actions, C1 y2.1.Kids]) [] (cT (kf := (A9)) (enc := aE) (l := p0.nodes) (k := p2) (ok := false) (kk := .int .i64) (j := ⟨.st [(3, 0, 1), (3, 1, 1), (3, 2, 1), (9, 3, 1), (55, 4, 1), (56, 5, 1), (22, 6, 1)], 7, 112, [.int .i64 0, .int .i64 0, .int .i64 0, .string ⟨#[]⟩, .slice none 0 0, .slice none 0 0, .slice none 0 0]⟩) (p := y2) (v := .agg [I y2.1.ID, I y2.1.Parent, I y2.1.Kind, Sx y2.1.Key, C7 y2.1.Attrs, C9 y2.1.Actions, C1 y2.1.Kids]) he (by kernel_rfl) eE (by kernel_rfl) (by kernel_rfl) (by kernel_rfl)) ?_
 clear he
 refine zk 1 ?_
 obtain ⟨y3, he, h⟩ := aB h
 refine zw (v := .tup [B4 y3.1, B2 y3.2]) [] (cT (kf := (A9)) (enc := aE) (l := p0.nodes) (k := y2.1.Parent) (ok := true) (kk := .int .i64) (j := ⟨.st [(3, 0, 1), (3, 1, 1), (3, 2, 1), (9, 3, 1), (55, 4, 1), (56, 5, 1), (22, 6, 1)], 7, 112, [.int .i64 0, .int .i64 0, .int .i64 0, .string ⟨#[]⟩, .slice none 0 0, .slice none 0 0, .slice none 0 0]⟩) (p := y3) (v := .agg [I y3.1.ID, I y3.1.Parent, I y3.1.Kind, Sx y3.1.Key, C7 y3.1.Attrs, C9 y3.1.Actions, C1 y3.1.Kids]) he (by kernel_rfl) eE (by kernel_rfl) (by kernel_rfl) (by kernel_rfl)) ?_
 clear he
 refine zn (L2 := [C6 2 p2, I1, I3, (16, .c (Bo ((p1.UnderKind == 0) && (bV p1.UnderClass (⟨#[]⟩ : ByteArray))))), C0 18 0 0, (19, M8 p0.nodes), C0 20 0 0, (21, M8 p0.nodes), C6 22 p2, (23, B4 y2.1), C6 24 y2.1.Parent, (25, .tup [B4 y3.1, B2 y3.2])]) (G2 := [K9 p0, (1, B3 p1)]) (X2 := []) ?_
 refine zk 6 ?_
 refine ze [3, 4, 7, 8] ?_
 refine aK ?_
 refine bJ (fun n s => ∃ v6 v7 v8 v9 v10 v11 v12 v13, iH p1 p0 j1 n v6 v7 v8 v9 v10 v11 v12 v13 = some r ∧ s = mk [I1, I3, C0 7 2 0, K2 8 v6] [K9 p0, (1, B3 p1), (2, K0 v7 v8 v9 v10 v11 v12 v13)] 3) n _ (zv [(0, 0), (1, 1), (22, 2)] [3, 4, 7, 8] 3) ⟨_, _, _, _, _, _, _, _, h, rfl⟩ (fun s ⟨v6, v7, v8, v9, v10, v11, v12, v13, h, _⟩ => nomatch h) ?_
 rintro n s ⟨v6, v7, v8, v9, v10, v11, v12, v13, h, rfl⟩
 rw [iH] at h
 refine aO ?_
 refine za [3, 4, 7, 28] ?_
 refine zi h (fun h => ?_) fun h => ?_
 refine aC ?_
 refine aO ?_
 refine aK ?_
 refine zx fun _ => ?_
 refine zk 4 ?_
 refine zE (A1 2 2) ?_
 refine zE (A6 v9) ?_
 refine zE (A1 1 3) ?_
 refine zn (L2 := [I1, I3, C0 7 2 0, K2 28 v6, C0 37 1 3, C6 38 p1.UnderKind, (39, B2 (p1.UnderKind == 0)), (40, B2 (p1.UnderKind == 0)), (41, .cnd [!(p1.UnderKind == 0)] (A1 2 2)), (42, .cnd [!(p1.UnderKind == 0)] (A6 v9)), (43, .cnd [!(p1.UnderKind == 0)] (A1 1 3))]) (G2 := [K9 p0, (1, B3 p1), (2, K0 v7 v8 v9 v10 v11 v12 v13)]) (X2 := []) ?_
 refine zE (A6 p1.UnderKind) ?_
 refine zE (B2 (v9 == p1.UnderKind)) ?_
 refine zP (.bool ((p1.UnderKind == 0) || (v9 == p1.UnderKind))) ?_
 refine zk 1 ?_
 refine zE (A1 1 4) ?_
 refine zn (L2 := [I1, I3, C0 7 2 0, K2 28 v6, C0 37 1 3, C6 38 p1.UnderKind, (39, B2 (p1.UnderKind == 0)), (40, B2 (p1.UnderKind == 0)), (41, .cnd [!(p1.UnderKind == 0)] (A1 2 2)), (42, .cnd [!(p1.UnderKind == 0)] (A6 v9)), (43, .cnd [!(p1.UnderKind == 0)] (A1 1 3)), (44, .cnd [!(p1.UnderKind == 0)] (A6 p1.UnderKind)), (45, .cnd [!(p1.UnderKind == 0)] (B2 (v9 == p1.UnderKind))), (46, B2 ((p1.UnderKind == 0) || (v9 == p1.UnderKind))), (47, B2 ((p1.UnderKind == 0) || (v9 == p1.UnderKind))), (48, .cnd [(p1.UnderKind == 0) || (v9 == p1.UnderKind)] (A1 1 4))]) (G2 := [K9 p0, (1, B3 p1), (2, K0 v7 v8 v9 v10 v11 v12 v13)]) (X2 := []) ?_
 refine zE (F1 p1.UnderClass) ?_
 refine zE (.c (Bo (bV p1.UnderClass (⟨#[]⟩ : ByteArray)))) ?_
 refine zF [(p1.UnderKind == 0) || (v9 == p1.UnderKind)] (.c (Bo (bV p1.UnderClass (⟨#[]⟩ : ByteArray)))) ?_
 refine zE (A1 0 1) ?_
 refine zE (.c (C4 p0.class_)) ?_
 refine zn (L2 := [I1, I3, C0 7 2 0, K2 28 v6, C0 37 1 3, C6 38 p1.UnderKind, (39, B2 (p1.UnderKind == 0)), (40, B2 (p1.UnderKind == 0)), (41, .cnd [!(p1.UnderKind == 0)] (A1 2 2)), (42, .cnd [!(p1.UnderKind == 0)] (A6 v9)), (43, .cnd [!(p1.UnderKind == 0)] (A1 1 3)), (44, .cnd [!(p1.UnderKind == 0)] (A6 p1.UnderKind)), (45, .cnd [!(p1.UnderKind == 0)] (B2 (v9 == p1.UnderKind))), (46, B2 ((p1.UnderKind == 0) || (v9 == p1.UnderKind))), (47, B2 ((p1.UnderKind == 0) || (v9 == p1.UnderKind))), (48, .cnd [(p1.UnderKind == 0) || (v9 == p1.UnderKind)] (A1 1 4)), (49, .cnd [(p1.UnderKind == 0) || (v9 == p1.UnderKind)] (F1 p1.UnderClass)), (50, .cnd [(p1.UnderKind == 0) || (v9 == p1.UnderKind)] (.c (Bo (bV p1.UnderClass (⟨#[]⟩ : ByteArray))))), (51, .cnd [(p1.UnderKind == 0) || (v9 == p1.UnderKind)] (.c (Bo (bV p1.UnderClass (⟨#[]⟩ : ByteArray))))), (52, .cnd [(p1.UnderKind == 0) || (v9 == p1.UnderKind), (!(bV p1.UnderClass (⟨#[]⟩ : ByteArray)))] (A1 0 1)), (53, .cnd [(p1.UnderKind == 0) || (v9 == p1.UnderKind), (!(bV p1.UnderClass (⟨#[]⟩ : ByteArray)))] (.c (C4 p0.class_)))]) (G2 := [K9 p0, (1, B3 p1), (2, K0 v7 v8 v9 v10 v11 v12 v13)]) (X2 := []) ?_
 refine zE (A1 2 0) ?_
 refine zE (A6 v7) ?_
 obtain ⟨y14, he, h⟩ := aB h
 refine uH (e := [(p1.UnderKind == 0) || (v9 == p1.UnderKind), (!(bV p1.UnderClass (⟨#[]⟩ : ByteArray)))]) [(53, .c (C4 p0.class_), some 2), (55, A6 v7, some 2)] (v := .c (Sx y14.1)) (foot := []) (by kernel_rfl) (by kernel_rfl) (by kernel_rfl) (fun hg => cT (kf := (A9)) (enc := eS) (l := p0.class_) (k := v7) (ok := false) (kk := .int .i64) (j := ⟨.str, 1, 16, [.string ⟨#[]⟩]⟩) (p := y14) (v := .c (Sx y14.1)) (cD he hg) (by kernel_rfl) eE (by kernel_rfl) (by kernel_rfl) (by kernel_rfl)) rfl rfl ?_
 clear he
 refine zE (A1 1 4) ?_
 refine zE (F1 p1.UnderClass) ?_
 refine zn (L2 := [I1, I3, C0 7 2 0, K2 28 v6, C0 37 1 3, C6 38 p1.UnderKind, (39, B2 (p1.UnderKind == 0)), (40, B2 (p1.UnderKind == 0)), (41, .cnd [!(p1.UnderKind == 0)] (A1 2 2)), (42, .cnd [!(p1.UnderKind == 0)] (A6 v9)), (43, .cnd [!(p1.UnderKind == 0)] (A1 1 3)), (44, .cnd [!(p1.UnderKind == 0)] (A6 p1.UnderKind)), (45, .cnd [!(p1.UnderKind == 0)] (B2 (v9 == p1.UnderKind))), (46, B2 ((p1.UnderKind == 0) || (v9 == p1.UnderKind))), (47, B2 ((p1.UnderKind == 0) || (v9 == p1.UnderKind))), (48, .cnd [(p1.UnderKind == 0) || (v9 == p1.UnderKind)] (A1 1 4)), (49, .cnd [(p1.UnderKind == 0) || (v9 == p1.UnderKind)] (F1 p1.UnderClass)), (50, .cnd [(p1.UnderKind == 0) || (v9 == p1.UnderKind)] (.c (Bo (bV p1.UnderClass (⟨#[]⟩ : ByteArray))))), (51, .cnd [(p1.UnderKind == 0) || (v9 == p1.UnderKind)] (.c (Bo (bV p1.UnderClass (⟨#[]⟩ : ByteArray))))), (52, .cnd [(p1.UnderKind == 0) || (v9 == p1.UnderKind), (!(bV p1.UnderClass (⟨#[]⟩ : ByteArray)))] (A1 0 1)), (53, .cnd [(p1.UnderKind == 0) || (v9 == p1.UnderKind), (!(bV p1.UnderClass (⟨#[]⟩ : ByteArray)))] (.c (C4 p0.class_))), (54, .cnd [(p1.UnderKind == 0) || (v9 == p1.UnderKind), (!(bV p1.UnderClass (⟨#[]⟩ : ByteArray)))] (A1 2 0)), (55, .cnd [(p1.UnderKind == 0) || (v9 == p1.UnderKind), (!(bV p1.UnderClass (⟨#[]⟩ : ByteArray)))] (A6 v7)), (56, .cnd [(p1.UnderKind == 0) || (v9 == p1.UnderKind), (!(bV p1.UnderClass (⟨#[]⟩ : ByteArray)))] (F1 y14.1)), (57, .cnd [(p1.UnderKind == 0) || (v9 == p1.UnderKind), (!(bV p1.UnderClass (⟨#[]⟩ : ByteArray)))] (A1 1 4)), (58, .cnd [(p1.UnderKind == 0) || (v9 == p1.UnderKind), (!(bV p1.UnderClass (⟨#[]⟩ : ByteArray)))] (F1 p1.UnderClass))]) (G2 := [K9 p0, (1, B3 p1), (2, K0 v7 v8 v9 v10 v11 v12 v13)]) (X2 := []) ?_
 refine zE (B2 (bV y14.1 p1.UnderClass)) ?_
 refine zP (.bool ((bV p1.UnderClass (⟨#[]⟩ : ByteArray)) || (bV y14.1 p1.UnderClass))) ?_
 refine zP (.bool (((p1.UnderKind == 0) || (v9 == p1.UnderKind)) && ((bV p1.UnderClass (⟨#[]⟩ : ByteArray)) || (bV y14.1 p1.UnderClass)))) ?_
 refine ze [3, 4, 7, 61] ?_
 refine zi h (fun h => ?_) fun h => ?_
 refine za [6] ?_
 cases h
 exact aI zr
 refine aC ?_
 refine aO ?_
 refine za [3, 4, 62] ?_
 refine zb ?_
 refine bB ?_
 refine zy fun _ => ?_
 refine zk 4 ?_
 obtain ⟨y15, he, h⟩ := aB h
 refine zw (v := .tup [B4 y15.1, B2 y15.2]) [] (cT (kf := (A9)) (enc := aE) (l := p0.nodes) (k := v8) (ok := true) (kk := .int .i64) (j := ⟨.st [(3, 0, 1), (3, 1, 1), (3, 2, 1), (9, 3, 1), (55, 4, 1), (56, 5, 1), (22, 6, 1)], 7, 112, [.int .i64 0, .int .i64 0, .int .i64 0, .string ⟨#[]⟩, .slice none 0 0, .slice none 0 0, .slice none 0 0]⟩) (p := y15) (v := .agg [I y15.1.ID, I y15.1.Parent, I y15.1.Kind, Sx y15.1.Key, C7 y15.1.Attrs, C9 y15.1.Actions, C1 y15.1.Kids]) he (by kernel_rfl) eE (by kernel_rfl) (by kernel_rfl) (by kernel_rfl)) ?_
 clear he
 refine zn (L2 := [I1, I3, (62, .agg [I v7, I v8, I v9, Sx v10, C7 v11, C9 v12, C1 v13]), C0 7 30 0, C0 30 0 0, (31, M8 p0.nodes), C0 32 30 1, C6 33 v8, (34, .tup [B4 y15.1, B2 y15.2])]) (G2 := [K9 p0, (1, B3 p1), (2, K0 v7 v8 v9 v10 v11 v12 v13), (30, K0 v7 v8 v9 v10 v11 v12 v13)]) (X2 := []) ?_
 refine zk 5 ?_
 refine cF ?_
 exact eZ (zv [(0, 0), (1, 1), (30, 2)] [3, 4, 7, 8] 3) (⟨_, _, _, _, _, _, _, _, h, rfl⟩)
 exact aL (zv [] [] 0) (bK (hj1 _ h))
def kO  (n : Nat) (p0 : eI) (p1 : bY) (p2 : Int) : Option Bool := (gd [(p1.Kind != 0)] (some (cZ p2 p0.nodes, gU p2 p0.nodes))).bind fun (y1 : (aP × Bool)) => (gd [(!((p1.Kind != 0) && (p1.Kind != y1.1.Kind))), (!(bV p1.Class (⟨#[]⟩ : ByteArray)))] (some (cZ p2 p0.class_, gU p2 p0.class_))).bind fun (y2 : (ByteArray × Bool)) => (if (((p1.Kind != 0) && (p1.Kind != y1.1.Kind)) || ((!(bV p1.Class (⟨#[]⟩ : ByteArray))) && (!(bV p1.Class y2.1)))) = true then some false else (some (cZ p2 p0.states, gU p2 p0.states)).bind fun (y3 : (Int × Bool)) => (gd [((mI .i64 y3.1 p1.States) == p1.States)] (mU n p0 p1 p2)).bind fun (y4 : Bool) => some (((mI .i64 y3.1 p1.States) == p1.States) && y4))
theorem Bg  (n : Nat) (p0 : eI) (p1 : bY) (p2 : Int) (r : Bool) (h : kO n p0 p1 p2 = some r) : dI E 51 0 [I0 p0, F2 p1, A6 p2] [] (B2 r) [] := by
 refine gT Tryz.func51 rfl ?_
 unfold kO at h
 refine za [2, 3, 4] ?_
 refine aO ?_
 refine zx fun _ => ?_
 refine zk 4 ?_
 refine zE (A1 1 0) ?_
 refine zE (A6 p1.Kind) ?_
 refine zE (A1 0 0) ?_
 refine zn (L2 := [C6 2 p2, I1, I3, C0 7 1 0, C6 8 p1.Kind, (9, B2 (p1.Kind != 0)), (10, B2 (p1.Kind != 0)), (11, .cnd [p1.Kind != 0] (A1 1 0)), (12, .cnd [p1.Kind != 0] (A6 p1.Kind)), (13, .cnd [p1.Kind != 0] (A1 0 0))]) (G2 := [K9 p0, (1, B3 p1)]) (X2 := []) ?_
 refine zE (M8 p0.nodes) ?_
 refine zE (A6 p2) ?_
 obtain ⟨y1, he, h⟩ := aB h
 refine uH (e := [p1.Kind != 0]) [(14, M8 p0.nodes, some 1), (15, A6 p2, some 1)] (v := .agg [I y1.1.ID, I y1.1.Parent, I y1.1.Kind, Sx y1.1.Key, C7 y1.1.Attrs, C9 y1.1.Actions, C1 y1.1.Kids]) (foot := []) (by kernel_rfl) (by kernel_rfl) (by kernel_rfl) (fun hg => cT (kf := (A9)) (enc := aE) (l := p0.nodes) (k := p2) (ok := false) (kk := .int .i64) (j := ⟨.st [(3, 0, 1), (3, 1, 1), (3, 2, 1), (9, 3, 1), (55, 4, 1), (56, 5, 1), (22, 6, 1)], 7, 112, [.int .i64 0, .int .i64 0, .int .i64 0, .string ⟨#[]⟩, .slice none 0 0, .slice none 0 0, .slice none 0 0]⟩) (p := y1) (v := .agg [I y1.1.ID, I y1.1.Parent, I y1.1.Kind, Sx y1.1.Key, C7 y1.1.Attrs, C9 y1.1.Actions, C1 y1.1.Kids]) (cD he hg) (by kernel_rfl) eE (by kernel_rfl) (by kernel_rfl) (by kernel_rfl)) rfl rfl ?_
 clear he
 refine zE (A6 y1.1.Kind) ?_
 refine zE (B2 (p1.Kind != y1.1.Kind)) ?_
 refine zn (L2 := [C6 2 p2, I1, I3, C0 7 1 0, C6 8 p1.Kind, (9, B2 (p1.Kind != 0)), (10, B2 (p1.Kind != 0)), (11, .cnd [p1.Kind != 0] (A1 1 0)), (12, .cnd [p1.Kind != 0] (A6 p1.Kind)), (13, .cnd [p1.Kind != 0] (A1 0 0)), (14, .cnd [p1.Kind != 0] (M8 p0.nodes)), (15, .cnd [p1.Kind != 0] (A6 p2)), (16, .cnd [p1.Kind != 0] (B4 y1.1)), (17, .cnd [p1.Kind != 0] (A6 y1.1.Kind)), (18, .cnd [p1.Kind != 0] (B2 (p1.Kind != y1.1.Kind)))]) (G2 := [K9 p0, (1, B3 p1)]) (X2 := []) ?_
 refine zP (.bool ((p1.Kind != 0) && (p1.Kind != y1.1.Kind))) ?_
 refine zk 1 ?_
 refine zE (A1 1 1) ?_
 refine zE (F1 p1.Class) ?_
 refine zE (.c (Bo (!(bV p1.Class (⟨#[]⟩ : ByteArray))))) ?_
 refine zn (L2 := [C6 2 p2, I1, I3, C0 7 1 0, C6 8 p1.Kind, (9, B2 (p1.Kind != 0)), (10, B2 (p1.Kind != 0)), (11, .cnd [p1.Kind != 0] (A1 1 0)), (12, .cnd [p1.Kind != 0] (A6 p1.Kind)), (13, .cnd [p1.Kind != 0] (A1 0 0)), (14, .cnd [p1.Kind != 0] (M8 p0.nodes)), (15, .cnd [p1.Kind != 0] (A6 p2)), (16, .cnd [p1.Kind != 0] (B4 y1.1)), (17, .cnd [p1.Kind != 0] (A6 y1.1.Kind)), (18, .cnd [p1.Kind != 0] (B2 (p1.Kind != y1.1.Kind))), (19, B2 ((p1.Kind != 0) && (p1.Kind != y1.1.Kind))), (20, B2 ((p1.Kind != 0) && (p1.Kind != y1.1.Kind))), (21, .cnd [!((p1.Kind != 0) && (p1.Kind != y1.1.Kind))] (A1 1 1)), (22, .cnd [!((p1.Kind != 0) && (p1.Kind != y1.1.Kind))] (F1 p1.Class)), (23, .cnd [!((p1.Kind != 0) && (p1.Kind != y1.1.Kind))] (.c (Bo (!(bV p1.Class (⟨#[]⟩ : ByteArray))))))]) (G2 := [K9 p0, (1, B3 p1)]) (X2 := []) ?_
 refine zF [!((p1.Kind != 0) && (p1.Kind != y1.1.Kind))] (.c (Bo (!(bV p1.Class (⟨#[]⟩ : ByteArray))))) ?_
 refine zE (A1 1 1) ?_
 refine zE (F1 p1.Class) ?_
 refine zE (A1 0 1) ?_
 refine zE (.c (C4 p0.class_)) ?_
 refine zn (L2 := [C6 2 p2, I1, I3, C0 7 1 0, C6 8 p1.Kind, (9, B2 (p1.Kind != 0)), (10, B2 (p1.Kind != 0)), (11, .cnd [p1.Kind != 0] (A1 1 0)), (12, .cnd [p1.Kind != 0] (A6 p1.Kind)), (13, .cnd [p1.Kind != 0] (A1 0 0)), (14, .cnd [p1.Kind != 0] (M8 p0.nodes)), (15, .cnd [p1.Kind != 0] (A6 p2)), (16, .cnd [p1.Kind != 0] (B4 y1.1)), (17, .cnd [p1.Kind != 0] (A6 y1.1.Kind)), (18, .cnd [p1.Kind != 0] (B2 (p1.Kind != y1.1.Kind))), (19, B2 ((p1.Kind != 0) && (p1.Kind != y1.1.Kind))), (20, B2 ((p1.Kind != 0) && (p1.Kind != y1.1.Kind))), (21, .cnd [!((p1.Kind != 0) && (p1.Kind != y1.1.Kind))] (A1 1 1)), (22, .cnd [!((p1.Kind != 0) && (p1.Kind != y1.1.Kind))] (F1 p1.Class)), (23, .cnd [!((p1.Kind != 0) && (p1.Kind != y1.1.Kind))] (.c (Bo (!(bV p1.Class (⟨#[]⟩ : ByteArray)))))), (24, .cnd [!((p1.Kind != 0) && (p1.Kind != y1.1.Kind))] (.c (Bo (!(bV p1.Class (⟨#[]⟩ : ByteArray)))))), (25, .cnd [!((p1.Kind != 0) && (p1.Kind != y1.1.Kind)), (!(bV p1.Class (⟨#[]⟩ : ByteArray)))] (A1 1 1)), (26, .cnd [!((p1.Kind != 0) && (p1.Kind != y1.1.Kind)), (!(bV p1.Class (⟨#[]⟩ : ByteArray)))] (F1 p1.Class)), (27, .cnd [!((p1.Kind != 0) && (p1.Kind != y1.1.Kind)), (!(bV p1.Class (⟨#[]⟩ : ByteArray)))] (A1 0 1)), (28, .cnd [!((p1.Kind != 0) && (p1.Kind != y1.1.Kind)), (!(bV p1.Class (⟨#[]⟩ : ByteArray)))] (.c (C4 p0.class_)))]) (G2 := [K9 p0, (1, B3 p1)]) (X2 := []) ?_
 refine zE (A6 p2) ?_
 obtain ⟨y2, he, h⟩ := aB h
 refine uH (e := [!((p1.Kind != 0) && (p1.Kind != y1.1.Kind)), (!(bV p1.Class (⟨#[]⟩ : ByteArray)))]) [(28, .c (C4 p0.class_), some 2), (29, A6 p2, some 2)] (v := .c (Sx y2.1)) (foot := []) (by kernel_rfl) (by kernel_rfl) (by kernel_rfl) (fun hg => cT (kf := (A9)) (enc := eS) (l := p0.class_) (k := p2) (ok := false) (kk := .int .i64) (j := ⟨.str, 1, 16, [.string ⟨#[]⟩]⟩) (p := y2) (v := .c (Sx y2.1)) (cD he hg) (by kernel_rfl) eE (by kernel_rfl) (by kernel_rfl) (by kernel_rfl)) rfl rfl ?_
 clear he
 refine zE (B2 (!(bV p1.Class y2.1))) ?_
 refine zP (.bool ((!(bV p1.Class (⟨#[]⟩ : ByteArray))) && (!(bV p1.Class y2.1)))) ?_
 refine zP (.bool (((p1.Kind != 0) && (p1.Kind != y1.1.Kind)) || ((!(bV p1.Class (⟨#[]⟩ : ByteArray))) && (!(bV p1.Class y2.1))))) ?_
 refine ze [2, 3, 4, 33] ?_
 refine zi h (fun h => ?_) fun h => ?_
 refine za [6] ?_
 cases h
 exact aI zr
 refine aC ?_
 refine zx fun _ => ?_
 refine Zd 3 (L' := [C6 2 p2, I1, I3, (33, .c (Bo (((p1.Kind != 0) && (p1.Kind != y1.1.Kind)) || ((!(bV p1.Class (⟨#[]⟩ : ByteArray))) && (!(bV p1.Class y2.1)))))), C0 34 0 2, (35, .c (D6 p0.states)), C6 36 p2]) (G' := [K9 p0, (1, B3 p1)]) (X' := []) ?_
 obtain ⟨y3, he, h⟩ := aB h
 refine zw (v := .c (I y3.1)) [] (cT (kf := (A9)) (enc := aH) (l := p0.states) (k := p2) (ok := false) (kk := .int .i64) (j := ⟨.int .i64, 1, 8, [.int .i64 0]⟩) (p := y3) (v := .c (I y3.1)) he (by kernel_rfl) eE (by kernel_rfl) (by kernel_rfl) (by kernel_rfl)) ?_
 clear he
 refine zk 7 ?_
 refine zE (I0 p0) ?_
 refine zE (F2 p1) ?_
 refine zE (A6 p2) ?_
 refine zn (L2 := [C6 2 p2, I1, I3, (33, .c (Bo (((p1.Kind != 0) && (p1.Kind != y1.1.Kind)) || ((!(bV p1.Class (⟨#[]⟩ : ByteArray))) && (!(bV p1.Class y2.1)))))), C0 34 0 2, (35, .c (D6 p0.states)), C6 36 p2, C6 37 y3.1, C0 38 1 2, C6 39 p1.States, (40, A6 (mI .i64 y3.1 p1.States)), C0 41 1 2, C6 42 p1.States, (43, B2 ((mI .i64 y3.1 p1.States) == p1.States)), (44, B2 ((mI .i64 y3.1 p1.States) == p1.States)), (45, .cnd [(mI .i64 y3.1 p1.States) == p1.States] (I0 p0)), (46, .cnd [(mI .i64 y3.1 p1.States) == p1.States] (F2 p1)), (47, .cnd [(mI .i64 y3.1 p1.States) == p1.States] (A6 p2))]) (G2 := [K9 p0, (1, B3 p1)]) (X2 := []) ?_
 obtain ⟨y4, he, h⟩ := aB h
 refine Om [(mI .i64 y3.1 p1.States) == p1.States] fok86 (fun hg => Dy n _ _ _ y4 (cD he hg)) ?_
 clear he
 refine zP (.bool (((mI .i64 y3.1 p1.States) == p1.States) && y4)) ?_
 refine zk 1 ?_
 refine ze [6] ?_
 cases h
 exact aI zr
def gN (p0 : bS) (p2 : ByteArray) (p1 : cY) (j1 : Unit → Option (Int × Bool)) : Nat → Int → Option (Int × Bool)
 | 0, _ => none
 | n + 1, v3 => (if (decide (v3 < (List.length p0.Tokens : Int))) = true then (idx p0.Tokens v3).bind fun (e4 : dM) => (if (!(bV e4.Name p2)) = true then gN p0 p2 p1 j1 n (IntKind.wrap .i64 (v3 + 1)) else (if (p1.High && p1.Dark) = true then some (e4.HighDark, true) else (if p1.High = true then some (e4.HighLight, true) else (if p1.Dark = true then some (e4.Dark, true) else some (e4.Light, true))))) else j1 ())
def nU  (n : Nat) (p0 : bS) (p1 : cY) (p2 : ByteArray) : Option (Int × Bool) := (aS (fun (_ : Unit) => some (0, false)) (fun (j1 : Unit → Option (Int × Bool)) => gN p0 p2 p1 j1 n 0))
theorem Ci  (n : Nat) (p0 : bS) (p1 : cY) (p2 : ByteArray) (r : (Int × Bool)) (h : nU n p0 p1 p2 = some r) : dI E 105 0 [.agg [E4 p0.Tokens], H6 p1, F1 p2] [] (.tup [A6 r.1, B2 r.2]) [] := by
 refine gT Tryz.func105 rfl ?_
 unfold nU at h
 refine za [2, 3, 4] ?_
 refine aX h (fun A j => ∀ u, j u = some r → A (mk [] [] 0)) (fun u h => ?_) (fun j1 Aj1 hj1 h => ?_)
 refine za [6, 7] ?_
 cases h
 exact aI zr
 refine zx fun _ => ?_
 refine zk 2 ?_
 refine zl bQ p0.Tokens ?_
 refine zk 1 ?_
 refine ze [2, 4, 11, 12, 13] ?_
 refine aK ?_
 refine bJ (fun n s => ∃ v3, gN p0 p2 p1 j1 n v3 = some r ∧ s = mk [(2, F1 p2), M6, (11, .c (E4 p0.Tokens)), (12, .c (I (List.length p0.Tokens : Int))), C6 13 v3] [(0, E3 p1)] 1) n _ (zv [(1, 0)] [2, 4, 11, 12, 13] 1) ⟨_, h, rfl⟩ (fun s ⟨v3, h, _⟩ => nomatch h) ?_
 rintro n s ⟨v3, h, rfl⟩
 rw [gN] at h
 refine za [2, 4, 11, 12, 13, 14] ?_
 refine aO ?_
 refine zi h (fun h => ?_) fun h => ?_
 refine aC ?_
 refine aO ?_
 refine aK ?_
 refine zx fun _ => ?_
 obtain ⟨e4, he, h⟩ := aB h
 refine zd bQ he ?_
 clear he
 refine zk 3 ?_
 refine ze [2, 4, 9, 11, 12, 13] ?_
 refine aO ?_
 refine za [2, 4, 9, 11, 12, 13, 20] ?_
 refine zi h (fun h => ?_) fun h => ?_
 refine bK ?_
 refine bB ?_
 refine zb ?_
 exact eZ (zv [(0, 0)] [2, 4, 11, 12, 13] 1) (⟨_, h, rfl⟩)
 refine aC ?_
 refine aO ?_
 refine aK ?_
 refine zx fun _ => ?_
 refine zk 3 ?_
 refine zE (A1 0 0) ?_
 refine zE (B2 p1.Dark) ?_
 refine zP (.bool (p1.High && p1.Dark)) ?_
 refine zk 1 ?_
 refine ze [4, 9, 21] ?_
 refine zi h (fun h => ?_) fun h => ?_
 refine za [6, 7] ?_
 cases h
 exact aI zr
 refine za [4, 9, 30] ?_
 refine zi h (fun h => ?_) fun h => ?_
 refine za [6, 7] ?_
 cases h
 exact aI zr
 refine za [9, 35] ?_
 refine zi h (fun h => ?_) fun h => ?_
 refine za [6, 7] ?_
 cases h
 exact aI zr
 refine aC ?_
 refine za [6, 7] ?_
 cases h
 exact aI zr
 exact aL (zv [] [] 0) (bK (hj1 _ h))
end Go.Proofs.YtojkihhnioeggaaGreatDoor.S
