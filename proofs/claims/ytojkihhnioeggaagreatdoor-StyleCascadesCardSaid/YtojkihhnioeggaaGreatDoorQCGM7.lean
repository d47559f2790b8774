import Derived.Test.YtojkihhnioeggaaGreatDoorQCGM6
set_option linter.unusedVariables false
set_option linter.unusedSimpArgs false
set_option maxRecDepth 100000
set_option maxHeartbeats 4000000
namespace Go.Proofs.YtojkihhnioeggaaGreatDoor.S
open Go Go.Bm
def cD (p1 : Int) (p3 : bK) (j35 : List Int → Option (List Int)) (p2 : Int) (v33 : Int) : Nat → Int → List Int → Option (List Int)
 | 0, _, _ => none
 | n + 1, v49, v50 => (gd [(decide (v49 > p1))] (uU v49 (List.length v50))).bind fun (k51 : Nat) => (gd [(decide (v49 > p1))] (v50[k51]?)).bind fun (e52 : Int) => (gd [(decide (v49 > p1))] (uU (IntKind.wrap .i64 (v49 - 1)) (List.length v50))).bind fun (k53 : Nat) => (gd [(decide (v49 > p1))] (v50[k53]?)).bind fun (e54 : Int) => (gd [(decide (v49 > p1))] (kZ n e52 e54 p3)).bind fun (y55 : Int) => (if ((decide (v49 > p1)) && (decide (y55 < 0))) = true then (uU (IntKind.wrap .i64 (v49 - 1)) (List.length v50)).bind fun (k56 : Nat) => (v50[k56]?).bind fun (e57 : Int) => (uU v49 (List.length v50)).bind fun (k58 : Nat) => (v50[k58]?).bind fun (e59 : Int) => (uU v49 (List.length v50)).bind fun (k60 : Nat) => (v50[k60]?).bind fun (e61 : Int) => (uU (IntKind.wrap .i64 (v49 - 1)) (List.length (List.set v50 k60 e57))).bind fun (k62 : Nat) => ((List.set v50 k60 e57)[k62]?).bind fun (e63 : Int) => cD p1 p3 j35 p2 v33 n (IntKind.wrap .i64 (v49 - 1)) (List.set (List.set v50 k60 e57) k62 e59) else j35 v50)
def cC (p2 : Int) (p1 : Int) (p3 : bK) : Nat → Int → List Int → Option (List Int)
 | 0, _, _ => none
 | n + 1, v33, v34 => (if (decide (v33 < p2)) = true then (aS (fun (v66 : List Int) => cC p2 p1 p3 n (IntKind.wrap .i64 (v33 + 1)) v66) (fun (j35 : List Int → Option (List Int)) => cD p1 p3 j35 p2 v33 n v33 v34)) else some v34)
def cL  (n : Nat) (p0 : (List Int)) (p1 : Int) (p2 : Int) (p3 : bK) : Option (List Int) := cC p2 p1 p3 n (IntKind.wrap .i64 (p1 + 1)) p0
theorem iO  (n : Nat) (p0 : (K3)) (p1 : Int) (p2 : Int) (p3 : bK) (r : (K3)) (h : cL n p0 p1 p2 p3 = some r) : cW E 102 1 [J2 0, B7 p1, B7 p2, G9 p3.Rules] [(0, E7 p0)] (.tup []) [(0, E7 r)] := by
 refine eV Tryz.func102 rfl ?_
 unfold cL at h
 refine za [0, 1, 2, 3, 8] ?_
 refine aG ?_
 refine bA (fun n s => ∃ v33 v34, cC p2 p1 p3 n v33 v34 = some r ∧ s = mk [(0, J2 0), A6 1 p1, A6 2 p2, (3, G9 p3.Rules), A6 8 v33] [(0, E7 v34)] 1) n _ (zv [(0, 0)] [0, 1, 2, 3, 8] 1) ⟨_, _, h, rfl⟩ (fun s ⟨v33, v34, h, _⟩ => nomatch h) ?_
 rintro n s ⟨v33, v34, h, rfl⟩
 rw [cC] at h
 refine aI ?_
 refine za [0, 1, 2, 3, 8, 14] ?_
 refine zi h (fun h => ?_) fun h => ?_
 refine aB ?_
 refine aQ h (fun A j => ∀ v66, j v66 = some r → A (mk [(0, J2 0), A6 1 p1, A6 2 p2, (3, G9 p3.Rules), A6 8 v33] [(0, E7 v66)] 1)) (fun v66 h => ?_) (fun j35 Aj35 hj35 h => ?_)
 refine aW ?_
 refine zb ?_
 exact dF (zv [(0, 0)] [0, 1, 2, 3, 8] 1) (⟨_, _, h, rfl⟩)
 refine aG ?_
 refine za [0, 1, 2, 3, 8, 9] ?_
 refine aG ?_
 refine bA (fun n s => ∃ v49 v50, cD p1 p3 j35 p2 v33 n v49 v50 = some r ∧ s = mk [(0, J2 0), A6 1 p1, A6 2 p2, (3, G9 p3.Rules), A6 8 v33, A6 9 v49] [(0, E7 v50)] 1) n _ (zv [(0, 0)] [0, 1, 2, 3, 8, 9] 1) ⟨_, _, h, rfl⟩ (fun s ⟨v49, v50, h, _⟩ => nomatch h) ?_
 rintro n s ⟨v49, v50, h, rfl⟩
 rw [cD] at h
 refine aI ?_
 refine xI [[], [], [0, 1], [2, 0, 1], [3, 2, 0, 1], [3, 2, 0, 1], [3, 2, 0, 1], [5, 6, 3, 2, 0, 1], [7, 3, 5, 6, 2, 0, 1], [3, 2, 0, 1], [3, 2, 0, 1], [10, 3, 2, 0, 1], [9, 11, 3, 2, 0, 1, 10], [12, 3, 9, 11, 2, 0, 1, 10], [4, 8, 13, 3, 2, 0, 1, 7, 5, 6, 12, 9, 11, 10], [14, 3, 4, 8, 13, 2, 0, 1, 7, 5, 6, 12, 9, 11, 10], [3, 15, 2, 0, 1, 14, 4, 8, 13, 7, 5, 6, 12, 9, 11, 10]] fun _ => ?_
 refine zk 4 ?_
 refine zE (G9 p3.Rules) ?_
 refine zE (J2 0) ?_
 refine zE (B7 v49) ?_
 obtain ⟨k51, he, h⟩ := aC h
 refine jZ (e := [D5 v49 p1]) [(23, J2 0, some 1), (24, B7 v49, some 1)] (v := .c (.ptr 0 (k51 * 1))) (foot := [0]) (by kernel_rfl) (by kernel_rfl) (by kernel_rfl) (fun hg => rO (enc := aN) (l := v50) (n := 0) (sz := 1) (k := k51) (ix := v49) (bR he hg) (by kernel_rfl)) rfl rfl ?_
 clear he
 obtain ⟨e52, he, h⟩ := aC h
 refine Fg (e := [D5 v49 p1]) [(25, .c (.ptr 0 (k51 * 1)), some 1)] (v := .c (I e52)) (foot := [0]) (by kernel_rfl) (by kernel_rfl) (by kernel_rfl) (fun hg => Dq (enc := aN) (l := v50) (n := 0) (q := k51) (f := 0) (sz := 1) (e := e52) (j := ⟨.int .i64, 1, 8, [.int .i64 0]⟩) (bR he hg) (by kernel_rfl) (by kernel_rfl)) rfl rfl ?_
 clear he
 refine zE (J2 0) ?_
 refine zE (B7 v49) ?_
 refine zE (B7 (F5 v49)) ?_
 obtain ⟨k53, he, h⟩ := aC h
 refine jZ (e := [D5 v49 p1]) [(27, J2 0, some 1), (29, B7 (F5 v49), some 1)] (v := .c (.ptr 0 (k53 * 1))) (foot := [0]) (by kernel_rfl) (by kernel_rfl) (by kernel_rfl) (fun hg => rO (enc := aN) (l := v50) (n := 0) (sz := 1) (k := k53) (ix := (F5 v49)) (bR he hg) (by kernel_rfl)) rfl rfl ?_
 clear he
 obtain ⟨e54, he, h⟩ := aC h
 refine Fg (e := [D5 v49 p1]) [(30, .c (.ptr 0 (k53 * 1)), some 1)] (v := .c (I e54)) (foot := [0]) (by kernel_rfl) (by kernel_rfl) (by kernel_rfl) (fun hg => Dq (enc := aN) (l := v50) (n := 0) (q := k53) (f := 0) (sz := 1) (e := e54) (j := ⟨.int .i64, 1, 8, [.int .i64 0]⟩) (bR he hg) (by kernel_rfl) (by kernel_rfl)) rfl rfl ?_
 clear he
 obtain ⟨y55, he, h⟩ := aC h
 refine rx_EO (e := [D5 v49 p1]) [(22, G9 p3.Rules, some 1), (26, B7 e52, some 1), (31, B7 e54, some 1)] (v := .c (I y55)) (foot := []) (by kernel_rfl) (by kernel_rfl) (by kernel_rfl) (fun hg => Tl (F := 38) (As := [B7 e52, B7 e54, .c (.imm [C5 p3.Rules])]) (Bs := [B7 e52, B7 e54, .c (.imm [C5 p3.Rules])]) (r := .c (I y55)) (v := .c (I y55)) (by kernel_rfl) fok38 (by kernel_rfl) (xT n _ _ _ y55 (bR he hg)) (by kernel_rfl)) rfl rfl ?_
 clear he
 refine zE (H9 y55 0) ?_
 refine zP (.bool ((D5 v49 p1) && (C1 y55 0))) ?_
 refine jY [0, 1, 2, 3, 8, 9, 34] (L2 := [(0, J2 0), A6 1 p1, A6 2 p2, (3, G9 p3.Rules), A6 8 v33, A6 9 v49, (34, B3 ((D5 v49 p1) && (C1 y55 0)))]) (G2 := [(0, E7 v50)]) 18 ?_
 refine zi h (fun h => ?_) fun h => ?_
 refine aB ?_
 refine aI ?_
 refine aG ?_
 refine Rg [[], [], [], [], [3], [], [], [6], [5, 7, 6], [8, 5, 7, 6], [], [], [10, 11], [12, 10, 11], [0, 1, 5, 6, 7, 8, 9, 13, 12, 10, 11], [14, 9, 0, 1, 5, 6, 7, 8, 13, 12, 10, 11], [2, 4, 0, 1, 3, 5, 6, 7, 8, 9, 10, 11, 12, 13, 14, 15], [16, 13, 15, 0, 1, 2, 3, 4, 5, 6, 7, 8, 9, 10, 11, 12, 14]] fun _ => ?_
 refine zk 8 ?_
 obtain ⟨k56, he, h⟩ := aC h
 refine cZ (v := .c (.ptr 0 (k56 * 1))) (foot := [0]) (rO (enc := aN) (l := v50) (n := 0) (sz := 1) (k := k56) (ix := (F5 v49)) he (by kernel_rfl)) (by kernel_rfl) rfl rfl ?_
 have hb_k56 := mR he; clear he
 obtain ⟨e57, he, h⟩ := aC h
 refine zw (v := .c (I e57)) [0] (Dq (enc := aN) (l := v50) (n := 0) (q := k56) (f := 0) (sz := 1) (e := e57) (j := ⟨.int .i64, 1, 8, [.int .i64 0]⟩) he (by kernel_rfl) (by kernel_rfl)) ?_
 clear he
 refine zk 2 ?_
 obtain ⟨k58, he, h⟩ := aC h
 refine cZ (v := .c (.ptr 0 (k58 * 1))) (foot := [0]) (rO (enc := aN) (l := v50) (n := 0) (sz := 1) (k := k58) (ix := v49) he (by kernel_rfl)) (by kernel_rfl) rfl rfl ?_
 have hb_k58 := mR he; clear he
 obtain ⟨e59, he, h⟩ := aC h
 refine zw (v := .c (I e59)) [0] (Dq (enc := aN) (l := v50) (n := 0) (q := k58) (f := 0) (sz := 1) (e := e59) (j := ⟨.int .i64, 1, 8, [.int .i64 0]⟩) he (by kernel_rfl) (by kernel_rfl)) ?_
 clear he
 obtain ⟨k60, he, h⟩ := aC h
 refine cZ (v := .c (.ptr 0 (k60 * 1))) (foot := [0]) (rO (enc := aN) (l := v50) (n := 0) (sz := 1) (k := k60) (ix := v49) he (by kernel_rfl)) (by kernel_rfl) rfl rfl ?_
 have hb_k60 := mR he; clear he
 obtain ⟨e61, he, h⟩ := aC h
 refine wS (enc := aN) (n := 0) (q := k60) (f := 0) (sz := 1) (T0 := 3) (lp := [I e57]) (l := v50) (e := e61) (e2 := e57) he (by kernel_rfl) (by simp only [List.length_cons, List.length_nil]; omega) (by kernel_rfl) (by kernel_rfl) rfl rfl ?_
 clear he
 obtain ⟨k62, he, h⟩ := aC h
 refine cZ (v := .c (.ptr 0 (k62 * 1))) (foot := [0]) (rO (enc := aN) (l := (List.set v50 k60 e57)) (n := 0) (sz := 1) (k := k62) (ix := (F5 v49)) he (by kernel_rfl)) (by kernel_rfl) rfl rfl ?_
 have hb_k62 := mR he; clear he
 obtain ⟨e63, he, h⟩ := aC h
 refine wS (enc := aN) (n := 0) (q := k62) (f := 0) (sz := 1) (T0 := 3) (lp := [I e59]) (l := (List.set v50 k60 e57)) (e := e63) (e2 := e59) he (by kernel_rfl) (by simp only [List.length_cons, List.length_nil]; omega) (by kernel_rfl) (by kernel_rfl) rfl rfl ?_
 clear he
 refine bV ?_
 refine aW ?_
 refine zb ?_
 exact dF (zv [(0, 0)] [0, 1, 2, 3, 8, 9] 1) (⟨_, _, h, rfl⟩)
 exact aH (zv [(0, 0)] [0, 1, 2, 3, 8] 1) (bG (hj35 _ h))
 cases h
 exact bG zr
def iE (v15 : Int) (p1 : Int) (j16 : Unit → Option (List Int)) (p2 : bK) (y12 : (List Int)) : Nat → Unit → Option (List Int)
 | 0, _ => none
 | n + 1, _ => (if (decide ((IntKind.wrap .i64 (2 * v15)) ≤ p1)) = true then none else j16 ())
def cU (p1 : Int) (p2 : bK) (y12 : (List Int)) : Nat → Int → Option (List Int)
 | 0, _ => none
 | n + 1, v15 => (if (decide (v15 < p1)) = true then (aS (fun (_ : Unit) => (aS (fun (_ : Unit) => cU p1 p2 y12 n (IntKind.wrap .i64 (v15 * 2))) (fun (j17 : Unit → Option (List Int)) => (if (decide ((IntKind.wrap .i64 (0 + v15)) < p1)) = true then none else j17 ())))) (fun (j16 : Unit → Option (List Int)) => iE v15 p1 j16 p2 y12 n ())) else some y12)
def cN (p1 : Int) (p2 : bK) (j1 : Int → List Int → Option (List Int)) : Nat → Int → Int → List Int → Option (List Int)
 | 0, _, _, _ => none
 | n + 1, v3, v4, v5 => (if (decide (v4 ≤ p1)) = true then (cL n v5 v3 v4 p2).bind fun (y6 : (List Int)) => cN p1 p2 j1 n v4 (IntKind.wrap .i64 (v4 + 20)) y6 else j1 v3 v5)
def gL  (n : Nat) (p0 : (List Int)) (p1 : Int) (p2 : bK) : Option (List Int) := (aS (fun (v10 : Int) (v11 : List Int) => (cL n v11 v10 p1 p2).bind fun (y12 : (List Int)) => cU p1 p2 y12 n 20) (fun (j1 : Int → List Int → Option (List Int)) => cN p1 p2 j1 n 0 20 p0))
theorem pX  (n : Nat) (p0 : (K3)) (p1 : Int) (p2 : bK) (r : (K3)) (h : gL n p0 p1 p2 = some r) : cW E 71 1 [J2 0, B7 p1, G9 p2.Rules] [(0, E7 p0)] (.tup []) [(0, E7 r)] := by
 refine eV Tryz.func71 rfl ?_
 unfold gL at h
 refine za [0, 1, 2, 6] ?_
 refine za [0, 1, 2, 6, 7, 8] ?_
 refine aQ h (fun A j => ∀ v10 v11, j v10 v11 = some r → A (mk [(0, J2 0), A6 1 p1, (2, G9 p2.Rules), (6, .c (I 20)), A6 7 v10] [(0, E7 v11)] 1)) (fun v10 v11 h => ?_) (fun j1 Aj1 hj1 h => ?_)
 refine zx fun _ => ?_
 refine zk 4 ?_
 obtain ⟨y12, he, h⟩ := aC h
 refine zo [(0, 0)] Wa (iO n _ _ _ _ y12 he) ?_
 clear he
 refine ze [0, 1, 2, 6] ?_
 refine aG ?_
 refine bA (fun n s => ∃ v15, cU p1 p2 y12 n v15 = some r ∧ s = mk [(0, J2 0), A6 1 p1, (2, G9 p2.Rules), A6 6 v15] [(0, E7 y12)] 1) n _ (zv [(0, 0)] [0, 1, 2, 6] 1) ⟨_, h, rfl⟩ (fun s ⟨v15, h, _⟩ => nomatch h) ?_
 rintro n s ⟨v15, h, rfl⟩
 rw [cU] at h
 refine aI ?_
 refine za [0, 1, 2, 6, 30] ?_
 refine zi h (fun h => ?_) fun h => ?_
 refine aB ?_
 refine aG ?_
 refine za [0, 1, 2, 6, 7, 8] ?_
 refine aQ h (fun A j => ∀ u, j u = some r → A (mk [(0, J2 0), A6 1 p1, (2, G9 p2.Rules), A6 6 v15, I5 7] [(0, E7 y12)] 1)) (fun u h => ?_) (fun j16 Aj16 hj16 h => ?_)
 refine aQ h (fun A j => ∀ u, j u = some r → A (mk [(0, J2 0), A6 1 p1, (2, G9 p2.Rules), A6 6 v15] [(0, E7 y12)] 1)) (fun u h => ?_) (fun j17 Aj17 hj17 h => ?_)
 refine aW ?_
 refine zb ?_
 exact dF (zv [(0, 0)] [0, 1, 2, 6] 1) (⟨_, h, rfl⟩)
 refine za [0, 1, 2, 6, 7, 9] ?_
 refine za [0, 1, 2, 6, 7, 9, 54] ?_
 refine zi h (fun h => ?_) fun h => ?_
 cases h
 exact aH (zv [(0, 0)] [0, 1, 2, 6] 1) (aB (hj17 _ h))
 refine aG ?_
 refine bA (fun n s => ∃ u, iE v15 p1 j16 p2 y12 n u = some r ∧ s = mk [(0, J2 0), A6 1 p1, (2, G9 p2.Rules), A6 6 v15, I5 7, A6 8 (IntKind.wrap .i64 (2 * v15))] [(0, E7 y12)] 1) n _ (zv [(0, 0)] [0, 1, 2, 6, 7, 8] 1) ⟨(), h, rfl⟩ (fun s ⟨u, h, _⟩ => nomatch h) ?_
 rintro n s ⟨u, h, rfl⟩
 rw [iE] at h
 refine aI ?_
 refine za [0, 1, 2, 6, 7, 8, 35] ?_
 refine zi h (fun h => ?_) fun h => ?_
 refine aB ?_
 refine aG ?_
 cases h
 exact aH (zv [(0, 0)] [0, 1, 2, 6, 7] 1) (bG (hj16 _ h))
 cases h
 exact bG zr
 refine aG ?_
 refine bA (fun n s => ∃ v3 v4 v5, cN p1 p2 j1 n v3 v4 v5 = some r ∧ s = mk [(0, J2 0), A6 1 p1, (2, G9 p2.Rules), (6, .c (I 20)), A6 7 v3, A6 8 v4] [(0, E7 v5)] 1) n _ (zv [(0, 0)] [0, 1, 2, 6, 7, 8] 1) ⟨_, _, _, h, rfl⟩ (fun s ⟨v3, v4, v5, h, _⟩ => nomatch h) ?_
 rintro n s ⟨v3, v4, v5, h, rfl⟩
 rw [cN] at h
 refine aI ?_
 refine za [0, 1, 2, 6, 7, 8, 13] ?_
 refine zi h (fun h => ?_) fun h => ?_
 refine aB ?_
 refine aG ?_
 refine zx fun _ => ?_
 refine zk 4 ?_
 obtain ⟨y6, he, h⟩ := aC h
 refine zo [(0, 0)] Wa (iO n _ _ _ _ y6 he) ?_
 clear he
 refine ze [0, 1, 2, 6, 8] ?_
 refine za [0, 1, 2, 6, 7, 8] ?_
 refine aW ?_
 refine zb ?_
 exact dF (zv [(0, 0)] [0, 1, 2, 6, 7, 8] 1) (⟨_, _, _, h, rfl⟩)
 exact aH (zv [(0, 0)] [0, 1, 2, 6, 7] 1) (bG (hj1 _ _ h))
def dE  (n : Nat) (p0 : (List Int)) (p1 : bK) : Option (List Int) := (gL n p0 (List.length p0 : Int) p1).bind fun (y1 : (List Int)) => some y1
theorem oD  (n : Nat) (p0 : (K3)) (p1 : bK) (r : (K3)) (h : dE n p0 p1 = some r) : cW E 37 1 [J2 0, G9 p1.Rules] [(0, E7 p0)] (.tup []) [(0, E7 r)] := by
 refine eV Tryz.func37 rfl ?_
 unfold dE at h
 refine zy fun _ => ?_
 refine zk 2 ?_
 refine cZ (v := .c (I (List.length p0 : Int))) (foot := [0]) (Kp (enc := aN) (l := p0) (n := 0) (by kernel_rfl)) (by kernel_rfl) rfl rfl ?_
 refine zk 1 ?_
 obtain ⟨y1, he, h⟩ := aC h
 refine zo [(0, 0)] fok71 (pX n _ _ _ y1 he) ?_
 clear he
 refine bV ?_
 cases h
 exact zr
def tM  (n : Nat) (p0 : bB) : Option ((List (Int × aR)) × Bool) := (mE n p0).bind fun (y1 : ((List (Int × aR)) × aL × Int)) => some (y1.1, (y1.2.2 == 0))
theorem Hz  (n : Nat) (p0 : bB) (r : ((M4) × Bool)) (h : tM n p0 = some r) : cW E 73 0 [C0 p0] [] (.tup [O7 r.1, B3 r.2]) [] := by
 refine eV Tryz.func73 rfl ?_
 unfold tM at h
 refine za [1] ?_
 refine zx fun _ => ?_
 refine zk 1 ?_
 obtain ⟨y1, he, h⟩ := aC h
 refine zc fok57 (uP n _ y1 he) ?_
 clear he
 refine zk 8 ?_
 refine ze [4, 6] ?_
 refine za [2, 3] ?_
 cases h
 exact aD zr
def qT  (n : Nat) (p0 : bB) : Option (List Int) := (tM n p0).bind fun (y1 : ((List (Int × aR)) × Bool)) => (if (!y1.2) = true then some ([] : List Int) else (fA n y1.1 p0.Root).bind fun (y2 : (List Int)) => some y2)
theorem He  (n : Nat) (p0 : bB) (r : (K3)) (h : qT n p0 = some r) : cW E 41 0 [C0 p0] [] (.c (D4 r)) [] := by
 refine eV Tryz.func41 rfl ?_
 unfold qT at h
 refine za [1] ?_
 refine zx fun _ => ?_
 refine zk 1 ?_
 obtain ⟨y1, he, h⟩ := aC h
 refine zc fok73 (Hz n _ y1 he) ?_
 clear he
 refine zk 5 ?_
 refine ze [1, 3, 4] ?_
 refine aI ?_
 refine za [1, 3, 11] ?_
 refine zi h (fun h => ?_) fun h => ?_
 refine za [2] ?_
 cases h
 exact aD zr
 refine aB ?_
 refine zx fun _ => ?_
 refine zk 3 ?_
 obtain ⟨y2, he, h⟩ := aC h
 refine zc Yo (sS n _ _ y2 he) ?_
 clear he
 refine zk 1 ?_
 refine ze [2] ?_
 cases h
 exact aD zr
def iS (p1 : bZ) (p0 : jJ) (j1 : Unit → Option Bool) : Nat → Bool → Int → Int → Int → ByteArray → List bF → List cR → List Int → Option Bool
 | 0, _, _, _, _, _, _, _, _ => none
 | n + 1, v6, v7, v8, v9, v10, v11, v12, v13 => (if v6 = true then (gd [((p1.UnderKind == 0) || (v9 == p1.UnderKind)), (!(bQ p1.UnderClass (⟨#[]⟩ : ByteArray)))] (some (eO v7 p0.class_, kU v7 p0.class_))).bind fun (y14 : (ByteArray × Bool)) => (if (((p1.UnderKind == 0) || (v9 == p1.UnderKind)) && ((bQ p1.UnderClass (⟨#[]⟩ : ByteArray)) || (bQ y14.1 p1.UnderClass))) = true then some true else (some (eO v8 p0.nodes, kU v8 p0.nodes)).bind fun (y15 : (aR × Bool)) => iS p1 p0 j1 n y15.2 y15.1.ID y15.1.Parent y15.1.Kind y15.1.Key y15.1.Attrs y15.1.Actions y15.1.Kids) else j1 ())
def nG  (n : Nat) (p0 : jJ) (p1 : bZ) (p2 : Int) : Option Bool := (if ((p1.UnderKind == 0) && (bQ p1.UnderClass (⟨#[]⟩ : ByteArray))) = true then some true else (aS (fun (_ : Unit) => some false) (fun (j1 : Unit → Option Bool) => (some (eO p2 p0.nodes, kU p2 p0.nodes)).bind fun (y2 : (aR × Bool)) => (some (eO y2.1.Parent p0.nodes, kU y2.1.Parent p0.nodes)).bind fun (y3 : (aR × Bool)) => iS p1 p0 j1 n y3.2 y3.1.ID y3.1.Parent y3.1.Kind y3.1.Key y3.1.Attrs y3.1.Actions y3.1.Kids)))
theorem El  (n : Nat) (p0 : jJ) (p1 : bZ) (p2 : Int) (r : Bool) (h : nG n p0 p1 p2 = some r) : cW E 86 0 [L8 p0, D7 p1, B7 p2] [] (B3 r) [] := by
 refine eV Tryz.func86 rfl ?_
 unfold nG at h
 refine za [2, 3, 4] ?_
 refine aI ?_
 refine zx fun _ => ?_
 refine zk 4 ?_
 refine zE (B9 1 4) ?_
 refine zE (F0 p1.UnderClass) ?_
 refine zE (.c (Bo (bQ p1.UnderClass (⟨#[]⟩ : ByteArray)))) ?_
 refine zn (L2 := [A6 2 p2, I6, H8, A1 9 1 3, A6 10 p1.UnderKind, (11, B3 (p1.UnderKind == 0)), (12, B3 (p1.UnderKind == 0)), (13, .cnd [p1.UnderKind == 0] (B9 1 4)), (14, .cnd [p1.UnderKind == 0] (F0 p1.UnderClass)), (15, .cnd [p1.UnderKind == 0] (.c (Bo (bQ p1.UnderClass (⟨#[]⟩ : ByteArray)))))]) (G2 := [B6 p0, K5 1 p1]) (X2 := []) ?_
 refine zP (.bool ((p1.UnderKind == 0) && (bQ p1.UnderClass (⟨#[]⟩ : ByteArray)))) ?_
 refine ze [2, 3, 4, 16] ?_
 refine zi h (fun h => ?_) fun h => ?_
 refine za [6] ?_
 cases h
 exact aD zr
 refine aB ?_
 refine aQ h (fun A j => ∀ u, j u = some r → A (N7)) (fun u h => ?_) (fun j1 Aj1 hj1 h => ?_)
 refine za [6] ?_
 cases h
 exact aD zr
 refine zx fun _ => ?_
 refine zk 5 ?_
 obtain ⟨y2, he, h⟩ := aC h
 refine zw (v := .agg [I y2.1.ID, I y2.1.Parent, I y2.1.Kind, Sx y2.1.Key, C7 y2.1.Attrs, D3 y2.1.Actions, D4 y2.1.Kids]) [] (dK (kf := (B4)) (enc := aE) (l := p0.nodes) (k := p2) (ok := false) (kk := .int .i64) (j := ⟨.st [(3, 0, 1), (3, 1, 1), (3, 2, 1), (9, 3, 1), (55, 4, 1), (56, 5, 1), (22, 6, 1)], 7, 112, [.int .i64 0, .int .i64 0, .int .i64 0, .string ⟨#[]⟩, .slice none 0 0, .slice none 0 0, .slice none 0 0]⟩) (p := y2) (v := .agg [I y2.1.ID, I y2.1.Parent, I y2.1.Kind, Sx y2.1.Key, C7 y2.1.Attrs, D3 y2.1.Actions, D4 y2.1.Kids]) he (by kernel_rfl) iD (by kernel_rfl) (by kernel_rfl) (by kernel_rfl)) ?_
 clear he
 refine zk 1 ?_
 obtain ⟨y3, he, h⟩ := aC h
 refine zw (v := .tup [B5 y3.1, B3 y3.2]) [] (dK (kf := (B4)) (enc := aE) (l := p0.nodes) (k := y2.1.Parent) (ok := true) (kk := .int .i64) (j := ⟨.st [(3, 0, 1), (3, 1, 1), (3, 2, 1), (9, 3, 1), (55, 4, 1), (56, 5, 1), (22, 6, 1)], 7, 112, [.int .i64 0, .int .i64 0, .int .i64 0, .string ⟨#[]⟩, .slice none 0 0, .slice none 0 0, .slice none 0 0]⟩) (p := y3) (v := .agg [I y3.1.ID, I y3.1.Parent, I y3.1.Kind, Sx y3.1.Key, C7 y3.1.Attrs, D3 y3.1.Actions, D4 y3.1.Kids]) he (by kernel_rfl) iD (by kernel_rfl) (by kernel_rfl) (by kernel_rfl)) ?_
 clear he
 refine zn (L2 := [A6 2 p2, I6, H8, (16, .c (Bo ((p1.UnderKind == 0) && (bQ p1.UnderClass (⟨#[]⟩ : ByteArray))))), A1 18 0 0, (19, O7 p0.nodes), A1 20 0 0, (21, O7 p0.nodes), A6 22 p2, (23, B5 y2.1), A6 24 y2.1.Parent, (25, .tup [B5 y3.1, B3 y3.2])]) (G2 := [B6 p0, K5 1 p1]) (X2 := []) ?_
 refine zk 6 ?_
 refine ze [3, 4, 7, 8] ?_
 refine aG ?_
 refine bA (fun n s => ∃ v6 v7 v8 v9 v10 v11 v12 v13, iS p1 p0 j1 n v6 v7 v8 v9 v10 v11 v12 v13 = some r ∧ s = mk [I6, H8, A1 7 2 0, J3 8 v6] [B6 p0, K5 1 p1, (2, K0 v7 v8 v9 v10 v11 v12 v13)] 3) n _ (zv [(0, 0), (1, 1), (22, 2)] [3, 4, 7, 8] 3) ⟨_, _, _, _, _, _, _, _, h, rfl⟩ (fun s ⟨v6, v7, v8, v9, v10, v11, v12, v13, h, _⟩ => nomatch h) ?_
 rintro n s ⟨v6, v7, v8, v9, v10, v11, v12, v13, h, rfl⟩
 rw [iS] at h
 refine aI ?_
 refine za [3, 4, 7, 28] ?_
 refine zi h (fun h => ?_) fun h => ?_
 refine aB ?_
 refine aI ?_
 refine aG ?_
 refine zx fun _ => ?_
 refine zk 4 ?_
 refine zE (B9 2 2) ?_
 refine zE (B7 v9) ?_
 refine zE (B9 1 3) ?_
 refine zn (L2 := [I6, H8, A1 7 2 0, J3 28 v6, A1 37 1 3, A6 38 p1.UnderKind, (39, B3 (p1.UnderKind == 0)), (40, B3 (p1.UnderKind == 0)), (41, .cnd [!(p1.UnderKind == 0)] (B9 2 2)), (42, .cnd [!(p1.UnderKind == 0)] (B7 v9)), (43, .cnd [!(p1.UnderKind == 0)] (B9 1 3))]) (G2 := [B6 p0, K5 1 p1, (2, K0 v7 v8 v9 v10 v11 v12 v13)]) (X2 := []) ?_
 refine zE (B7 p1.UnderKind) ?_
 refine zE (B3 (v9 == p1.UnderKind)) ?_
 refine zP (.bool ((p1.UnderKind == 0) || (v9 == p1.UnderKind))) ?_
 refine zk 1 ?_
 refine zE (B9 1 4) ?_
 refine zn (L2 := [I6, H8, A1 7 2 0, J3 28 v6, A1 37 1 3, A6 38 p1.UnderKind, (39, B3 (p1.UnderKind == 0)), (40, B3 (p1.UnderKind == 0)), (41, .cnd [!(p1.UnderKind == 0)] (B9 2 2)), (42, .cnd [!(p1.UnderKind == 0)] (B7 v9)), (43, .cnd [!(p1.UnderKind == 0)] (B9 1 3)), (44, .cnd [!(p1.UnderKind == 0)] (B7 p1.UnderKind)), (45, .cnd [!(p1.UnderKind == 0)] (B3 (v9 == p1.UnderKind))), (46, B3 ((p1.UnderKind == 0) || (v9 == p1.UnderKind))), (47, B3 ((p1.UnderKind == 0) || (v9 == p1.UnderKind))), (48, .cnd [(p1.UnderKind == 0) || (v9 == p1.UnderKind)] (B9 1 4))]) (G2 := [B6 p0, K5 1 p1, (2, K0 v7 v8 v9 v10 v11 v12 v13)]) (X2 := []) ?_
 refine zE (F0 p1.UnderClass) ?_
 refine zE (.c (Bo (bQ p1.UnderClass (⟨#[]⟩ : ByteArray)))) ?_
 refine zF [(p1.UnderKind == 0) || (v9 == p1.UnderKind)] (.c (Bo (bQ p1.UnderClass (⟨#[]⟩ : ByteArray)))) ?_
 refine zE (B9 0 1) ?_
 refine zE (.c (E2 p0.class_)) ?_
 refine zn (L2 := [I6, H8, A1 7 2 0, J3 28 v6, A1 37 1 3, A6 38 p1.UnderKind, (39, B3 (p1.UnderKind == 0)), (40, B3 (p1.UnderKind == 0)), (41, .cnd [!(p1.UnderKind == 0)] (B9 2 2)), (42, .cnd [!(p1.UnderKind == 0)] (B7 v9)), (43, .cnd [!(p1.UnderKind == 0)] (B9 1 3)), (44, .cnd [!(p1.UnderKind == 0)] (B7 p1.UnderKind)), (45, .cnd [!(p1.UnderKind == 0)] (B3 (v9 == p1.UnderKind))), (46, B3 ((p1.UnderKind == 0) || (v9 == p1.UnderKind))), (47, B3 ((p1.UnderKind == 0) || (v9 == p1.UnderKind))), (48, .cnd [(p1.UnderKind == 0) || (v9 == p1.UnderKind)] (B9 1 4)), (49, .cnd [(p1.UnderKind == 0) || (v9 == p1.UnderKind)] (F0 p1.UnderClass)), (50, .cnd [(p1.UnderKind == 0) || (v9 == p1.UnderKind)] (.c (Bo (bQ p1.UnderClass (⟨#[]⟩ : ByteArray))))), (51, .cnd [(p1.UnderKind == 0) || (v9 == p1.UnderKind)] (.c (Bo (bQ p1.UnderClass (⟨#[]⟩ : ByteArray))))), (52, .cnd [(p1.UnderKind == 0) || (v9 == p1.UnderKind), (!(bQ p1.UnderClass (⟨#[]⟩ : ByteArray)))] (B9 0 1)), (53, .cnd [(p1.UnderKind == 0) || (v9 == p1.UnderKind), (!(bQ p1.UnderClass (⟨#[]⟩ : ByteArray)))] (.c (E2 p0.class_)))]) (G2 := [B6 p0, K5 1 p1, (2, K0 v7 v8 v9 v10 v11 v12 v13)]) (X2 := []) ?_
 refine zE (B9 2 0) ?_
 refine zE (B7 v7) ?_
 obtain ⟨y14, he, h⟩ := aC h
 refine Fg (e := [(p1.UnderKind == 0) || (v9 == p1.UnderKind), (!(bQ p1.UnderClass (⟨#[]⟩ : ByteArray)))]) [(53, .c (E2 p0.class_), some 2), (55, B7 v7, some 2)] (v := .c (Sx y14.1)) (foot := []) (by kernel_rfl) (by kernel_rfl) (by kernel_rfl) (fun hg => dK (kf := (B4)) (enc := eS) (l := p0.class_) (k := v7) (ok := false) (kk := .int .i64) (j := ⟨.str, 1, 16, [.string ⟨#[]⟩]⟩) (p := y14) (v := .c (Sx y14.1)) (bR he hg) (by kernel_rfl) iD (by kernel_rfl) (by kernel_rfl) (by kernel_rfl)) rfl rfl ?_
 clear he
 refine zE (B9 1 4) ?_
 refine zE (F0 p1.UnderClass) ?_
 refine zn (L2 := [I6, H8, A1 7 2 0, J3 28 v6, A1 37 1 3, A6 38 p1.UnderKind, (39, B3 (p1.UnderKind == 0)), (40, B3 (p1.UnderKind == 0)), (41, .cnd [!(p1.UnderKind == 0)] (B9 2 2)), (42, .cnd [!(p1.UnderKind == 0)] (B7 v9)), (43, .cnd [!(p1.UnderKind == 0)] (B9 1 3)), (44, .cnd [!(p1.UnderKind == 0)] (B7 p1.UnderKind)), (45, .cnd [!(p1.UnderKind == 0)] (B3 (v9 == p1.UnderKind))), (46, B3 ((p1.UnderKind == 0) || (v9 == p1.UnderKind))), (47, B3 ((p1.UnderKind == 0) || (v9 == p1.UnderKind))), (48, .cnd [(p1.UnderKind == 0) || (v9 == p1.UnderKind)] (B9 1 4)), (49, .cnd [(p1.UnderKind == 0) || (v9 == p1.UnderKind)] (F0 p1.UnderClass)), (50, .cnd [(p1.UnderKind == 0) || (v9 == p1.UnderKind)] (.c (Bo (bQ p1.UnderClass (⟨#[]⟩ : ByteArray))))), (51, .cnd [(p1.UnderKind == 0) || (v9 == p1.UnderKind)] (.c (Bo (bQ p1.UnderClass (⟨#[]⟩ : ByteArray))))), (52, .cnd [(p1.UnderKind == 0) || (v9 == p1.UnderKind), (!(bQ p1.UnderClass (⟨#[]⟩ : ByteArray)))] (B9 0 1)), (53, .cnd [(p1.UnderKind == 0) || (v9 == p1.UnderKind), (!(bQ p1.UnderClass (⟨#[]⟩ : ByteArray)))] (.c (E2 p0.class_))), (54, .cnd [(p1.UnderKind == 0) || (v9 == p1.UnderKind), (!(bQ p1.UnderClass (⟨#[]⟩ : ByteArray)))] (B9 2 0)), (55, .cnd [(p1.UnderKind == 0) || (v9 == p1.UnderKind), (!(bQ p1.UnderClass (⟨#[]⟩ : ByteArray)))] (B7 v7)), (56, .cnd [(p1.UnderKind == 0) || (v9 == p1.UnderKind), (!(bQ p1.UnderClass (⟨#[]⟩ : ByteArray)))] (F0 y14.1)), (57, .cnd [(p1.UnderKind == 0) || (v9 == p1.UnderKind), (!(bQ p1.UnderClass (⟨#[]⟩ : ByteArray)))] (B9 1 4)), (58, .cnd [(p1.UnderKind == 0) || (v9 == p1.UnderKind), (!(bQ p1.UnderClass (⟨#[]⟩ : ByteArray)))] (F0 p1.UnderClass))]) (G2 := [B6 p0, K5 1 p1, (2, K0 v7 v8 v9 v10 v11 v12 v13)]) (X2 := []) ?_
 refine zE (B3 (bQ y14.1 p1.UnderClass)) ?_
 refine zP (.bool ((bQ p1.UnderClass (⟨#[]⟩ : ByteArray)) || (bQ y14.1 p1.UnderClass))) ?_
 refine zP (.bool (((p1.UnderKind == 0) || (v9 == p1.UnderKind)) && ((bQ p1.UnderClass (⟨#[]⟩ : ByteArray)) || (bQ y14.1 p1.UnderClass)))) ?_
 refine ze [3, 4, 7, 61] ?_
 refine zi h (fun h => ?_) fun h => ?_
 refine za [6] ?_
 cases h
 exact aD zr
 refine aB ?_
 refine aI ?_
 refine za [3, 4, 62] ?_
 refine zb ?_
 refine aW ?_
 refine zy fun _ => ?_
 refine zk 4 ?_
 obtain ⟨y15, he, h⟩ := aC h
 refine zw (v := .tup [B5 y15.1, B3 y15.2]) [] (dK (kf := (B4)) (enc := aE) (l := p0.nodes) (k := v8) (ok := true) (kk := .int .i64) (j := ⟨.st [(3, 0, 1), (3, 1, 1), (3, 2, 1), (9, 3, 1), (55, 4, 1), (56, 5, 1), (22, 6, 1)], 7, 112, [.int .i64 0, .int .i64 0, .int .i64 0, .string ⟨#[]⟩, .slice none 0 0, .slice none 0 0, .slice none 0 0]⟩) (p := y15) (v := .agg [I y15.1.ID, I y15.1.Parent, I y15.1.Kind, Sx y15.1.Key, C7 y15.1.Attrs, D3 y15.1.Actions, D4 y15.1.Kids]) he (by kernel_rfl) iD (by kernel_rfl) (by kernel_rfl) (by kernel_rfl)) ?_
 clear he
 refine zn (L2 := [I6, H8, (62, .agg [I v7, I v8, I v9, Sx v10, C7 v11, D3 v12, D4 v13]), A1 7 30 0, A1 30 0 0, (31, O7 p0.nodes), A1 32 30 1, A6 33 v8, (34, .tup [B5 y15.1, B3 y15.2])]) (G2 := [B6 p0, K5 1 p1, (2, K0 v7 v8 v9 v10 v11 v12 v13), (30, K0 v7 v8 v9 v10 v11 v12 v13)]) (X2 := []) ?_
 refine zk 5 ?_
 refine bV ?_
 exact dF (zv [(0, 0), (1, 1), (30, 2)] [3, 4, 7, 8] 3) (⟨_, _, _, _, _, _, _, _, h, rfl⟩)
 exact aH (zv [] [] 0) (bG (hj1 _ h))
def lA  (n : Nat) (p0 : jJ) (p1 : bZ) (p2 : Int) : Option Bool := (gd [(p1.Kind != 0)] (some (eO p2 p0.nodes, kU p2 p0.nodes))).bind fun (y1 : (aR × Bool)) => (gd [(!((p1.Kind != 0) && (p1.Kind != y1.1.Kind))), (!(bQ p1.Class (⟨#[]⟩ : ByteArray)))] (some (eO p2 p0.class_, kU p2 p0.class_))).bind fun (y2 : (ByteArray × Bool)) => (if (((p1.Kind != 0) && (p1.Kind != y1.1.Kind)) || ((!(bQ p1.Class (⟨#[]⟩ : ByteArray))) && (!(bQ p1.Class y2.1)))) = true then some false else (some (eO p2 p0.states, kU p2 p0.states)).bind fun (y3 : (Int × Bool)) => (gd [((jW .i64 y3.1 p1.States) == p1.States)] (nG n p0 p1 p2)).bind fun (y4 : Bool) => some (((jW .i64 y3.1 p1.States) == p1.States) && y4))
theorem Bx  (n : Nat) (p0 : jJ) (p1 : bZ) (p2 : Int) (r : Bool) (h : lA n p0 p1 p2 = some r) : cW E 51 0 [L8 p0, D7 p1, B7 p2] [] (B3 r) [] := by
 refine eV Tryz.func51 rfl ?_
 unfold lA at h
 refine za [2, 3, 4] ?_
 refine aI ?_
 refine zx fun _ => ?_
 refine zk 4 ?_
 refine zE (B9 1 0) ?_
 refine zE (B7 p1.Kind) ?_
 refine zE (B9 0 0) ?_
 refine zn (L2 := [A6 2 p2, I6, H8, A1 7 1 0, A6 8 p1.Kind, (9, B3 (p1.Kind != 0)), (10, B3 (p1.Kind != 0)), (11, .cnd [p1.Kind != 0] (B9 1 0)), (12, .cnd [p1.Kind != 0] (B7 p1.Kind)), (13, .cnd [p1.Kind != 0] (B9 0 0))]) (G2 := [B6 p0, K5 1 p1]) (X2 := []) ?_
 refine zE (O7 p0.nodes) ?_
 refine zE (B7 p2) ?_
 obtain ⟨y1, he, h⟩ := aC h
 refine Fg (e := [p1.Kind != 0]) [(14, O7 p0.nodes, some 1), (15, B7 p2, some 1)] (v := .agg [I y1.1.ID, I y1.1.Parent, I y1.1.Kind, Sx y1.1.Key, C7 y1.1.Attrs, D3 y1.1.Actions, D4 y1.1.Kids]) (foot := []) (by kernel_rfl) (by kernel_rfl) (by kernel_rfl) (fun hg => dK (kf := (B4)) (enc := aE) (l := p0.nodes) (k := p2) (ok := false) (kk := .int .i64) (j := ⟨.st [(3, 0, 1), (3, 1, 1), (3, 2, 1), (9, 3, 1), (55, 4, 1), (56, 5, 1), (22, 6, 1)], 7, 112, [.int .i64 0, .int .i64 0, .int .i64 0, .string ⟨#[]⟩, .slice none 0 0, .slice none 0 0, .slice none 0 0]⟩) (p := y1) (v := .agg [I y1.1.ID, I y1.1.Parent, I y1.1.Kind, Sx y1.1.Key, C7 y1.1.Attrs, D3 y1.1.Actions, D4 y1.1.Kids]) (bR he hg) (by kernel_rfl) iD (by kernel_rfl) (by kernel_rfl) (by kernel_rfl)) rfl rfl ?_
 clear he
 refine zE (B7 y1.1.Kind) ?_
 refine zE (B3 (p1.Kind != y1.1.Kind)) ?_
 refine zn (L2 := [A6 2 p2, I6, H8, A1 7 1 0, A6 8 p1.Kind, (9, B3 (p1.Kind != 0)), (10, B3 (p1.Kind != 0)), (11, .cnd [p1.Kind != 0] (B9 1 0)), (12, .cnd [p1.Kind != 0] (B7 p1.Kind)), (13, .cnd [p1.Kind != 0] (B9 0 0)), (14, .cnd [p1.Kind != 0] (O7 p0.nodes)), (15, .cnd [p1.Kind != 0] (B7 p2)), (16, .cnd [p1.Kind != 0] (B5 y1.1)), (17, .cnd [p1.Kind != 0] (B7 y1.1.Kind)), (18, .cnd [p1.Kind != 0] (B3 (p1.Kind != y1.1.Kind)))]) (G2 := [B6 p0, K5 1 p1]) (X2 := []) ?_
 refine zP (.bool ((p1.Kind != 0) && (p1.Kind != y1.1.Kind))) ?_
 refine zk 1 ?_
 refine zE (B9 1 1) ?_
 refine zE (F0 p1.Class) ?_
 refine zE (.c (Bo (!(bQ p1.Class (⟨#[]⟩ : ByteArray))))) ?_
 refine zn (L2 := [A6 2 p2, I6, H8, A1 7 1 0, A6 8 p1.Kind, (9, B3 (p1.Kind != 0)), (10, B3 (p1.Kind != 0)), (11, .cnd [p1.Kind != 0] (B9 1 0)), (12, .cnd [p1.Kind != 0] (B7 p1.Kind)), (13, .cnd [p1.Kind != 0] (B9 0 0)), (14, .cnd [p1.Kind != 0] (O7 p0.nodes)), (15, .cnd [p1.Kind != 0] (B7 p2)), (16, .cnd [p1.Kind != 0] (B5 y1.1)), (17, .cnd [p1.Kind != 0] (B7 y1.1.Kind)), (18, .cnd [p1.Kind != 0] (B3 (p1.Kind != y1.1.Kind))), (19, B3 ((p1.Kind != 0) && (p1.Kind != y1.1.Kind))), (20, B3 ((p1.Kind != 0) && (p1.Kind != y1.1.Kind))), (21, .cnd [!((p1.Kind != 0) && (p1.Kind != y1.1.Kind))] (B9 1 1)), (22, .cnd [!((p1.Kind != 0) && (p1.Kind != y1.1.Kind))] (F0 p1.Class)), (23, .cnd [!((p1.Kind != 0) && (p1.Kind != y1.1.Kind))] (.c (Bo (!(bQ p1.Class (⟨#[]⟩ : ByteArray))))))]) (G2 := [B6 p0, K5 1 p1]) (X2 := []) ?_
 refine zF [!((p1.Kind != 0) && (p1.Kind != y1.1.Kind))] (.c (Bo (!(bQ p1.Class (⟨#[]⟩ : ByteArray))))) ?_
 refine zE (B9 1 1) ?_
 refine zE (F0 p1.Class) ?_
 refine zE (B9 0 1) ?_
 refine zE (.c (E2 p0.class_)) ?_
 refine zn (L2 := [A6 2 p2, I6, H8, A1 7 1 0, A6 8 p1.Kind, (9, B3 (p1.Kind != 0)), (10, B3 (p1.Kind != 0)), (11, .cnd [p1.Kind != 0] (B9 1 0)), (12, .cnd [p1.Kind != 0] (B7 p1.Kind)), (13, .cnd [p1.Kind != 0] (B9 0 0)), (14, .cnd [p1.Kind != 0] (O7 p0.nodes)), (15, .cnd [p1.Kind != 0] (B7 p2)), (16, .cnd [p1.Kind != 0] (B5 y1.1)), (17, .cnd [p1.Kind != 0] (B7 y1.1.Kind)), (18, .cnd [p1.Kind != 0] (B3 (p1.Kind != y1.1.Kind))), (19, B3 ((p1.Kind != 0) && (p1.Kind != y1.1.Kind))), (20, B3 ((p1.Kind != 0) && (p1.Kind != y1.1.Kind))), (21, .cnd [!((p1.Kind != 0) && (p1.Kind != y1.1.Kind))] (B9 1 1)), (22, .cnd [!((p1.Kind != 0) && (p1.Kind != y1.1.Kind))] (F0 p1.Class)), (23, .cnd [!((p1.Kind != 0) && (p1.Kind != y1.1.Kind))] (.c (Bo (!(bQ p1.Class (⟨#[]⟩ : ByteArray)))))), (24, .cnd [!((p1.Kind != 0) && (p1.Kind != y1.1.Kind))] (.c (Bo (!(bQ p1.Class (⟨#[]⟩ : ByteArray)))))), (25, .cnd [!((p1.Kind != 0) && (p1.Kind != y1.1.Kind)), (!(bQ p1.Class (⟨#[]⟩ : ByteArray)))] (B9 1 1)), (26, .cnd [!((p1.Kind != 0) && (p1.Kind != y1.1.Kind)), (!(bQ p1.Class (⟨#[]⟩ : ByteArray)))] (F0 p1.Class)), (27, .cnd [!((p1.Kind != 0) && (p1.Kind != y1.1.Kind)), (!(bQ p1.Class (⟨#[]⟩ : ByteArray)))] (B9 0 1)), (28, .cnd [!((p1.Kind != 0) && (p1.Kind != y1.1.Kind)), (!(bQ p1.Class (⟨#[]⟩ : ByteArray)))] (.c (E2 p0.class_)))]) (G2 := [B6 p0, K5 1 p1]) (X2 := []) ?_
 refine zE (B7 p2) ?_
 obtain ⟨y2, he, h⟩ := aC h
 refine Fg (e := [!((p1.Kind != 0) && (p1.Kind != y1.1.Kind)), (!(bQ p1.Class (⟨#[]⟩ : ByteArray)))]) [(28, .c (E2 p0.class_), some 2), (29, B7 p2, some 2)] (v := .c (Sx y2.1)) (foot := []) (by kernel_rfl) (by kernel_rfl) (by kernel_rfl) (fun hg => dK (kf := (B4)) (enc := eS) (l := p0.class_) (k := p2) (ok := false) (kk := .int .i64) (j := ⟨.str, 1, 16, [.string ⟨#[]⟩]⟩) (p := y2) (v := .c (Sx y2.1)) (bR he hg) (by kernel_rfl) iD (by kernel_rfl) (by kernel_rfl) (by kernel_rfl)) rfl rfl ?_
 clear he
 refine zE (B3 (!(bQ p1.Class y2.1))) ?_
 refine zP (.bool ((!(bQ p1.Class (⟨#[]⟩ : ByteArray))) && (!(bQ p1.Class y2.1)))) ?_
 refine zP (.bool (((p1.Kind != 0) && (p1.Kind != y1.1.Kind)) || ((!(bQ p1.Class (⟨#[]⟩ : ByteArray))) && (!(bQ p1.Class y2.1))))) ?_
 refine ze [2, 3, 4, 33] ?_
 refine zi h (fun h => ?_) fun h => ?_
 refine za [6] ?_
 cases h
 exact aD zr
 refine aB ?_
 refine zx fun _ => ?_
 refine Wp 3 (L' := [A6 2 p2, I6, H8, (33, .c (Bo (((p1.Kind != 0) && (p1.Kind != y1.1.Kind)) || ((!(bQ p1.Class (⟨#[]⟩ : ByteArray))) && (!(bQ p1.Class y2.1)))))), A1 34 0 2, (35, .c (F1 p0.states)), A6 36 p2]) (G' := [B6 p0, K5 1 p1]) (X' := []) ?_
 obtain ⟨y3, he, h⟩ := aC h
 refine zw (v := .c (I y3.1)) [] (dK (kf := (B4)) (enc := aN) (l := p0.states) (k := p2) (ok := false) (kk := .int .i64) (j := ⟨.int .i64, 1, 8, [.int .i64 0]⟩) (p := y3) (v := .c (I y3.1)) he (by kernel_rfl) iD (by kernel_rfl) (by kernel_rfl) (by kernel_rfl)) ?_
 clear he
 refine zk 7 ?_
 refine zE (L8 p0) ?_
 refine zE (D7 p1) ?_
 refine zE (B7 p2) ?_
 refine zn (L2 := [A6 2 p2, I6, H8, (33, .c (Bo (((p1.Kind != 0) && (p1.Kind != y1.1.Kind)) || ((!(bQ p1.Class (⟨#[]⟩ : ByteArray))) && (!(bQ p1.Class y2.1)))))), A1 34 0 2, (35, .c (F1 p0.states)), A6 36 p2, A6 37 y3.1, A1 38 1 2, A6 39 p1.States, A6 40 (O4 y3.1 p1.States), A1 41 1 2, A6 42 p1.States, (43, B3 ((O4 y3.1 p1.States) == p1.States)), (44, B3 ((O4 y3.1 p1.States) == p1.States)), (45, .cnd [(O4 y3.1 p1.States) == p1.States] (L8 p0)), (46, .cnd [(O4 y3.1 p1.States) == p1.States] (D7 p1)), (47, .cnd [(O4 y3.1 p1.States) == p1.States] (B7 p2))]) (G2 := [B6 p0, K5 1 p1]) (X2 := []) ?_
 obtain ⟨y4, he, h⟩ := aC h
 refine An [(O4 y3.1 p1.States) == p1.States] fok86 (fun hg => El n _ _ _ y4 (bR he hg)) ?_
 clear he
 refine zP (.bool (((O4 y3.1 p1.States) == p1.States) && y4)) ?_
 refine zk 1 ?_
 refine ze [6] ?_
 cases h
 exact aD zr
def gU (p0 : bS) (p2 : ByteArray) (p1 : cQ) (j1 : Unit → Option (Int × Bool)) : Nat → Int → Option (Int × Bool)
 | 0, _ => none
 | n + 1, v3 => (if (decide (v3 < (List.length p0.Tokens : Int))) = true then (idx p0.Tokens v3).bind fun (e4 : dL) => (if (!(bQ e4.Name p2)) = true then gU p0 p2 p1 j1 n (IntKind.wrap .i64 (v3 + 1)) else (if (p1.High && p1.Dark) = true then some (e4.HighDark, true) else (if p1.High = true then some (e4.HighLight, true) else (if p1.Dark = true then some (e4.Dark, true) else some (e4.Light, true))))) else j1 ())
def oH  (n : Nat) (p0 : bS) (p1 : cQ) (p2 : ByteArray) : Option (Int × Bool) := (aS (fun (_ : Unit) => some (0, false)) (fun (j1 : Unit → Option (Int × Bool)) => gU p0 p2 p1 j1 n 0))
theorem Cu  (n : Nat) (p0 : bS) (p1 : cQ) (p2 : ByteArray) (r : (Int × Bool)) (h : oH n p0 p1 p2 = some r) : cW E 105 0 [.agg [F8 p0.Tokens], F9 p1, F0 p2] [] (.tup [B7 r.1, B3 r.2]) [] := by
 refine eV Tryz.func105 rfl ?_
 unfold oH at h
 refine za [2, 3, 4] ?_
 refine aQ h (fun A j => ∀ u, j u = some r → A (N7)) (fun u h => ?_) (fun j1 Aj1 hj1 h => ?_)
 refine za [6, 7] ?_
 cases h
 exact aD zr
 refine zx fun _ => ?_
 refine zk 2 ?_
 refine zl bH p0.Tokens ?_
 refine zk 1 ?_
 refine ze [2, 4, 11, 12, 13] ?_
 refine aG ?_
 refine bA (fun n s => ∃ v3, gU p0 p2 p1 j1 n v3 = some r ∧ s = mk [(2, F0 p2), I7, (11, .c (F8 p0.Tokens)), (12, .c (I (List.length p0.Tokens : Int))), A6 13 v3] [(0, C6 p1)] 1) n _ (zv [(1, 0)] [2, 4, 11, 12, 13] 1) ⟨_, h, rfl⟩ (fun s ⟨v3, h, _⟩ => nomatch h) ?_
 rintro n s ⟨v3, h, rfl⟩
 rw [gU] at h
 refine za [2, 4, 11, 12, 13, 14] ?_
 refine aI ?_
 refine zi h (fun h => ?_) fun h => ?_
 refine aB ?_
 refine aI ?_
 refine aG ?_
 refine zx fun _ => ?_
 obtain ⟨e4, he, h⟩ := aC h
 refine zd bH he ?_
 clear he
 refine zk 3 ?_
 refine ze [2, 4, 9, 11, 12, 13] ?_
 refine aI ?_
 refine za [2, 4, 9, 11, 12, 13, 20] ?_
 refine zi h (fun h => ?_) fun h => ?_
 refine bG ?_
 refine aW ?_
 refine zb ?_
 exact dF (zv [(0, 0)] [2, 4, 11, 12, 13] 1) (⟨_, h, rfl⟩)
 refine aB ?_
 refine aI ?_
 refine aG ?_
 refine zx fun _ => ?_
 refine zk 3 ?_
 refine zE (B9 0 0) ?_
 refine zE (B3 p1.Dark) ?_
 refine zP (.bool (p1.High && p1.Dark)) ?_
 refine zk 1 ?_
 refine ze [4, 9, 21] ?_
 refine zi h (fun h => ?_) fun h => ?_
 refine za [6, 7] ?_
 cases h
 exact aD zr
 refine za [4, 9, 30] ?_
 refine zi h (fun h => ?_) fun h => ?_
 refine za [6, 7] ?_
 cases h
 exact aD zr
 refine za [9, 35] ?_
 refine zi h (fun h => ?_) fun h => ?_
 refine za [6, 7] ?_
 cases h
 exact aD zr
 refine aB ?_
 refine za [6, 7] ?_
 cases h
 exact aD zr
 exact aH (zv [] [] 0) (bG (hj1 _ h))
end Go.Proofs.YtojkihhnioeggaaGreatDoor.S
