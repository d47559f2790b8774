import Derived.Test.YtojkihhnioeggaaGreatDoorQRGM6
set_option linter.unusedVariables false
set_option linter.unusedSimpArgs false
set_option maxRecDepth 100000
set_option maxHeartbeats 4000000
namespace Go.Proofs.YtojkihhnioeggaaGreatDoor.S
open Go Go.Bm
def bW (p1 : Int) (p3 : bE) (j35 : List Int → Option (List Int)) (p2 : Int) (v33 : Int) : Nat → Int → List Int → Option (List Int)
 | 0, _, _ => none
 | n + 1, v49, v50 => (gd [(decide (v49 > p1))] (uC v49 (List.length v50))).bind fun (k51 : Nat) => (gd [(decide (v49 > p1))] (v50[k51]?)).bind fun (e52 : Int) => (gd [(decide (v49 > p1))] (uC (IntKind.wrap .i64 (v49 - 1)) (List.length v50))).bind fun (k53 : Nat) => (gd [(decide (v49 > p1))] (v50[k53]?)).bind fun (e54 : Int) => (gd [(decide (v49 > p1))] (kG n e52 e54 p3)).bind fun (y55 : Int) => (if ((decide (v49 > p1)) && (decide (y55 < 0))) = true then (uC (IntKind.wrap .i64 (v49 - 1)) (List.length v50)).bind fun (k56 : Nat) => (v50[k56]?).bind fun (e57 : Int) => (uC v49 (List.length v50)).bind fun (k58 : Nat) => (v50[k58]?).bind fun (e59 : Int) => (uC v49 (List.length v50)).bind fun (k60 : Nat) => (v50[k60]?).bind fun (e61 : Int) => (uC (IntKind.wrap .i64 (v49 - 1)) (List.length (List.set v50 k60 e57))).bind fun (k62 : Nat) => ((List.set v50 k60 e57)[k62]?).bind fun (e63 : Int) => bW p1 p3 j35 p2 v33 n (IntKind.wrap .i64 (v49 - 1)) (List.set (List.set v50 k60 e57) k62 e59) else j35 v50)
def bV (p2 : Int) (p1 : Int) (p3 : bE) : Nat → Int → List Int → Option (List Int)
 | 0, _, _ => none
 | n + 1, v33, v34 => (if (decide (v33 < p2)) = true then (aR (fun (v66 : List Int) => bV p2 p1 p3 n (IntKind.wrap .i64 (v33 + 1)) v66) (fun (j35 : List Int → Option (List Int)) => bW p1 p3 j35 p2 v33 n v33 v34)) else some v34)
def cC  (n : Nat) (p0 : (List Int)) (p1 : Int) (p2 : Int) (p3 : bE) : Option (List Int) := bV p2 p1 p3 n (IntKind.wrap .i64 (p1 + 1)) p0
theorem hY  (n : Nat) (p0 : (K9)) (p1 : Int) (p2 : Int) (p3 : bE) (r : (K9)) (h : cC n p0 p1 p2 p3 = some r) : dJ E 102 1 [J1, A7 p1, A7 p2, G0 p3.Rules] [E7 p0] (.tup []) [E7 r] := by
 refine gY Tryz.func102 rfl ?_
 unfold cC at h
 refine za [0, 1, 2, 3, 8] ?_
 refine aI ?_
 refine bH (fun n s => ∃ v33 v34, bV p2 p1 p3 n v33 v34 = some r ∧ s = mk [(0, J1), C7 1 p1, C7 2 p2, (3, G0 p3.Rules), C7 8 v33] [E7 v34] 1) n _ (zv [(0, 0)] [0, 1, 2, 3, 8] 1) ⟨_, _, h, rfl⟩ (fun s ⟨v33, v34, h, _⟩ => nomatch h) ?_
 rintro n s ⟨v33, v34, h, rfl⟩
 rw [bV] at h
 refine aN ?_
 refine za [0, 1, 2, 3, 8, 14] ?_
 refine zi h (fun h => ?_) fun h => ?_
 refine aC ?_
 refine aV h (fun A j => ∀ v66, j v66 = some r → A (mk [(0, J1), C7 1 p1, C7 2 p2, (3, G0 p3.Rules), C7 8 v33] [E7 v66] 1)) (fun v66 h => ?_) (fun j35 Aj35 hj35 h => ?_)
 refine aY ?_
 refine zb ?_
 exact eU (zv [(0, 0)] [0, 1, 2, 3, 8] 1) (⟨_, _, h, rfl⟩)
 refine aI ?_
 refine za [0, 1, 2, 3, 8, 9] ?_
 refine aI ?_
 refine bH (fun n s => ∃ v49 v50, bW p1 p3 j35 p2 v33 n v49 v50 = some r ∧ s = mk [(0, J1), C7 1 p1, C7 2 p2, (3, G0 p3.Rules), C7 8 v33, C7 9 v49] [E7 v50] 1) n _ (zv [(0, 0)] [0, 1, 2, 3, 8, 9] 1) ⟨_, _, h, rfl⟩ (fun s ⟨v49, v50, h, _⟩ => nomatch h) ?_
 rintro n s ⟨v49, v50, h, rfl⟩
 rw [bW] at h
 refine aN ?_
 refine Fu [[], [], [0, 1], [2, 0, 1], [3, 2, 0, 1], [3, 2, 0, 1], [3, 2, 0, 1], [5, 6, 3, 2, 0, 1], [7, 3, 5, 6, 2, 0, 1], [3, 2, 0, 1], [3, 2, 0, 1], [10, 3, 2, 0, 1], [9, 11, 3, 2, 0, 1, 10], [12, 3, 9, 11, 2, 0, 1, 10], [4, 8, 13, 3, 2, 0, 1, 7, 5, 6, 12, 9, 11, 10], [14, 3, 4, 8, 13, 2, 0, 1, 7, 5, 6, 12, 9, 11, 10], [3, 15, 2, 0, 1, 14, 4, 8, 13, 7, 5, 6, 12, 9, 11, 10]] fun _ => ?_
 refine zk 4 ?_
 refine zE (G0 p3.Rules) ?_
 refine zE (J1) ?_
 refine zE (A7 v49) ?_
 obtain ⟨k51, he, h⟩ := aB h
 refine kR (e := [D7 v49 p1]) [(23, J1, some 1), (24, A7 v49, some 1)] (v := .c (.ptr 0 (k51 * 1))) (foot := [0]) (by kernel_rfl) (by kernel_rfl) (by kernel_rfl) (fun hg => rC (enc := aO) (l := v50) (n := 0) (sz := 1) (k := k51) (ix := v49) (cM he hg) (by kernel_rfl)) rfl rfl ?_
 clear he
 obtain ⟨e52, he, h⟩ := aB h
 refine Dz (e := [D7 v49 p1]) [(25, .c (.ptr 0 (k51 * 1)), some 1)] (v := .c (I e52)) (foot := [0]) (by kernel_rfl) (by kernel_rfl) (by kernel_rfl) (fun hg => Cm (enc := aO) (l := v50) (n := 0) (q := k51) (f := 0) (sz := 1) (e := e52) (j := ⟨.int .i64, 1, 8, [.int .i64 0]⟩) (cM he hg) (by kernel_rfl) (by kernel_rfl)) rfl rfl ?_
 clear he
 refine zE (J1) ?_
 refine zE (A7 v49) ?_
 refine zE (A7 (E9 v49)) ?_
 obtain ⟨k53, he, h⟩ := aB h
 refine kR (e := [D7 v49 p1]) [(27, J1, some 1), (29, A7 (E9 v49), some 1)] (v := .c (.ptr 0 (k53 * 1))) (foot := [0]) (by kernel_rfl) (by kernel_rfl) (by kernel_rfl) (fun hg => rC (enc := aO) (l := v50) (n := 0) (sz := 1) (k := k53) (ix := (E9 v49)) (cM he hg) (by kernel_rfl)) rfl rfl ?_
 clear he
 obtain ⟨e54, he, h⟩ := aB h
 refine Dz (e := [D7 v49 p1]) [(30, .c (.ptr 0 (k53 * 1)), some 1)] (v := .c (I e54)) (foot := [0]) (by kernel_rfl) (by kernel_rfl) (by kernel_rfl) (fun hg => Cm (enc := aO) (l := v50) (n := 0) (q := k53) (f := 0) (sz := 1) (e := e54) (j := ⟨.int .i64, 1, 8, [.int .i64 0]⟩) (cM he hg) (by kernel_rfl) (by kernel_rfl)) rfl rfl ?_
 clear he
 obtain ⟨y55, he, h⟩ := aB h
 refine rx_EO (e := [D7 v49 p1]) [(22, G0 p3.Rules, some 1), (26, A7 e52, some 1), (31, A7 e54, some 1)] (v := .c (I y55)) (foot := []) (by kernel_rfl) (by kernel_rfl) (by kernel_rfl) (fun hg => Rw (F := 38) (As := [A7 e52, A7 e54, .c (.imm [D4 p3.Rules])]) (Bs := [A7 e52, A7 e54, .c (.imm [D4 p3.Rules])]) (r := .c (I y55)) (v := .c (I y55)) (by kernel_rfl) fok38 (by kernel_rfl) (wU n _ _ _ y55 (cM he hg)) (by kernel_rfl)) rfl rfl ?_
 clear he
 refine zE (I6 y55 0) ?_
 refine zP (.bool ((D7 v49 p1) && (D3 y55 0))) ?_
 refine mF [0, 1, 2, 3, 8, 9, 34] (L2 := [(0, J1), C7 1 p1, C7 2 p2, (3, G0 p3.Rules), C7 8 v33, C7 9 v49, (34, B3 ((D7 v49 p1) && (D3 y55 0)))]) (G2 := [E7 v50]) 18 ?_
 refine zi h (fun h => ?_) fun h => ?_
 refine aC ?_
 refine aN ?_
 refine aI ?_
 refine Tm [[], [], [], [], [3], [], [], [6], [5, 7, 6], [8, 5, 7, 6], [], [], [10, 11], [12, 10, 11], [0, 1, 5, 6, 7, 8, 9, 13, 12, 10, 11], [14, 9, 0, 1, 5, 6, 7, 8, 13, 12, 10, 11], [2, 4, 0, 1, 3, 5, 6, 7, 8, 9, 10, 11, 12, 13, 14, 15], [16, 13, 15, 0, 1, 2, 3, 4, 5, 6, 7, 8, 9, 10, 11, 12, 14]] fun _ => ?_
 refine zk 8 ?_
 obtain ⟨k56, he, h⟩ := aB h
 refine dR (v := .c (.ptr 0 (k56 * 1))) (foot := [0]) (rC (enc := aO) (l := v50) (n := 0) (sz := 1) (k := k56) (ix := (E9 v49)) he (by kernel_rfl)) (by kernel_rfl) rfl rfl ?_
 have hb_k56 := nX he; clear he
 obtain ⟨e57, he, h⟩ := aB h
 refine zw (v := .c (I e57)) [0] (Cm (enc := aO) (l := v50) (n := 0) (q := k56) (f := 0) (sz := 1) (e := e57) (j := ⟨.int .i64, 1, 8, [.int .i64 0]⟩) he (by kernel_rfl) (by kernel_rfl)) ?_
 clear he
 refine zk 2 ?_
 obtain ⟨k58, he, h⟩ := aB h
 refine dR (v := .c (.ptr 0 (k58 * 1))) (foot := [0]) (rC (enc := aO) (l := v50) (n := 0) (sz := 1) (k := k58) (ix := v49) he (by kernel_rfl)) (by kernel_rfl) rfl rfl ?_
 have hb_k58 := nX he; clear he
 obtain ⟨e59, he, h⟩ := aB h
 refine zw (v := .c (I e59)) [0] (Cm (enc := aO) (l := v50) (n := 0) (q := k58) (f := 0) (sz := 1) (e := e59) (j := ⟨.int .i64, 1, 8, [.int .i64 0]⟩) he (by kernel_rfl) (by kernel_rfl)) ?_
 clear he
 obtain ⟨k60, he, h⟩ := aB h
 refine dR (v := .c (.ptr 0 (k60 * 1))) (foot := [0]) (rC (enc := aO) (l := v50) (n := 0) (sz := 1) (k := k60) (ix := v49) he (by kernel_rfl)) (by kernel_rfl) rfl rfl ?_
 have hb_k60 := nX he; clear he
 obtain ⟨e61, he, h⟩ := aB h
 refine vW (enc := aO) (n := 0) (q := k60) (f := 0) (sz := 1) (T0 := 3) (lp := [I e57]) (l := v50) (e := e61) (e2 := e57) he (by kernel_rfl) (by simp only [List.length_cons, List.length_nil]; omega) (by kernel_rfl) (by kernel_rfl) rfl rfl ?_
 clear he
 obtain ⟨k62, he, h⟩ := aB h
 refine dR (v := .c (.ptr 0 (k62 * 1))) (foot := [0]) (rC (enc := aO) (l := (List.set v50 k60 e57)) (n := 0) (sz := 1) (k := k62) (ix := (E9 v49)) he (by kernel_rfl)) (by kernel_rfl) rfl rfl ?_
 have hb_k62 := nX he; clear he
 obtain ⟨e63, he, h⟩ := aB h
 refine vW (enc := aO) (n := 0) (q := k62) (f := 0) (sz := 1) (T0 := 3) (lp := [I e59]) (l := (List.set v50 k60 e57)) (e := e63) (e2 := e59) he (by kernel_rfl) (by simp only [List.length_cons, List.length_nil]; omega) (by kernel_rfl) (by kernel_rfl) rfl rfl ?_
 clear he
 refine bY ?_
 refine aY ?_
 refine zb ?_
 exact eU (zv [(0, 0)] [0, 1, 2, 3, 8, 9] 1) (⟨_, _, h, rfl⟩)
 exact aJ (zv [(0, 0)] [0, 1, 2, 3, 8] 1) (bI (hj35 _ h))
 cases h
 exact bI zr
def gT (v15 : Int) (p1 : Int) (j16 : Unit → Option (List Int)) (p2 : bE) (y12 : (List Int)) : Nat → Unit → Option (List Int)
 | 0, _ => none
 | n + 1, _ => (if (decide ((IntKind.wrap .i64 (2 * v15)) ≤ p1)) = true then none else j16 ())
def cU (p1 : Int) (p2 : bE) (y12 : (List Int)) : Nat → Int → Option (List Int)
 | 0, _ => none
 | n + 1, v15 => (if (decide (v15 < p1)) = true then (aR (fun (_ : Unit) => (aR (fun (_ : Unit) => cU p1 p2 y12 n (IntKind.wrap .i64 (v15 * 2))) (fun (j17 : Unit → Option (List Int)) => (if (decide ((IntKind.wrap .i64 (0 + v15)) < p1)) = true then none else j17 ())))) (fun (j16 : Unit → Option (List Int)) => gT v15 p1 j16 p2 y12 n ())) else some y12)
def cH (p1 : Int) (p2 : bE) (j1 : Int → List Int → Option (List Int)) : Nat → Int → Int → List Int → Option (List Int)
 | 0, _, _, _ => none
 | n + 1, v3, v4, v5 => (if (decide (v4 ≤ p1)) = true then (cC n v5 v3 v4 p2).bind fun (y6 : (List Int)) => cH p1 p2 j1 n v4 (IntKind.wrap .i64 (v4 + 20)) y6 else j1 v3 v5)
def fY  (n : Nat) (p0 : (List Int)) (p1 : Int) (p2 : bE) : Option (List Int) := (aR (fun (v10 : Int) (v11 : List Int) => (cC n v11 v10 p1 p2).bind fun (y12 : (List Int)) => cU p1 p2 y12 n 20) (fun (j1 : Int → List Int → Option (List Int)) => cH p1 p2 j1 n 0 20 p0))
theorem pH  (n : Nat) (p0 : (K9)) (p1 : Int) (p2 : bE) (r : (K9)) (h : fY n p0 p1 p2 = some r) : dJ E 71 1 [J1, A7 p1, G0 p2.Rules] [E7 p0] (.tup []) [E7 r] := by
 refine gY Tryz.func71 rfl ?_
 unfold fY at h
 refine za [0, 1, 2, 6] ?_
 refine za [0, 1, 2, 6, 7, 8] ?_
 refine aV h (fun A j => ∀ v10 v11, j v10 v11 = some r → A (mk [(0, J1), C7 1 p1, (2, G0 p2.Rules), (6, .c (I 20)), C7 7 v10] [E7 v11] 1)) (fun v10 v11 h => ?_) (fun j1 Aj1 hj1 h => ?_)
 refine zx fun _ => ?_
 refine zk 4 ?_
 obtain ⟨y12, he, h⟩ := aB h
 refine zo [(0, 0)] Up (hY n _ _ _ _ y12 he) ?_
 clear he
 refine ze [0, 1, 2, 6] ?_
 refine aI ?_
 refine bH (fun n s => ∃ v15, cU p1 p2 y12 n v15 = some r ∧ s = mk [(0, J1), C7 1 p1, (2, G0 p2.Rules), C7 6 v15] [E7 y12] 1) n _ (zv [(0, 0)] [0, 1, 2, 6] 1) ⟨_, h, rfl⟩ (fun s ⟨v15, h, _⟩ => nomatch h) ?_
 rintro n s ⟨v15, h, rfl⟩
 rw [cU] at h
 refine aN ?_
 refine za [0, 1, 2, 6, 30] ?_
 refine zi h (fun h => ?_) fun h => ?_
 refine aC ?_
 refine aI ?_
 refine za [0, 1, 2, 6, 7, 8] ?_
 refine aV h (fun A j => ∀ u, j u = some r → A (mk [(0, J1), C7 1 p1, (2, G0 p2.Rules), C7 6 v15, I3 7] [E7 y12] 1)) (fun u h => ?_) (fun j16 Aj16 hj16 h => ?_)
 refine aV h (fun A j => ∀ u, j u = some r → A (mk [(0, J1), C7 1 p1, (2, G0 p2.Rules), C7 6 v15] [E7 y12] 1)) (fun u h => ?_) (fun j17 Aj17 hj17 h => ?_)
 refine aY ?_
 refine zb ?_
 exact eU (zv [(0, 0)] [0, 1, 2, 6] 1) (⟨_, h, rfl⟩)
 refine za [0, 1, 2, 6, 7, 9] ?_
 refine za [0, 1, 2, 6, 7, 9, 54] ?_
 refine zi h (fun h => ?_) fun h => ?_
 cases h
 exact aJ (zv [(0, 0)] [0, 1, 2, 6] 1) (aC (hj17 _ h))
 refine aI ?_
 refine bH (fun n s => ∃ u, gT v15 p1 j16 p2 y12 n u = some r ∧ s = mk [(0, J1), C7 1 p1, (2, G0 p2.Rules), C7 6 v15, I3 7, (8, A7 (IntKind.wrap .i64 (2 * v15)))] [E7 y12] 1) n _ (zv [(0, 0)] [0, 1, 2, 6, 7, 8] 1) ⟨(), h, rfl⟩ (fun s ⟨u, h, _⟩ => nomatch h) ?_
 rintro n s ⟨u, h, rfl⟩
 rw [gT] at h
 refine aN ?_
 refine za [0, 1, 2, 6, 7, 8, 35] ?_
 refine zi h (fun h => ?_) fun h => ?_
 refine aC ?_
 refine aI ?_
 cases h
 exact aJ (zv [(0, 0)] [0, 1, 2, 6, 7] 1) (bI (hj16 _ h))
 cases h
 exact bI zr
 refine aI ?_
 refine bH (fun n s => ∃ v3 v4 v5, cH p1 p2 j1 n v3 v4 v5 = some r ∧ s = mk [(0, J1), C7 1 p1, (2, G0 p2.Rules), (6, .c (I 20)), C7 7 v3, C7 8 v4] [E7 v5] 1) n _ (zv [(0, 0)] [0, 1, 2, 6, 7, 8] 1) ⟨_, _, _, h, rfl⟩ (fun s ⟨v3, v4, v5, h, _⟩ => nomatch h) ?_
 rintro n s ⟨v3, v4, v5, h, rfl⟩
 rw [cH] at h
 refine aN ?_
 refine za [0, 1, 2, 6, 7, 8, 13] ?_
 refine zi h (fun h => ?_) fun h => ?_
 refine aC ?_
 refine aI ?_
 refine zx fun _ => ?_
 refine zk 4 ?_
 obtain ⟨y6, he, h⟩ := aB h
 refine zo [(0, 0)] Up (hY n _ _ _ _ y6 he) ?_
 clear he
 refine ze [0, 1, 2, 6, 8] ?_
 refine za [0, 1, 2, 6, 7, 8] ?_
 refine aY ?_
 refine zb ?_
 exact eU (zv [(0, 0)] [0, 1, 2, 6, 7, 8] 1) (⟨_, _, _, h, rfl⟩)
 exact aJ (zv [(0, 0)] [0, 1, 2, 6, 7] 1) (bI (hj1 _ _ h))
def dB  (n : Nat) (p0 : (List Int)) (p1 : bE) : Option (List Int) := (fY n p0 (List.length p0 : Int) p1).bind fun (y1 : (List Int)) => some y1
theorem nM  (n : Nat) (p0 : (K9)) (p1 : bE) (r : (K9)) (h : dB n p0 p1 = some r) : dJ E 37 1 [J1, G0 p1.Rules] [E7 p0] (.tup []) [E7 r] := by
 refine gY Tryz.func37 rfl ?_
 unfold dB at h
 refine zy fun _ => ?_
 refine zk 2 ?_
 refine dR (v := .c (I (List.length p0 : Int))) (foot := [0]) (Qp (enc := aO) (l := p0) (n := 0) (by kernel_rfl)) (by kernel_rfl) rfl rfl ?_
 refine zk 1 ?_
 obtain ⟨y1, he, h⟩ := aB h
 refine zo [(0, 0)] fok71 (pH n _ _ _ y1 he) ?_
 clear he
 refine bY ?_
 cases h
 exact zr
def sV  (n : Nat) (p0 : bA) : Option ((List (Int × aP)) × Bool) := (lN n p0).bind fun (y1 : ((List (Int × aP)) × aG × Int)) => some (y1.1, (y1.2.2 == 0))
theorem Gq  (n : Nat) (p0 : bA) (r : ((J8) × Bool)) (h : sV n p0 = some r) : dJ E 73 0 [E2 p0] [] (.tup [L8 r.1, B3 r.2]) [] := by
 refine gY Tryz.func73 rfl ?_
 unfold sV at h
 refine za [1] ?_
 refine zx fun _ => ?_
 refine zk 1 ?_
 obtain ⟨y1, he, h⟩ := aB h
 refine zc aAm (tX n _ y1 he) ?_
 clear he
 refine zk 8 ?_
 refine ze [4, 6] ?_
 refine za [2, 3] ?_
 cases h
 exact aH zr
def qB  (n : Nat) (p0 : bA) : Option (List Int) := (sV n p0).bind fun (y1 : ((List (Int × aP)) × Bool)) => (if (!y1.2) = true then some ([] : List Int) else (eV n y1.1 p0.Root).bind fun (y2 : (List Int)) => some y2)
theorem Fv  (n : Nat) (p0 : bA) (r : (K9)) (h : qB n p0 = some r) : dJ E 41 0 [E2 p0] [] (.c (C1 r)) [] := by
 refine gY Tryz.func41 rfl ?_
 unfold qB at h
 refine za [1] ?_
 refine zx fun _ => ?_
 refine zk 1 ?_
 obtain ⟨y1, he, h⟩ := aB h
 refine zc fok73 (Gq n _ y1 he) ?_
 clear he
 refine zk 5 ?_
 refine ze [1, 3, 4] ?_
 refine aN ?_
 refine za [1, 3, 11] ?_
 refine zi h (fun h => ?_) fun h => ?_
 refine za [2] ?_
 cases h
 exact aH zr
 refine aC ?_
 refine zx fun _ => ?_
 refine zk 3 ?_
 obtain ⟨y2, he, h⟩ := aB h
 refine zc Xb (sG n _ _ y2 he) ?_
 clear he
 refine zk 1 ?_
 refine ze [2] ?_
 cases h
 exact aH zr
def iB (p1 : bT) (p0 : iY) (j1 : Unit → Option Bool) : Nat → Bool → Int → Int → Int → ByteArray → List aZ → List cN → List Int → Option Bool
 | 0, _, _, _, _, _, _, _, _ => none
 | n + 1, v6, v7, v8, v9, v10, v11, v12, v13 => (if v6 = true then (gd [((p1.UnderKind == 0) || (v9 == p1.UnderKind)), (!(cS p1.UnderClass (⟨#[]⟩ : ByteArray)))] (some (eN v7 p0.class_, jZ v7 p0.class_))).bind fun (y14 : (ByteArray × Bool)) => (if (((p1.UnderKind == 0) || (v9 == p1.UnderKind)) && ((cS p1.UnderClass (⟨#[]⟩ : ByteArray)) || (cS y14.1 p1.UnderClass))) = true then some true else (some (eN v8 p0.nodes, jZ v8 p0.nodes)).bind fun (y15 : (aP × Bool)) => iB p1 p0 j1 n y15.2 y15.1.ID y15.1.Parent y15.1.Kind y15.1.Key y15.1.Attrs y15.1.Actions y15.1.Kids) else j1 ())
def mO  (n : Nat) (p0 : iY) (p1 : bT) (p2 : Int) : Option Bool := (if ((p1.UnderKind == 0) && (cS p1.UnderClass (⟨#[]⟩ : ByteArray))) = true then some true else (aR (fun (_ : Unit) => some false) (fun (j1 : Unit → Option Bool) => (some (eN p2 p0.nodes, jZ p2 p0.nodes)).bind fun (y2 : (aP × Bool)) => (some (eN y2.1.Parent p0.nodes, jZ y2.1.Parent p0.nodes)).bind fun (y3 : (aP × Bool)) => iB p1 p0 j1 n y3.2 y3.1.ID y3.1.Parent y3.1.Kind y3.1.Key y3.1.Attrs y3.1.Actions y3.1.Kids)))
theorem Dg  (n : Nat) (p0 : iY) (p1 : bT) (p2 : Int) (r : Bool) (h : mO n p0 p1 p2 = some r) : dJ E 86 0 [J2 p0, E6 p1, A7 p2] [] (B3 r) [] := by
 refine gY Tryz.func86 rfl ?_
 unfold mO at h
 refine za [2, 3, 4] ?_
 refine aN ?_
 refine zx fun _ => ?_
 refine zk 4 ?_
 refine zE (C3 1 4) ?_
 refine zE (E5 p1.UnderClass) ?_
 refine zE (.c (Bo (cS p1.UnderClass (⟨#[]⟩ : ByteArray)))) ?_
 refine zn (L2 := [C7 2 p2, H1, H4, A2 9 1 3, C7 10 p1.UnderKind, (11, B3 (p1.UnderKind == 0)), (12, B3 (p1.UnderKind == 0)), (13, .cnd [p1.UnderKind == 0] (C3 1 4)), (14, .cnd [p1.UnderKind == 0] (E5 p1.UnderClass)), (15, .cnd [p1.UnderKind == 0] (.c (Bo (cS p1.UnderClass (⟨#[]⟩ : ByteArray)))))]) (G2 := [B0 p0, (1, A9 p1)]) (X2 := []) ?_
 refine zP (.bool ((p1.UnderKind == 0) && (cS p1.UnderClass (⟨#[]⟩ : ByteArray)))) ?_
 refine ze [2, 3, 4, 16] ?_
 refine zi h (fun h => ?_) fun h => ?_
 refine za [6] ?_
 cases h
 exact aH zr
 refine aC ?_
 refine aV h (fun A j => ∀ u, j u = some r → A (mk [] [] 0)) (fun u h => ?_) (fun j1 Aj1 hj1 h => ?_)
 refine za [6] ?_
 cases h
 exact aH zr
 refine zx fun _ => ?_
 refine zk 5 ?_
 obtain ⟨y2, he, h⟩ := aB h
 refine zw (v := .agg [I y2.1.ID, I y2.1.Parent, I y2.1.Kind, Sx y2.1.Key, B6 y2.1.Attrs, C0 y2.1.Actions, C1 y2.1.Kids]) [] (dH (kf := (A6)) (enc := aM) (l := p0.nodes) (k := p2) (ok := false) (kk := .int .i64) (j := ⟨.st [(3, 0, 1), (3, 1, 1), (3, 2, 1), (9, 3, 1), (55, 4, 1), (56, 5, 1), (22, 6, 1)], 7, 112, [.int .i64 0, .int .i64 0, .int .i64 0, .string ⟨#[]⟩, .slice none 0 0, .slice none 0 0, .slice none 0 0]⟩) (p := y2) (v := .agg [I y2.1.ID, I y2.1.Parent, I y2.1.Kind, Sx y2.1.Key, B6 y2.1.Attrs, C0 y2.1.Actions, C1 y2.1.Kids]) he (by kernel_rfl) gS (by kernel_rfl) (by kernel_rfl) (by kernel_rfl)) ?_
 clear he
 refine zk 1 ?_
 obtain ⟨y3, he, h⟩ := aB h
 refine zw (v := .tup [C8 y3.1, B3 y3.2]) [] (dH (kf := (A6)) (enc := aM) (l := p0.nodes) (k := y2.1.Parent) (ok := true) (kk := .int .i64) (j := ⟨.st [(3, 0, 1), (3, 1, 1), (3, 2, 1), (9, 3, 1), (55, 4, 1), (56, 5, 1), (22, 6, 1)], 7, 112, [.int .i64 0, .int .i64 0, .int .i64 0, .string ⟨#[]⟩, .slice none 0 0, .slice none 0 0, .slice none 0 0]⟩) (p := y3) (v := .agg [I y3.1.ID, I y3.1.Parent, I y3.1.Kind, Sx y3.1.Key, B6 y3.1.Attrs, C0 y3.1.Actions, C1 y3.1.Kids]) he (by kernel_rfl) gS (by kernel_rfl) (by kernel_rfl) (by kernel_rfl)) ?_
 clear he
 refine zn (L2 := [C7 2 p2, H1, H4, (16, .c (Bo ((p1.UnderKind == 0) && (cS p1.UnderClass (⟨#[]⟩ : ByteArray))))), A2 18 0 0, (19, L8 p0.nodes), A2 20 0 0, (21, L8 p0.nodes), C7 22 p2, (23, C8 y2.1), C7 24 y2.1.Parent, (25, .tup [C8 y3.1, B3 y3.2])]) (G2 := [B0 p0, (1, A9 p1)]) (X2 := []) ?_
 refine zk 6 ?_
 refine ze [3, 4, 7, 8] ?_
 refine aI ?_
 refine bH (fun n s => ∃ v6 v7 v8 v9 v10 v11 v12 v13, iB p1 p0 j1 n v6 v7 v8 v9 v10 v11 v12 v13 = some r ∧ s = mk [H1, H4, A2 7 2 0, (8, B3 v6)] [B0 p0, (1, A9 p1), (2, J3 v7 v8 v9 v10 v11 v12 v13)] 3) n _ (zv [(0, 0), (1, 1), (22, 2)] [3, 4, 7, 8] 3) ⟨_, _, _, _, _, _, _, _, h, rfl⟩ (fun s ⟨v6, v7, v8, v9, v10, v11, v12, v13, h, _⟩ => nomatch h) ?_
 rintro n s ⟨v6, v7, v8, v9, v10, v11, v12, v13, h, rfl⟩
 rw [iB] at h
 refine aN ?_
 refine za [3, 4, 7, 28] ?_
 refine zi h (fun h => ?_) fun h => ?_
 refine aC ?_
 refine aN ?_
 refine aI ?_
 refine zx fun _ => ?_
 refine zk 4 ?_
 refine zE (C3 2 2) ?_
 refine zE (A7 v9) ?_
 refine zE (C3 1 3) ?_
 refine zn (L2 := [H1, H4, A2 7 2 0, (28, B3 v6), A2 37 1 3, C7 38 p1.UnderKind, (39, B3 (p1.UnderKind == 0)), (40, B3 (p1.UnderKind == 0)), (41, .cnd [!(p1.UnderKind == 0)] (C3 2 2)), (42, .cnd [!(p1.UnderKind == 0)] (A7 v9)), (43, .cnd [!(p1.UnderKind == 0)] (C3 1 3))]) (G2 := [B0 p0, (1, A9 p1), (2, J3 v7 v8 v9 v10 v11 v12 v13)]) (X2 := []) ?_
 refine zE (A7 p1.UnderKind) ?_
 refine zE (B3 (v9 == p1.UnderKind)) ?_
 refine zP (.bool ((p1.UnderKind == 0) || (v9 == p1.UnderKind))) ?_
 refine zk 1 ?_
 refine zE (C3 1 4) ?_
 refine zn (L2 := [H1, H4, A2 7 2 0, (28, B3 v6), A2 37 1 3, C7 38 p1.UnderKind, (39, B3 (p1.UnderKind == 0)), (40, B3 (p1.UnderKind == 0)), (41, .cnd [!(p1.UnderKind == 0)] (C3 2 2)), (42, .cnd [!(p1.UnderKind == 0)] (A7 v9)), (43, .cnd [!(p1.UnderKind == 0)] (C3 1 3)), (44, .cnd [!(p1.UnderKind == 0)] (A7 p1.UnderKind)), (45, .cnd [!(p1.UnderKind == 0)] (B3 (v9 == p1.UnderKind))), (46, B3 ((p1.UnderKind == 0) || (v9 == p1.UnderKind))), (47, B3 ((p1.UnderKind == 0) || (v9 == p1.UnderKind))), (48, .cnd [(p1.UnderKind == 0) || (v9 == p1.UnderKind)] (C3 1 4))]) (G2 := [B0 p0, (1, A9 p1), (2, J3 v7 v8 v9 v10 v11 v12 v13)]) (X2 := []) ?_
 refine zE (E5 p1.UnderClass) ?_
 refine zE (.c (Bo (cS p1.UnderClass (⟨#[]⟩ : ByteArray)))) ?_
 refine zF [(p1.UnderKind == 0) || (v9 == p1.UnderKind)] (.c (Bo (cS p1.UnderClass (⟨#[]⟩ : ByteArray)))) ?_
 refine zE (C3 0 1) ?_
 refine zE (.c (D2 p0.class_)) ?_
 refine zn (L2 := [H1, H4, A2 7 2 0, (28, B3 v6), A2 37 1 3, C7 38 p1.UnderKind, (39, B3 (p1.UnderKind == 0)), (40, B3 (p1.UnderKind == 0)), (41, .cnd [!(p1.UnderKind == 0)] (C3 2 2)), (42, .cnd [!(p1.UnderKind == 0)] (A7 v9)), (43, .cnd [!(p1.UnderKind == 0)] (C3 1 3)), (44, .cnd [!(p1.UnderKind == 0)] (A7 p1.UnderKind)), (45, .cnd [!(p1.UnderKind == 0)] (B3 (v9 == p1.UnderKind))), (46, B3 ((p1.UnderKind == 0) || (v9 == p1.UnderKind))), (47, B3 ((p1.UnderKind == 0) || (v9 == p1.UnderKind))), (48, .cnd [(p1.UnderKind == 0) || (v9 == p1.UnderKind)] (C3 1 4)), (49, .cnd [(p1.UnderKind == 0) || (v9 == p1.UnderKind)] (E5 p1.UnderClass)), (50, .cnd [(p1.UnderKind == 0) || (v9 == p1.UnderKind)] (.c (Bo (cS p1.UnderClass (⟨#[]⟩ : ByteArray))))), (51, .cnd [(p1.UnderKind == 0) || (v9 == p1.UnderKind)] (.c (Bo (cS p1.UnderClass (⟨#[]⟩ : ByteArray))))), (52, .cnd [(p1.UnderKind == 0) || (v9 == p1.UnderKind), (!(cS p1.UnderClass (⟨#[]⟩ : ByteArray)))] (C3 0 1)), (53, .cnd [(p1.UnderKind == 0) || (v9 == p1.UnderKind), (!(cS p1.UnderClass (⟨#[]⟩ : ByteArray)))] (.c (D2 p0.class_)))]) (G2 := [B0 p0, (1, A9 p1), (2, J3 v7 v8 v9 v10 v11 v12 v13)]) (X2 := []) ?_
 refine zE (C3 2 0) ?_
 refine zE (A7 v7) ?_
 obtain ⟨y14, he, h⟩ := aB h
 refine Dz (e := [(p1.UnderKind == 0) || (v9 == p1.UnderKind), (!(cS p1.UnderClass (⟨#[]⟩ : ByteArray)))]) [(53, .c (D2 p0.class_), some 2), (55, A7 v7, some 2)] (v := .c (Sx y14.1)) (foot := []) (by kernel_rfl) (by kernel_rfl) (by kernel_rfl) (fun hg => dH (kf := (A6)) (enc := eS) (l := p0.class_) (k := v7) (ok := false) (kk := .int .i64) (j := ⟨.str, 1, 16, [.string ⟨#[]⟩]⟩) (p := y14) (v := .c (Sx y14.1)) (cM he hg) (by kernel_rfl) gS (by kernel_rfl) (by kernel_rfl) (by kernel_rfl)) rfl rfl ?_
 clear he
 refine zE (C3 1 4) ?_
 refine zE (E5 p1.UnderClass) ?_
 refine zn (L2 := [H1, H4, A2 7 2 0, (28, B3 v6), A2 37 1 3, C7 38 p1.UnderKind, (39, B3 (p1.UnderKind == 0)), (40, B3 (p1.UnderKind == 0)), (41, .cnd [!(p1.UnderKind == 0)] (C3 2 2)), (42, .cnd [!(p1.UnderKind == 0)] (A7 v9)), (43, .cnd [!(p1.UnderKind == 0)] (C3 1 3)), (44, .cnd [!(p1.UnderKind == 0)] (A7 p1.UnderKind)), (45, .cnd [!(p1.UnderKind == 0)] (B3 (v9 == p1.UnderKind))), (46, B3 ((p1.UnderKind == 0) || (v9 == p1.UnderKind))), (47, B3 ((p1.UnderKind == 0) || (v9 == p1.UnderKind))), (48, .cnd [(p1.UnderKind == 0) || (v9 == p1.UnderKind)] (C3 1 4)), (49, .cnd [(p1.UnderKind == 0) || (v9 == p1.UnderKind)] (E5 p1.UnderClass)), (50, .cnd [(p1.UnderKind == 0) || (v9 == p1.UnderKind)] (.c (Bo (cS p1.UnderClass (⟨#[]⟩ : ByteArray))))), (51, .cnd [(p1.UnderKind == 0) || (v9 == p1.UnderKind)] (.c (Bo (cS p1.UnderClass (⟨#[]⟩ : ByteArray))))), (52, .cnd [(p1.UnderKind == 0) || (v9 == p1.UnderKind), (!(cS p1.UnderClass (⟨#[]⟩ : ByteArray)))] (C3 0 1)), (53, .cnd [(p1.UnderKind == 0) || (v9 == p1.UnderKind), (!(cS p1.UnderClass (⟨#[]⟩ : ByteArray)))] (.c (D2 p0.class_))), (54, .cnd [(p1.UnderKind == 0) || (v9 == p1.UnderKind), (!(cS p1.UnderClass (⟨#[]⟩ : ByteArray)))] (C3 2 0)), (55, .cnd [(p1.UnderKind == 0) || (v9 == p1.UnderKind), (!(cS p1.UnderClass (⟨#[]⟩ : ByteArray)))] (A7 v7)), (56, .cnd [(p1.UnderKind == 0) || (v9 == p1.UnderKind), (!(cS p1.UnderClass (⟨#[]⟩ : ByteArray)))] (E5 y14.1)), (57, .cnd [(p1.UnderKind == 0) || (v9 == p1.UnderKind), (!(cS p1.UnderClass (⟨#[]⟩ : ByteArray)))] (C3 1 4)), (58, .cnd [(p1.UnderKind == 0) || (v9 == p1.UnderKind), (!(cS p1.UnderClass (⟨#[]⟩ : ByteArray)))] (E5 p1.UnderClass))]) (G2 := [B0 p0, (1, A9 p1), (2, J3 v7 v8 v9 v10 v11 v12 v13)]) (X2 := []) ?_
 refine zE (B3 (cS y14.1 p1.UnderClass)) ?_
 refine zP (.bool ((cS p1.UnderClass (⟨#[]⟩ : ByteArray)) || (cS y14.1 p1.UnderClass))) ?_
 refine zP (.bool (((p1.UnderKind == 0) || (v9 == p1.UnderKind)) && ((cS p1.UnderClass (⟨#[]⟩ : ByteArray)) || (cS y14.1 p1.UnderClass)))) ?_
 refine ze [3, 4, 7, 61] ?_
 refine zi h (fun h => ?_) fun h => ?_
 refine za [6] ?_
 cases h
 exact aH zr
 refine aC ?_
 refine aN ?_
 refine za [3, 4, 62] ?_
 refine zb ?_
 refine aY ?_
 refine zy fun _ => ?_
 refine zk 4 ?_
 obtain ⟨y15, he, h⟩ := aB h
 refine zw (v := .tup [C8 y15.1, B3 y15.2]) [] (dH (kf := (A6)) (enc := aM) (l := p0.nodes) (k := v8) (ok := true) (kk := .int .i64) (j := ⟨.st [(3, 0, 1), (3, 1, 1), (3, 2, 1), (9, 3, 1), (55, 4, 1), (56, 5, 1), (22, 6, 1)], 7, 112, [.int .i64 0, .int .i64 0, .int .i64 0, .string ⟨#[]⟩, .slice none 0 0, .slice none 0 0, .slice none 0 0]⟩) (p := y15) (v := .agg [I y15.1.ID, I y15.1.Parent, I y15.1.Kind, Sx y15.1.Key, B6 y15.1.Attrs, C0 y15.1.Actions, C1 y15.1.Kids]) he (by kernel_rfl) gS (by kernel_rfl) (by kernel_rfl) (by kernel_rfl)) ?_
 clear he
 refine zn (L2 := [H1, H4, (62, .agg [I v7, I v8, I v9, Sx v10, B6 v11, C0 v12, C1 v13]), A2 7 30 0, A2 30 0 0, (31, L8 p0.nodes), A2 32 30 1, C7 33 v8, (34, .tup [C8 y15.1, B3 y15.2])]) (G2 := [B0 p0, (1, A9 p1), (2, J3 v7 v8 v9 v10 v11 v12 v13), (30, J3 v7 v8 v9 v10 v11 v12 v13)]) (X2 := []) ?_
 refine zk 5 ?_
 refine bY ?_
 exact eU (zv [(0, 0), (1, 1), (30, 2)] [3, 4, 7, 8] 3) (⟨_, _, _, _, _, _, _, _, h, rfl⟩)
 exact aJ (zv [] [] 0) (bI (hj1 _ h))
def kH  (n : Nat) (p0 : iY) (p1 : bT) (p2 : Int) : Option Bool := (gd [(p1.Kind != 0)] (some (eN p2 p0.nodes, jZ p2 p0.nodes))).bind fun (y1 : (aP × Bool)) => (gd [(!((p1.Kind != 0) && (p1.Kind != y1.1.Kind))), (!(cS p1.Class (⟨#[]⟩ : ByteArray)))] (some (eN p2 p0.class_, jZ p2 p0.class_))).bind fun (y2 : (ByteArray × Bool)) => (if (((p1.Kind != 0) && (p1.Kind != y1.1.Kind)) || ((!(cS p1.Class (⟨#[]⟩ : ByteArray))) && (!(cS p1.Class y2.1)))) = true then some false else (some (eN p2 p0.states, jZ p2 p0.states)).bind fun (y3 : (Int × Bool)) => (gd [((mD .i64 y3.1 p1.States) == p1.States)] (mO n p0 p1 p2)).bind fun (y4 : Bool) => some (((mD .i64 y3.1 p1.States) == p1.States) && y4))
theorem An  (n : Nat) (p0 : iY) (p1 : bT) (p2 : Int) (r : Bool) (h : kH n p0 p1 p2 = some r) : dJ E 51 0 [J2 p0, E6 p1, A7 p2] [] (B3 r) [] := by
 refine gY Tryz.func51 rfl ?_
 unfold kH at h
 refine za [2, 3, 4] ?_
 refine aN ?_
 refine zx fun _ => ?_
 refine zk 4 ?_
 refine zE (C3 1 0) ?_
 refine zE (A7 p1.Kind) ?_
 refine zE (C3 0 0) ?_
 refine zn (L2 := [C7 2 p2, H1, H4, A2 7 1 0, C7 8 p1.Kind, (9, B3 (p1.Kind != 0)), (10, B3 (p1.Kind != 0)), (11, .cnd [p1.Kind != 0] (C3 1 0)), (12, .cnd [p1.Kind != 0] (A7 p1.Kind)), (13, .cnd [p1.Kind != 0] (C3 0 0))]) (G2 := [B0 p0, (1, A9 p1)]) (X2 := []) ?_
 refine zE (L8 p0.nodes) ?_
 refine zE (A7 p2) ?_
 obtain ⟨y1, he, h⟩ := aB h
 refine Dz (e := [p1.Kind != 0]) [(14, L8 p0.nodes, some 1), (15, A7 p2, some 1)] (v := .agg [I y1.1.ID, I y1.1.Parent, I y1.1.Kind, Sx y1.1.Key, B6 y1.1.Attrs, C0 y1.1.Actions, C1 y1.1.Kids]) (foot := []) (by kernel_rfl) (by kernel_rfl) (by kernel_rfl) (fun hg => dH (kf := (A6)) (enc := aM) (l := p0.nodes) (k := p2) (ok := false) (kk := .int .i64) (j := ⟨.st [(3, 0, 1), (3, 1, 1), (3, 2, 1), (9, 3, 1), (55, 4, 1), (56, 5, 1), (22, 6, 1)], 7, 112, [.int .i64 0, .int .i64 0, .int .i64 0, .string ⟨#[]⟩, .slice none 0 0, .slice none 0 0, .slice none 0 0]⟩) (p := y1) (v := .agg [I y1.1.ID, I y1.1.Parent, I y1.1.Kind, Sx y1.1.Key, B6 y1.1.Attrs, C0 y1.1.Actions, C1 y1.1.Kids]) (cM he hg) (by kernel_rfl) gS (by kernel_rfl) (by kernel_rfl) (by kernel_rfl)) rfl rfl ?_
 clear he
 refine zE (A7 y1.1.Kind) ?_
 refine zE (B3 (p1.Kind != y1.1.Kind)) ?_
 refine zn (L2 := [C7 2 p2, H1, H4, A2 7 1 0, C7 8 p1.Kind, (9, B3 (p1.Kind != 0)), (10, B3 (p1.Kind != 0)), (11, .cnd [p1.Kind != 0] (C3 1 0)), (12, .cnd [p1.Kind != 0] (A7 p1.Kind)), (13, .cnd [p1.Kind != 0] (C3 0 0)), (14, .cnd [p1.Kind != 0] (L8 p0.nodes)), (15, .cnd [p1.Kind != 0] (A7 p2)), (16, .cnd [p1.Kind != 0] (C8 y1.1)), (17, .cnd [p1.Kind != 0] (A7 y1.1.Kind)), (18, .cnd [p1.Kind != 0] (B3 (p1.Kind != y1.1.Kind)))]) (G2 := [B0 p0, (1, A9 p1)]) (X2 := []) ?_
 refine zP (.bool ((p1.Kind != 0) && (p1.Kind != y1.1.Kind))) ?_
 refine zk 1 ?_
 refine zE (C3 1 1) ?_
 refine zE (E5 p1.Class) ?_
 refine zE (.c (Bo (!(cS p1.Class (⟨#[]⟩ : ByteArray))))) ?_
 refine zn (L2 := [C7 2 p2, H1, H4, A2 7 1 0, C7 8 p1.Kind, (9, B3 (p1.Kind != 0)), (10, B3 (p1.Kind != 0)), (11, .cnd [p1.Kind != 0] (C3 1 0)), (12, .cnd [p1.Kind != 0] (A7 p1.Kind)), (13, .cnd [p1.Kind != 0] (C3 0 0)), (14, .cnd [p1.Kind != 0] (L8 p0.nodes)), (15, .cnd [p1.Kind != 0] (A7 p2)), (16, .cnd [p1.Kind != 0] (C8 y1.1)), (17, .cnd [p1.Kind != 0] (A7 y1.1.Kind)), (18, .cnd [p1.Kind != 0] (B3 (p1.Kind != y1.1.Kind))), (19, B3 ((p1.Kind != 0) && (p1.Kind != y1.1.Kind))), (20, B3 ((p1.Kind != 0) && (p1.Kind != y1.1.Kind))), (21, .cnd [!((p1.Kind != 0) && (p1.Kind != y1.1.Kind))] (C3 1 1)), (22, .cnd [!((p1.Kind != 0) && (p1.Kind != y1.1.Kind))] (E5 p1.Class)), (23, .cnd [!((p1.Kind != 0) && (p1.Kind != y1.1.Kind))] (.c (Bo (!(cS p1.Class (⟨#[]⟩ : ByteArray))))))]) (G2 := [B0 p0, (1, A9 p1)]) (X2 := []) ?_
 refine zF [!((p1.Kind != 0) && (p1.Kind != y1.1.Kind))] (.c (Bo (!(cS p1.Class (⟨#[]⟩ : ByteArray))))) ?_
 refine zE (C3 1 1) ?_
 refine zE (E5 p1.Class) ?_
 refine zE (C3 0 1) ?_
 refine zE (.c (D2 p0.class_)) ?_
 refine zn (L2 := [C7 2 p2, H1, H4, A2 7 1 0, C7 8 p1.Kind, (9, B3 (p1.Kind != 0)), (10, B3 (p1.Kind != 0)), (11, .cnd [p1.Kind != 0] (C3 1 0)), (12, .cnd [p1.Kind != 0] (A7 p1.Kind)), (13, .cnd [p1.Kind != 0] (C3 0 0)), (14, .cnd [p1.Kind != 0] (L8 p0.nodes)), (15, .cnd [p1.Kind != 0] (A7 p2)), (16, .cnd [p1.Kind != 0] (C8 y1.1)), (17, .cnd [p1.Kind != 0] (A7 y1.1.Kind)), (18, .cnd [p1.Kind != 0] (B3 (p1.Kind != y1.1.Kind))), (19, B3 ((p1.Kind != 0) && (p1.Kind != y1.1.Kind))), (20, B3 ((p1.Kind != 0) && (p1.Kind != y1.1.Kind))), (21, .cnd [!((p1.Kind != 0) && (p1.Kind != y1.1.Kind))] (C3 1 1)), (22, .cnd [!((p1.Kind != 0) && (p1.Kind != y1.1.Kind))] (E5 p1.Class)), (23, .cnd [!((p1.Kind != 0) && (p1.Kind != y1.1.Kind))] (.c (Bo (!(cS p1.Class (⟨#[]⟩ : ByteArray)))))), (24, .cnd [!((p1.Kind != 0) && (p1.Kind != y1.1.Kind))] (.c (Bo (!(cS p1.Class (⟨#[]⟩ : ByteArray)))))), (25, .cnd [!((p1.Kind != 0) && (p1.Kind != y1.1.Kind)), (!(cS p1.Class (⟨#[]⟩ : ByteArray)))] (C3 1 1)), (26, .cnd [!((p1.Kind != 0) && (p1.Kind != y1.1.Kind)), (!(cS p1.Class (⟨#[]⟩ : ByteArray)))] (E5 p1.Class)), (27, .cnd [!((p1.Kind != 0) && (p1.Kind != y1.1.Kind)), (!(cS p1.Class (⟨#[]⟩ : ByteArray)))] (C3 0 1)), (28, .cnd [!((p1.Kind != 0) && (p1.Kind != y1.1.Kind)), (!(cS p1.Class (⟨#[]⟩ : ByteArray)))] (.c (D2 p0.class_)))]) (G2 := [B0 p0, (1, A9 p1)]) (X2 := []) ?_
 refine zE (A7 p2) ?_
 obtain ⟨y2, he, h⟩ := aB h
 refine Dz (e := [!((p1.Kind != 0) && (p1.Kind != y1.1.Kind)), (!(cS p1.Class (⟨#[]⟩ : ByteArray)))]) [(28, .c (D2 p0.class_), some 2), (29, A7 p2, some 2)] (v := .c (Sx y2.1)) (foot := []) (by kernel_rfl) (by kernel_rfl) (by kernel_rfl) (fun hg => dH (kf := (A6)) (enc := eS) (l := p0.class_) (k := p2) (ok := false) (kk := .int .i64) (j := ⟨.str, 1, 16, [.string ⟨#[]⟩]⟩) (p := y2) (v := .c (Sx y2.1)) (cM he hg) (by kernel_rfl) gS (by kernel_rfl) (by kernel_rfl) (by kernel_rfl)) rfl rfl ?_
 clear he
 refine zE (B3 (!(cS p1.Class y2.1))) ?_
 refine zP (.bool ((!(cS p1.Class (⟨#[]⟩ : ByteArray))) && (!(cS p1.Class y2.1)))) ?_
 refine zP (.bool (((p1.Kind != 0) && (p1.Kind != y1.1.Kind)) || ((!(cS p1.Class (⟨#[]⟩ : ByteArray))) && (!(cS p1.Class y2.1))))) ?_
 refine ze [2, 3, 4, 33] ?_
 refine zi h (fun h => ?_) fun h => ?_
 refine za [6] ?_
 cases h
 exact aH zr
 refine aC ?_
 refine zx fun _ => ?_
 refine zke 3 (L' := [C7 2 p2, H1, H4, (33, .c (Bo (((p1.Kind != 0) && (p1.Kind != y1.1.Kind)) || ((!(cS p1.Class (⟨#[]⟩ : ByteArray))) && (!(cS p1.Class y2.1)))))), A2 34 0 2, (35, .c (D9 p0.states)), C7 36 p2]) (G' := [B0 p0, (1, A9 p1)]) (X' := []) ?_
 obtain ⟨y3, he, h⟩ := aB h
 refine zw (v := .c (I y3.1)) [] (dH (kf := (A6)) (enc := aO) (l := p0.states) (k := p2) (ok := false) (kk := .int .i64) (j := ⟨.int .i64, 1, 8, [.int .i64 0]⟩) (p := y3) (v := .c (I y3.1)) he (by kernel_rfl) gS (by kernel_rfl) (by kernel_rfl) (by kernel_rfl)) ?_
 clear he
 refine zk 7 ?_
 refine zE (J2 p0) ?_
 refine zE (E6 p1) ?_
 refine zE (A7 p2) ?_
 refine zn (L2 := [C7 2 p2, H1, H4, (33, .c (Bo (((p1.Kind != 0) && (p1.Kind != y1.1.Kind)) || ((!(cS p1.Class (⟨#[]⟩ : ByteArray))) && (!(cS p1.Class y2.1)))))), A2 34 0 2, (35, .c (D9 p0.states)), C7 36 p2, C7 37 y3.1, A2 38 1 2, C7 39 p1.States, (40, A7 (mD .i64 y3.1 p1.States)), A2 41 1 2, C7 42 p1.States, (43, B3 ((mD .i64 y3.1 p1.States) == p1.States)), (44, B3 ((mD .i64 y3.1 p1.States) == p1.States)), (45, .cnd [(mD .i64 y3.1 p1.States) == p1.States] (J2 p0)), (46, .cnd [(mD .i64 y3.1 p1.States) == p1.States] (E6 p1)), (47, .cnd [(mD .i64 y3.1 p1.States) == p1.States] (A7 p2))]) (G2 := [B0 p0, (1, A9 p1)]) (X2 := []) ?_
 obtain ⟨y4, he, h⟩ := aB h
 refine Ry [(mD .i64 y3.1 p1.States) == p1.States] fok86 (fun hg => Dg n _ _ _ y4 (cM he hg)) ?_
 clear he
 refine zP (.bool (((mD .i64 y3.1 p1.States) == p1.States) && y4)) ?_
 refine zk 1 ?_
 refine ze [6] ?_
 cases h
 exact aH zr
def gH (p0 : bM) (p2 : ByteArray) (p1 : cQ) (j1 : Unit → Option (Int × Bool)) : Nat → Int → Option (Int × Bool)
 | 0, _ => none
 | n + 1, v3 => (if (decide (v3 < (List.length p0.Tokens : Int))) = true then (idx p0.Tokens v3).bind fun (e4 : dI) => (if (!(cS e4.Name p2)) = true then gH p0 p2 p1 j1 n (IntKind.wrap .i64 (v3 + 1)) else (if (p1.High && p1.Dark) = true then some (e4.HighDark, true) else (if p1.High = true then some (e4.HighLight, true) else (if p1.Dark = true then some (e4.Dark, true) else some (e4.Light, true))))) else j1 ())
def nQ  (n : Nat) (p0 : bM) (p1 : cQ) (p2 : ByteArray) : Option (Int × Bool) := (aR (fun (_ : Unit) => some (0, false)) (fun (j1 : Unit → Option (Int × Bool)) => gH p0 p2 p1 j1 n 0))
theorem Bq  (n : Nat) (p0 : bM) (p1 : cQ) (p2 : ByteArray) (r : (Int × Bool)) (h : nQ n p0 p1 p2 = some r) : dJ E 105 0 [.agg [F7 p0.Tokens], .agg [Bo p1.Dark, Bo p1.High, I p1.Scale], E5 p2] [] (.tup [A7 r.1, B3 r.2]) [] := by
 refine gY Tryz.func105 rfl ?_
 unfold nQ at h
 refine za [2, 3, 4] ?_
 refine aV h (fun A j => ∀ u, j u = some r → A (mk [] [] 0)) (fun u h => ?_) (fun j1 Aj1 hj1 h => ?_)
 refine za [6, 7] ?_
 cases h
 exact aH zr
 refine zx fun _ => ?_
 refine zk 2 ?_
 refine zl cI p0.Tokens ?_
 refine zk 1 ?_
 refine ze [2, 4, 11, 12, 13] ?_
 refine aI ?_
 refine bH (fun n s => ∃ v3, gH p0 p2 p1 j1 n v3 = some r ∧ s = mk [(2, E5 p2), K2, (11, .c (F7 p0.Tokens)), (12, .c (I (List.length p0.Tokens : Int))), C7 13 v3] [(0, J4 p1)] 1) n _ (zv [(1, 0)] [2, 4, 11, 12, 13] 1) ⟨_, h, rfl⟩ (fun s ⟨v3, h, _⟩ => nomatch h) ?_
 rintro n s ⟨v3, h, rfl⟩
 rw [gH] at h
 refine za [2, 4, 11, 12, 13, 14] ?_
 refine aN ?_
 refine zi h (fun h => ?_) fun h => ?_
 refine aC ?_
 refine aN ?_
 refine aI ?_
 refine zx fun _ => ?_
 obtain ⟨e4, he, h⟩ := aB h
 refine zd cI he ?_
 clear he
 refine zk 3 ?_
 refine ze [2, 4, 9, 11, 12, 13] ?_
 refine aN ?_
 refine za [2, 4, 9, 11, 12, 13, 20] ?_
 refine zi h (fun h => ?_) fun h => ?_
 refine bI ?_
 refine aY ?_
 refine zb ?_
 exact eU (zv [(0, 0)] [2, 4, 11, 12, 13] 1) (⟨_, h, rfl⟩)
 refine aC ?_
 refine aN ?_
 refine aI ?_
 refine zx fun _ => ?_
 refine zk 3 ?_
 refine zE (C3 0 0) ?_
 refine zE (B3 p1.Dark) ?_
 refine zP (.bool (p1.High && p1.Dark)) ?_
 refine zk 1 ?_
 refine ze [4, 9, 21] ?_
 refine zi h (fun h => ?_) fun h => ?_
 refine za [6, 7] ?_
 cases h
 exact aH zr
 refine za [4, 9, 30] ?_
 refine zi h (fun h => ?_) fun h => ?_
 refine za [6, 7] ?_
 cases h
 exact aH zr
 refine za [9, 35] ?_
 refine zi h (fun h => ?_) fun h => ?_
 refine za [6, 7] ?_
 cases h
 exact aH zr
 refine aC ?_
 refine za [6, 7] ?_
 cases h
 exact aH zr
 exact aJ (zv [] [] 0) (bI (hj1 _ h))
end Go.Proofs.YtojkihhnioeggaaGreatDoor.S
