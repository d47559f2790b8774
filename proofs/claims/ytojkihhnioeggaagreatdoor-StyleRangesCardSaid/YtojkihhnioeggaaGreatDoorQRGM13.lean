import Derived.Test.YtojkihhnioeggaaGreatDoorQRGM12
set_option linter.unusedVariables false
set_option linter.unusedSimpArgs false
set_option maxRecDepth 100000
set_option maxHeartbeats 4000000
namespace Go.Proofs.YtojkihhnioeggaaGreatDoor.S
open Go Go.Bm
def mK (v13 : Int) (p0 : (List bC)) (j14 : Unit → Option (List bC)) : Nat → Unit → Option (List bC)
 | 0, _ => none
 | n + 1, _ => (gd [(decide (v13 > 0))] (idx p0 (IntKind.wrap .i64 (v13 - 1)))).bind fun (e20 : bC) => (gd [(decide (v13 > 0))] (idx p0 v13)).bind fun (e21 : bC) => (if ((decide (v13 > 0)) && (decide (e20.ID > e21.ID))) = true then (idx p0 v13).bind fun (e22 : bC) => none else j14 ())
def iD (p0 : (List bC)) (j1 : Unit → Option (List bC)) : Nat → Int → Option (List bC)
 | 0, _ => none
 | n + 1, v13 => (if (decide (v13 < (List.length p0 : Int))) = true then (aR (fun (_ : Unit) => iD p0 j1 n (IntKind.wrap .i64 (v13 + 1))) (fun (j14 : Unit → Option (List bC)) => mK v13 p0 j14 n ())) else j1 ())
def oX  (n : Nat) (p0 : (List bC)) : Option (List bC) := (aR (fun (_ : Unit) => some p0) (fun (j1 : Unit → Option (List bC)) => iD p0 j1 n 0))
def jI (y2 : (List Int)) (p3 : bA) (p0 : bE) (p1 : bM) (p2 : cQ) (p4 : (List aT)) (j3 : List bC → Option ((List bC) × Int)) : Nat → List bC → Int → Option ((List bC) × Int)
 | 0, _, _ => none
 | n + 1, v9, v10 => (if (decide (v10 < (List.length y2 : Int))) = true then (idx y2 v10).bind fun (e11 : Int) => (jN n p3 e11).bind fun (y12 : aP) => (wV n v9 y12.Parent).bind fun (y13 : aA) => (rK n p0 p1 p2 p3 p4 y12.ID y13 (y12.Parent == 0)).bind fun (y14 : aA) => (pE 184 v9 [(bC.mk y12.ID y14)]).bind fun (l15 : List bC) => jI y2 p3 p0 p1 p2 p4 j3 n l15 (IntKind.wrap .i64 (v10 + 1)) else j3 v9)
def wO  (n : Nat) (p0 : bE) (p1 : bM) (p2 : cQ) (p3 : bA) (p4 : (List aT)) : Option ((List bC) × Int) := (wK n p0 p1 p2 p3).bind fun (y1 : Int) => (if (y1 != 0) = true then some (([] : List bC), y1) else (uP n p3).bind fun (y2 : (List Int)) => (aR (fun (v18 : List bC) => (oX n v18).bind fun (y19 : (List bC)) => some (y19, 0)) (fun (j3 : List bC → Option ((List bC) × Int)) => jI y2 p3 p0 p1 p2 p4 j3 n ([] : List bC) 0)))
def lP (j1 : aA → Option aA) : Nat → Int → aA → Option aA
 | 0, _, _ => none
 | n + 1, v2, v3 => (if (decide (v2 < 22)) = true then (idx aW v2).bind fun (e4 : bR) => (uC v2 22).bind fun (k5 : Nat) => lP j1 n (IntKind.wrap .i64 (v2 + 1)) (aA.set v3 k5 e4.start) else j1 v3)
def rI  (n : Nat)  : Option aA := (aR (fun (v8 : aA) => some v8) (fun (j1 : aA → Option aA) => lP j1 n 0 (aA.mk 0 0 0 0 0 0 0 0 0 0 0 0 0 0 0 0 0 0 0 0 0 0)))
theorem Ai  (n : Nat)  (r : aA) (h : rI n  = some r) : dJ E 49 0 [] [] (F2 r) [] := by
 refine gY Tryz.func49 rfl ?_
 unfold rI at h
 refine za [0] ?_
 refine za [0, 1] ?_
 refine aV h (fun A j => ∀ v8, j v8 = some r → A (mk [G9, A2 1 1 0] [(0, C6), (1, A5 v8)] 2)) (fun v8 h => ?_) (fun j1 Aj1 hj1 h => ?_)
 refine za [0] ?_
 cases h
 exact aH zr
 refine za [0, 1, 4, 5] ?_
 refine aI ?_
 refine bH (fun n s => ∃ v2 v3, lP j1 n v2 v3 = some r ∧ s = mk [G9, A2 1 1 0, (4, .agg (List.flatten (List.map jA aW))), C7 5 v2] [(0, C6), (1, A5 v3)] 2) n _ (zv [(0, 0), (1, 1)] [0, 1, 4, 5] 2) ⟨_, _, h, rfl⟩ (fun s ⟨v2, v3, h, _⟩ => nomatch h) ?_
 rintro n s ⟨v2, v3, h, rfl⟩
 rw [lP] at h
 refine za [0, 1, 4, 5, 6] ?_
 refine aN ?_
 refine zi h (fun h => ?_) fun h => ?_
 refine aC ?_
 refine aN ?_
 refine aI ?_
 refine zx fun _ => ?_
 refine zk 1 ?_
 obtain ⟨e4, he, h⟩ := aB h
 refine dR (v := .agg [Bo e4.inherited, I e4.low, I e4.high, I e4.start]) (foot := []) (Ch (enc := jA) (xs := aW) (ix := v2) (e := e4) (len := 22) (j := ⟨.st [(4, 0, 1), (3, 1, 1), (3, 2, 1), (3, 3, 1)], 4, 32, [.bool false, .int .i64 0, .int .i64 0, .int .i64 0]⟩) (v := .agg [Bo e4.inherited, I e4.low, I e4.high, I e4.start]) he (by kernel_rfl) (by kernel_rfl) (fun x => by kernel_rfl) (by decide) (by kernel_rfl)) (by kernel_rfl) rfl rfl ?_
 clear he
 refine zk 3 ?_
 refine ze [0, 1, 2, 3, 4, 5] ?_
 refine zy fun _ => ?_
 refine zk 3 ?_
 obtain ⟨k5, he, h⟩ := aB h
 refine dR (v := .c (.ptr 1 (0 + k5 * 1))) (foot := []) (Eb (n := 1) (q := 0) (len := 22) (sz := 1) (k := k5) (ix := v2) he (by kernel_rfl)) (by kernel_rfl) rfl rfl ?_
 have hb_k5 := nX he; clear he
 refine sO (n := 1) (off := (0 + k5 * 1)) (T0 := 52) (sz := 1) (lx := [I e4.start]) (l := [I v3.x0, I v3.x1, I v3.x2, I v3.x3, I v3.x4, I v3.x5, I v3.x6, I v3.x7, I v3.x8, I v3.x9, I v3.x10, I v3.x11, I v3.x12, I v3.x13, I v3.x14, I v3.x15, I v3.x16, I v3.x17, I v3.x18, I v3.x19, I v3.x20, I v3.x21]) (l2 := [I ((E0 v3 k5 e4.start).x0), I ((E0 v3 k5 e4.start).x1), I ((E0 v3 k5 e4.start).x2), I ((E0 v3 k5 e4.start).x3), I ((E0 v3 k5 e4.start).x4), I ((E0 v3 k5 e4.start).x5), I ((E0 v3 k5 e4.start).x6), I ((E0 v3 k5 e4.start).x7), I ((E0 v3 k5 e4.start).x8), I ((E0 v3 k5 e4.start).x9), I ((E0 v3 k5 e4.start).x10), I ((E0 v3 k5 e4.start).x11), I ((E0 v3 k5 e4.start).x12), I ((E0 v3 k5 e4.start).x13), I ((E0 v3 k5 e4.start).x14), I ((E0 v3 k5 e4.start).x15), I ((E0 v3 k5 e4.start).x16), I ((E0 v3 k5 e4.start).x17), I ((E0 v3 k5 e4.start).x18), I ((E0 v3 k5 e4.start).x19), I ((E0 v3 k5 e4.start).x20), I ((E0 v3 k5 e4.start).x21)]) (by kernel_rfl) (by kernel_rfl) (by simp only [List.length_cons, List.length_nil]; omega) (by rw [Nat.zero_add]; exact aA.splice_eq v3 k5 e4.start hb_k5) (by kernel_rfl) rfl rfl ?_
 refine bY ?_
 refine aY ?_
 refine zb ?_
 exact eU (zv [(0, 0), (1, 1)] [0, 1, 4, 5] 2) (⟨_, _, h, rfl⟩)
 exact aJ (zv [(0, 0), (1, 1)] [0, 1] 2) (bI (hj1 _ h))
def oJ  (n : Nat)  : Option Bool := (nA n (aG.mk 1 (⟨#[]⟩ : ByteArray) ([] : List aZ) ([] : List cN) [(aG.mk 2 (⟨#[]⟩ : ByteArray) ([] : List aZ) ([] : List cN) ([] : List aG))]) 1).bind fun (y1 : (bA × Int)) => (kK n (bE.mk [(bT.mk 2 (⟨#[]⟩ : ByteArray) 0 0 (⟨#[]⟩ : ByteArray) [(bJ.mk 9 0 7 (⟨#[]⟩ : ByteArray))])]) (bM.mk ([] : List dI)) (cQ.mk false false 100) y1.1 ([] : List aT)).bind fun (y2 : ((List bC) × Int)) => (gd [((y2.2 == 0) && ((List.length y2.1 : Int) == 2))] (idx y2.1 0)).bind fun (e3 : bC) => (gd [(((y2.2 == 0) && ((List.length y2.1 : Int) == 2)) && (e3.Style.x9 == 0))] (idx y2.1 1)).bind fun (e4 : bC) => (gd [((((y2.2 == 0) && ((List.length y2.1 : Int) == 2)) && (e3.Style.x9 == 0)) && (e4.Style.x9 == 7))] (idx y2.1 1)).bind fun (e5 : bC) => (gd [(((((y2.2 == 0) && ((List.length y2.1 : Int) == 2)) && (e3.Style.x9 == 0)) && (e4.Style.x9 == 7)) && (e5.Style.x2 == 16))] (rI n)).bind fun (y6 : aA) => some ((((((y2.2 == 0) && ((List.length y2.1 : Int) == 2)) && (e3.Style.x9 == 0)) && (e4.Style.x9 == 7)) && (e5.Style.x2 == 16)) && (y6.x14 == 1048576))
theorem Cr  (n : Nat)  (r : Bool) (h : oJ n  = some r) : dJ E 20 0 [] [] (B3 r) [] := by
 refine gY Tryz.func20 rfl ?_
 unfold oJ at h
 refine za [] ?_
 refine zx fun _ => ?_
 refine zk 1 ?_
 refine qZ (e := 70) (sz := 5) (len := 1) (r := [I 2, Sx (⟨#[]⟩ : ByteArray), .lit [], .lit [], .lit []]) (l' := List.map bB [(aG.mk 2 (⟨#[]⟩ : ByteArray) ([] : List aZ) ([] : List cN) ([] : List aG))]) (nm := 2) (by kernel_rfl) (by simp only [List.map_cons, List.map_nil, gW]; kernel_rfl) (by kernel_rfl) (by kernel_rfl) rfl rfl rfl ?_
 refine zk 1 ?_
 obtain ⟨y1, he, h⟩ := aB h
 refine zc fok28 (uK n _ _ y1 he) ?_
 clear he
 refine zk 6 ?_
 refine ze [1] ?_
 refine za [1, 3] ?_
 refine zx fun _ => ?_
 refine zk 4 ?_
 obtain ⟨y2, he, h⟩ := aB h
 refine zc fok17 (rW n _ _ _ _ _ y2 he) ?_
 clear he
 refine zk 5 ?_
 refine mF [4, 5] (L2 := [(4, E4 y2.1), C7 5 y2.2]) (G2 := [(2, .tok 70 5 (List.length [(aG.mk 2 (⟨#[]⟩ : ByteArray) ([] : List aZ) ([] : List cN) ([] : List aG))])), (8, B1 y1.1), (12, .tok 81 4 (List.length [(bJ.mk 9 0 7 (⟨#[]⟩ : ByteArray))])), (14, .tok 63 6 (List.length [(bT.mk 2 (⟨#[]⟩ : ByteArray) 0 0 (⟨#[]⟩ : ByteArray) [(bJ.mk 9 0 7 (⟨#[]⟩ : ByteArray))])])), (16, .blk 31 [.app 14 (List.map bG [(bT.mk 2 (⟨#[]⟩ : ByteArray) 0 0 (⟨#[]⟩ : ByteArray) [(bJ.mk 9 0 7 (⟨#[]⟩ : ByteArray))])])])]) 28 ?_
 refine zx fun _ => ?_
 refine zk 3 ?_
 refine zE (E4 y2.1) ?_
 refine kR (e := [y2.2 == 0]) [(29, E4 y2.1, some 1)] (v := .c (I (List.length y2.1 : Int))) (foot := []) (by kernel_rfl) (by kernel_rfl) (by kernel_rfl) (fun hg => kX (enc := cV) (l := y2.1) (by kernel_rfl)) rfl rfl ?_
 refine zE (.c (Bo ((List.length y2.1 : Int) == 2))) ?_
 refine zP (.bool ((y2.2 == 0) && ((List.length y2.1 : Int) == 2))) ?_
 refine zk 1 ?_
 refine zE (E4 y2.1) ?_
 obtain ⟨e3, he, h⟩ := aB h
 refine kR (e := [((y2.2 == 0) && ((List.length y2.1 : Int) == 2))]) [(34, E4 y2.1, some 1)] (v := .c (B5 e3.ID e3.Style)) (foot := []) (by kernel_rfl) (by kernel_rfl) (by kernel_rfl) (fun hg => eG (enc := cV) (sz := 23) (l := y2.1) (ix := 0) (cM he hg) (by kernel_rfl) (by kernel_rfl) (by kernel_rfl)) rfl rfl ?_
 clear he
 refine zE (B4 e3.Style) ?_
 refine zE (.c (.imm [I e3.Style.x9, I e3.Style.x10, I e3.Style.x11, I e3.Style.x12, I e3.Style.x13, I e3.Style.x14, I e3.Style.x15, I e3.Style.x16, I e3.Style.x17, I e3.Style.x18, I e3.Style.x19, I e3.Style.x20, I e3.Style.x21])) ?_
 refine zE (A7 e3.Style.x9) ?_
 refine zE (B3 (e3.Style.x9 == 0)) ?_
 refine zP (.bool (((y2.2 == 0) && ((List.length y2.1 : Int) == 2)) && (e3.Style.x9 == 0))) ?_
 refine zk 1 ?_
 refine zE (E4 y2.1) ?_
 obtain ⟨e4, he, h⟩ := aB h
 refine kR (e := [(((y2.2 == 0) && ((List.length y2.1 : Int) == 2)) && (e3.Style.x9 == 0))]) [(42, E4 y2.1, some 1)] (v := .c (B5 e4.ID e4.Style)) (foot := []) (by kernel_rfl) (by kernel_rfl) (by kernel_rfl) (fun hg => eG (enc := cV) (sz := 23) (l := y2.1) (ix := 1) (cM he hg) (by kernel_rfl) (by kernel_rfl) (by kernel_rfl)) rfl rfl ?_
 clear he
 refine zE (B4 e4.Style) ?_
 refine zE (.c (.imm [I e4.Style.x9, I e4.Style.x10, I e4.Style.x11, I e4.Style.x12, I e4.Style.x13, I e4.Style.x14, I e4.Style.x15, I e4.Style.x16, I e4.Style.x17, I e4.Style.x18, I e4.Style.x19, I e4.Style.x20, I e4.Style.x21])) ?_
 refine zE (A7 e4.Style.x9) ?_
 refine zE (B3 (e4.Style.x9 == 7)) ?_
 refine zP (.bool ((((y2.2 == 0) && ((List.length y2.1 : Int) == 2)) && (e3.Style.x9 == 0)) && (e4.Style.x9 == 7))) ?_
 refine zke 1 (L' := [(4, E4 y2.1), C7 5 y2.2, C7 26 y2.2, (27, B3 (y2.2 == 0)), (28, B3 (y2.2 == 0)), (29, .cnd [y2.2 == 0] (E4 y2.1)), (30, .cnd [y2.2 == 0] (.c (I (List.length y2.1 : Int)))), (31, .cnd [y2.2 == 0] (.c (Bo ((List.length y2.1 : Int) == 2)))), (32, .c (Bo ((y2.2 == 0) && ((List.length y2.1 : Int) == 2)))), (33, .c (Bo ((y2.2 == 0) && ((List.length y2.1 : Int) == 2)))), (34, .cnd [((y2.2 == 0) && ((List.length y2.1 : Int) == 2))] (E4 y2.1)), (35, .cnd [((y2.2 == 0) && ((List.length y2.1 : Int) == 2))] (.c (B5 e3.ID e3.Style))), (36, .cnd [((y2.2 == 0) && ((List.length y2.1 : Int) == 2))] (B4 e3.Style)), (37, .cnd [((y2.2 == 0) && ((List.length y2.1 : Int) == 2))] (.c (.imm [I e3.Style.x9, I e3.Style.x10, I e3.Style.x11, I e3.Style.x12, I e3.Style.x13, I e3.Style.x14, I e3.Style.x15, I e3.Style.x16, I e3.Style.x17, I e3.Style.x18, I e3.Style.x19, I e3.Style.x20, I e3.Style.x21]))), (38, .cnd [((y2.2 == 0) && ((List.length y2.1 : Int) == 2))] (A7 e3.Style.x9)), (39, .cnd [((y2.2 == 0) && ((List.length y2.1 : Int) == 2))] (B3 (e3.Style.x9 == 0))), (40, .c (Bo (((y2.2 == 0) && ((List.length y2.1 : Int) == 2)) && (e3.Style.x9 == 0)))), (41, .c (Bo (((y2.2 == 0) && ((List.length y2.1 : Int) == 2)) && (e3.Style.x9 == 0)))), (42, .cnd [(((y2.2 == 0) && ((List.length y2.1 : Int) == 2)) && (e3.Style.x9 == 0))] (E4 y2.1)), (43, .cnd [(((y2.2 == 0) && ((List.length y2.1 : Int) == 2)) && (e3.Style.x9 == 0))] (.c (B5 e4.ID e4.Style))), (44, .cnd [(((y2.2 == 0) && ((List.length y2.1 : Int) == 2)) && (e3.Style.x9 == 0))] (B4 e4.Style)), (45, .cnd [(((y2.2 == 0) && ((List.length y2.1 : Int) == 2)) && (e3.Style.x9 == 0))] (.c (.imm [I e4.Style.x9, I e4.Style.x10, I e4.Style.x11, I e4.Style.x12, I e4.Style.x13, I e4.Style.x14, I e4.Style.x15, I e4.Style.x16, I e4.Style.x17, I e4.Style.x18, I e4.Style.x19, I e4.Style.x20, I e4.Style.x21]))), (46, .cnd [(((y2.2 == 0) && ((List.length y2.1 : Int) == 2)) && (e3.Style.x9 == 0))] (A7 e4.Style.x9)), (47, .cnd [(((y2.2 == 0) && ((List.length y2.1 : Int) == 2)) && (e3.Style.x9 == 0))] (B3 (e4.Style.x9 == 7))), (48, .c (Bo ((((y2.2 == 0) && ((List.length y2.1 : Int) == 2)) && (e3.Style.x9 == 0)) && (e4.Style.x9 == 7)))), (49, .c (Bo ((((y2.2 == 0) && ((List.length y2.1 : Int) == 2)) && (e3.Style.x9 == 0)) && (e4.Style.x9 == 7))))]) (G' := [(2, .tok 70 5 (List.length [(aG.mk 2 (⟨#[]⟩ : ByteArray) ([] : List aZ) ([] : List cN) ([] : List aG))])), (8, B1 y1.1), (12, .tok 81 4 (List.length [(bJ.mk 9 0 7 (⟨#[]⟩ : ByteArray))])), (14, .tok 63 6 (List.length [(bT.mk 2 (⟨#[]⟩ : ByteArray) 0 0 (⟨#[]⟩ : ByteArray) [(bJ.mk 9 0 7 (⟨#[]⟩ : ByteArray))])])), (16, .blk 31 [.app 14 (List.map bG [(bT.mk 2 (⟨#[]⟩ : ByteArray) 0 0 (⟨#[]⟩ : ByteArray) [(bJ.mk 9 0 7 (⟨#[]⟩ : ByteArray))])])])]) (X' := []) ?_
 refine zE (E4 y2.1) ?_
 obtain ⟨e5, he, h⟩ := aB h
 refine kR (e := [((((y2.2 == 0) && ((List.length y2.1 : Int) == 2)) && (e3.Style.x9 == 0)) && (e4.Style.x9 == 7))]) [(50, E4 y2.1, some 1)] (v := .c (B5 e5.ID e5.Style)) (foot := []) (by kernel_rfl) (by kernel_rfl) (by kernel_rfl) (fun hg => eG (enc := cV) (sz := 23) (l := y2.1) (ix := 1) (cM he hg) (by kernel_rfl) (by kernel_rfl) (by kernel_rfl)) rfl rfl ?_
 clear he
 refine zE (B4 e5.Style) ?_
 refine zE (.c (.imm [I e5.Style.x2, I e5.Style.x3, I e5.Style.x4, I e5.Style.x5, I e5.Style.x6, I e5.Style.x7, I e5.Style.x8, I e5.Style.x9, I e5.Style.x10, I e5.Style.x11, I e5.Style.x12, I e5.Style.x13, I e5.Style.x14, I e5.Style.x15, I e5.Style.x16, I e5.Style.x17, I e5.Style.x18, I e5.Style.x19, I e5.Style.x20, I e5.Style.x21])) ?_
 refine zE (A7 e5.Style.x2) ?_
 refine zE (B3 (e5.Style.x2 == 16)) ?_
 refine zP (.bool (((((y2.2 == 0) && ((List.length y2.1 : Int) == 2)) && (e3.Style.x9 == 0)) && (e4.Style.x9 == 7)) && (e5.Style.x2 == 16))) ?_
 refine zk 1 ?_
 obtain ⟨y6, he, h⟩ := aB h
 refine Ry [(((((y2.2 == 0) && ((List.length y2.1 : Int) == 2)) && (e3.Style.x9 == 0)) && (e4.Style.x9 == 7)) && (e5.Style.x2 == 16))] fok49 (fun hg => Ai n  y6 (cM he hg)) ?_
 clear he
 refine zE (A7 y6.x14) ?_
 refine zE (B3 (y6.x14 == 1048576)) ?_
 refine zP (.bool ((((((y2.2 == 0) && ((List.length y2.1 : Int) == 2)) && (e3.Style.x9 == 0)) && (e4.Style.x9 == 7)) && (e5.Style.x2 == 16)) && (y6.x14 == 1048576))) ?_
 refine zk 1 ?_
 refine mF [0] (L2 := [(0, .c (Bo ((((((y2.2 == 0) && ((List.length y2.1 : Int) == 2)) && (e3.Style.x9 == 0)) && (e4.Style.x9 == 7)) && (e5.Style.x2 == 16)) && (y6.x14 == 1048576))))]) (G2 := [(2, .tok 70 5 (List.length [(aG.mk 2 (⟨#[]⟩ : ByteArray) ([] : List aZ) ([] : List cN) ([] : List aG))])), (8, B1 y1.1), (12, .tok 81 4 (List.length [(bJ.mk 9 0 7 (⟨#[]⟩ : ByteArray))])), (14, .tok 63 6 (List.length [(bT.mk 2 (⟨#[]⟩ : ByteArray) 0 0 (⟨#[]⟩ : ByteArray) [(bJ.mk 9 0 7 (⟨#[]⟩ : ByteArray))])])), (16, .blk 31 [.app 14 (List.map bG [(bT.mk 2 (⟨#[]⟩ : ByteArray) 0 0 (⟨#[]⟩ : ByteArray) [(bJ.mk 9 0 7 (⟨#[]⟩ : ByteArray))])])])]) 65 ?_
 cases h
 exact aH zr
def dQ (y7 : ((List bC) × Int)) (v19 : Int) (j20 : Unit → Option Bool) (y2 : (bA × aK)) : Nat → Int → Option Bool
 | 0, _ => none
 | n + 1, v25 => (if (decide (v25 < 22)) = true then (idx y7.1 v19).bind fun (e26 : bC) => (idx (aA.toL e26.Style) v25).bind fun (e27 : Int) => (cW n v25 e27).bind fun (y28 : Bool) => (if (!y28) = true then some false else dQ y7 v19 j20 y2 n (IntKind.wrap .i64 (v25 + 1))) else j20 ())
def dN (y7 : ((List bC) × Int)) (y2 : (bA × aK)) (j8 : Unit → Option Bool) : Nat → Int → Option Bool
 | 0, _ => none
 | n + 1, v19 => (if (decide (v19 < (List.length y7.1 : Int))) = true then (aR (fun (_ : Unit) => dN y7 y2 j8 n (IntKind.wrap .i64 (v19 + 1))) (fun (j20 : Unit → Option Bool) => (idx y7.1 v19).bind fun (e21 : bC) => (idx y2.1.Nodes v19).bind fun (e22 : aP) => (if (e21.ID != e22.ID) = true then some false else dQ y7 v19 j20 y2 n 0))) else j8 ())
def gG  (n : Nat) (p0 : (List Int)) : Option Bool := (vG n p0).bind fun (y1 : aK) => (vF n y1 3).bind fun (y2 : (bA × aK)) => (sA n y2.2).bind fun (y3 : (bE × aK)) => (rR n y3.2).bind fun (y4 : (bM × aK)) => (vM n y4.2).bind fun (y5 : (cQ × aK)) => (qI n y5.2 y2.1).bind fun (y6 : ((List aT) × aK)) => (kK n y3.1 y4.1 y5.1 y2.1 y6.1).bind fun (y7 : ((List bC) × Int)) => (if ((y7.2 != 0) || ((List.length y7.1 : Int) != (List.length y2.1.Nodes : Int))) = true then some false else (aR (fun (_ : Unit) => (oJ n).bind fun (y31 : Bool) => some y31) (fun (j8 : Unit → Option Bool) => dN y7 y2 j8 n 0)))
theorem vC  (n : Nat) (p0 : (K9)) (r : Bool) (h : gG n p0 = some r) : dJ E 4 0 [.c (C1 p0)] [] (B3 r) [] := by
 refine gY Tryz.func4 rfl ?_
 unfold gG at h
 refine za [0] ?_
 refine zx fun _ => ?_
 refine zk 1 ?_
 obtain ⟨y1, he, h⟩ := aB h
 refine Fh (F := 9) (As := [.c (C1 p0)]) (Bs := [.c (C1 p0)]) (σ := [(0, 2)]) (k := 0) (kn := 0) (nm := 2) (Gc := []) (Gf := [D5 y1]) (r := .c (.ptr 0 0)) (v := .c (.ptr 2 0)) (by kernel_rfl) fok9 ⟨.inl (by kernel_rfl), trivial⟩ (Kp n _ y1 he) (by kernel_rfl) (by kernel_rfl) (by kernel_rfl) (by kernel_rfl) (by kernel_rfl) (by kernel_rfl) rfl rfl rfl ?_
 clear he
 refine zk 1 ?_
 refine ze [3] ?_
 refine zx fun _ => ?_
 refine zk 1 ?_
 obtain ⟨y2, he, h⟩ := aB h
 refine zo [(0, 2)] fok10 (Mo n _ _ y2 he) ?_
 clear he
 refine zk 2 ?_
 refine ze [3, 4] ?_
 refine Fu [[], [0], [], [2, 1, 0], [], [4, 3, 2, 1, 0], [], [], [], [7, 8, 5, 4, 3, 2, 1, 0], [1, 3, 5, 6, 9, 0, 2, 4, 7, 8], [10, 1, 3, 5, 6, 9, 0, 2, 4, 7, 8], [11, 10, 1, 3, 5, 6, 9, 0, 2, 4, 7, 8], [11, 10, 1, 3, 5, 6, 9, 0, 2, 4, 7, 8], [12, 10, 0, 1, 2, 3, 4, 5, 6, 7, 8, 9, 11], [13, 14, 0, 1, 2, 3, 4, 5, 6, 7, 8, 9, 10, 11, 12]] fun _ => ?_
 refine zk 1 ?_
 obtain ⟨y3, he, h⟩ := aB h
 refine zo [(0, 2)] fok11 (Jl n _ y3 he) ?_
 clear he
 refine zk 1 ?_
 obtain ⟨y4, he, h⟩ := aB h
 refine zo [(0, 2)] fok12 (Jh n _ y4 he) ?_
 clear he
 refine zk 1 ?_
 obtain ⟨y5, he, h⟩ := aB h
 refine zo [(0, 2)] fok13 (Ms n _ y5 he) ?_
 clear he
 refine zk 3 ?_
 obtain ⟨y6, he, h⟩ := aB h
 refine zo [(0, 2)] fok14 (Gr n _ _ y6 he) ?_
 clear he
 obtain ⟨y7, he, h⟩ := aB h
 refine zc fok17 (rW n _ _ _ _ _ y7 he) ?_
 clear he
 refine zk 5 ?_
 refine mF [4, 5, 6] (L2 := [A2 4 6 0, (5, E4 y7.1), C7 6 y7.2]) (G2 := [(2, .blk 78 [C1 y6.2.L, I y6.2.At]), (6, B1 y2.1)]) 24 ?_
 refine aN ?_
 refine zx fun _ => ?_
 refine zk 3 ?_
 refine zE (E4 y7.1) ?_
 refine kR (e := [!(y7.2 != 0)]) [(30, E4 y7.1, some 1)] (v := .c (I (List.length y7.1 : Int))) (foot := []) (by kernel_rfl) (by kernel_rfl) (by kernel_rfl) (fun hg => kX (enc := cV) (l := y7.1) (by kernel_rfl)) rfl rfl ?_
 refine zE (C3 6 2) ?_
 refine zE (F4 y2.1.Nodes) ?_
 refine kR (e := [!(y7.2 != 0)]) [(33, F4 y2.1.Nodes, some 1)] (v := .c (I (List.length y2.1.Nodes : Int))) (foot := []) (by kernel_rfl) (by kernel_rfl) (by kernel_rfl) (fun hg => kX (enc := aM) (l := y2.1.Nodes) (by kernel_rfl)) rfl rfl ?_
 refine zE (.c (Bo ((List.length y7.1 : Int) != (List.length y2.1.Nodes : Int)))) ?_
 refine zP (.bool ((y7.2 != 0) || ((List.length y7.1 : Int) != (List.length y2.1.Nodes : Int)))) ?_
 refine ze [4, 5, 36] ?_
 refine zi h (fun h => ?_) fun h => ?_
 refine za [2] ?_
 cases h
 exact aH zr
 refine aC ?_
 refine aV h (fun A j => ∀ u, j u = some r → A (mk [] [] 0)) (fun u h => ?_) (fun j8 Aj8 hj8 h => ?_)
 refine zx fun _ => ?_
 obtain ⟨y31, he, h⟩ := aB h
 refine zc fok20 (Cr n  y31 he) ?_
 clear he
 refine zk 1 ?_
 refine ze [2] ?_
 cases h
 exact aH zr
 refine za [4, 5, 7] ?_
 refine aI ?_
 refine bH (fun n s => ∃ v19, dN y7 y2 j8 n v19 = some r ∧ s = mk [K2, (5, E4 y7.1), C7 7 v19] [(0, B1 y2.1)] 1) n _ (zv [(6, 0)] [4, 5, 7] 1) ⟨_, h, rfl⟩ (fun s ⟨v19, h, _⟩ => nomatch h) ?_
 rintro n s ⟨v19, h, rfl⟩
 rw [dN] at h
 refine aN ?_
 refine zx fun _ => ?_
 refine zk 2 ?_
 refine zl cV y7.1 ?_
 refine zk 1 ?_
 refine ze [4, 5, 7, 40] ?_
 refine zi h (fun h => ?_) fun h => ?_
 refine aC ?_
 refine aV h (fun A j => ∀ u, j u = some r → A (mk [K2, (5, E4 y7.1), C7 7 v19] [(0, B1 y2.1)] 1)) (fun u h => ?_) (fun j20 Aj20 hj20 h => ?_)
 refine aY ?_
 refine zb ?_
 exact eU (zv [(0, 0)] [4, 5, 7] 1) (⟨_, h, rfl⟩)
 refine aI ?_
 refine aN ?_
 refine Fu [[], [], [0, 1], [2, 0, 1], [3, 2, 0, 1], [], [5], [], [6, 7, 5], [8, 6, 7, 5], [9, 8, 6, 7, 5], [4, 10, 3, 2, 0, 1, 9, 8, 6, 7, 5]] fun _ => ?_
 refine zk 2 ?_
 obtain ⟨e21, he, h⟩ := aB h
 refine zd cV he ?_
 clear he
 refine zk 5 ?_
 obtain ⟨e22, he, h⟩ := aB h
 refine zd aM he ?_
 clear he
 refine zk 3 ?_
 refine ze [4, 5, 7, 54] ?_
 refine zi h (fun h => ?_) fun h => ?_
 refine za [2] ?_
 cases h
 exact aH zr
 refine aC ?_
 refine za [4, 5, 7, 8] ?_
 refine aI ?_
 refine bH (fun n s => ∃ v25, dQ y7 v19 j20 y2 n v25 = some r ∧ s = mk [K2, (5, E4 y7.1), C7 7 v19, C7 8 v25] [(0, B1 y2.1)] 1) n _ (zv [(0, 0)] [4, 5, 7, 8] 1) ⟨_, h, rfl⟩ (fun s ⟨v25, h, _⟩ => nomatch h) ?_
 rintro n s ⟨v25, h, rfl⟩
 rw [dQ] at h
 refine aN ?_
 refine za [4, 5, 7, 8, 56] ?_
 refine zi h (fun h => ?_) fun h => ?_
 refine aC ?_
 refine aN ?_
 refine aI ?_
 refine zx fun _ => ?_
 refine zk 4 ?_
 obtain ⟨e26, he, h⟩ := aB h
 refine zd cV he ?_
 clear he
 refine zk 1 ?_
 obtain ⟨e27, he, h⟩ := aB h
 refine Rk (enc := aO) (xs := (aA.toL e26.Style)) (ix := v25) (e := e27) (c := [I e27]) (len := 22) (sz := 1) he (by kernel_rfl) (by kernel_rfl) (by kernel_rfl) (fun x => by kernel_rfl) (by kernel_rfl) rfl rfl ?_
 clear he
 refine zk 1 ?_
 obtain ⟨y28, he, h⟩ := aB h
 refine zc Xj (nZ n _ _ y28 he) ?_
 clear he
 refine zk 1 ?_
 refine ze [4, 5, 7, 8, 68] ?_
 refine zi h (fun h => ?_) fun h => ?_
 refine za [2] ?_
 cases h
 exact aH zr
 refine aC ?_
 refine aY ?_
 refine zb ?_
 exact eU (zv [(0, 0)] [4, 5, 7, 8] 1) (⟨_, h, rfl⟩)
 exact aJ (zv [(0, 0)] [4, 5, 7] 1) (bI (hj20 _ h))
 exact aJ (zv [] [] 0) (bI (hj8 _ h))
end Go.Proofs.YtojkihhnioeggaaGreatDoor.S
