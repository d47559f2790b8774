import Derived.Test.YtojkihhnioeggaaGreatDoorQUGM12
set_option linter.unusedVariables false
set_option linter.unusedSimpArgs false
set_option maxRecDepth 100000
set_option maxHeartbeats 4000000
namespace Go.Proofs.YtojkihhnioeggaaGreatDoor.S
open Go Go.Bm
def mQ (v13 : Int) (p0 : (List aU)) (j14 : Unit → Option (List aU)) : Nat → Unit → Option (List aU)
 | 0, _ => none
 | n + 1, _ => (gd [(decide (v13 > 0))] (idx p0 (IntKind.wrap .i64 (v13 - 1)))).bind fun (e20 : aU) => (gd [(decide (v13 > 0))] (idx p0 v13)).bind fun (e21 : aU) => (if ((decide (v13 > 0)) && (decide (e20.ID > e21.ID))) = true then (idx p0 v13).bind fun (e22 : aU) => none else j14 ())
def iJ (p0 : (List aU)) (j1 : Unit → Option (List aU)) : Nat → Int → Option (List aU)
 | 0, _ => none
 | n + 1, v13 => (if (decide (v13 < (List.length p0 : Int))) = true then (aS (fun (_ : Unit) => iJ p0 j1 n (IntKind.wrap .i64 (v13 + 1))) (fun (j14 : Unit → Option (List aU)) => mQ v13 p0 j14 n ())) else j1 ())
def pF  (n : Nat) (p0 : (List aU)) : Option (List aU) := (aS (fun (_ : Unit) => some p0) (fun (j1 : Unit → Option (List aU)) => iJ p0 j1 n 0))
def jO (y2 : (List Int)) (p3 : bA) (p0 : bH) (p1 : bS) (p2 : cY) (p4 : (List aR)) (j3 : List aU → Option ((List aU) × Int)) : Nat → List aU → Int → Option ((List aU) × Int)
 | 0, _, _ => none
 | n + 1, v9, v10 => (if (decide (v10 < (List.length y2 : Int))) = true then (idx y2 v10).bind fun (e11 : Int) => (jU n p3 e11).bind fun (y12 : aP) => (xO n v9 y12.Parent).bind fun (y13 : aA) => (rR n p0 p1 p2 p3 p4 y12.ID y13 (y12.Parent == 0)).bind fun (y14 : aA) => (pD 184 v9 [(aU.mk y12.ID y14)]).bind fun (l15 : List aU) => jO y2 p3 p0 p1 p2 p4 j3 n l15 (IntKind.wrap .i64 (v10 + 1)) else j3 v9)
def xH  (n : Nat) (p0 : bH) (p1 : bS) (p2 : cY) (p3 : bA) (p4 : (List aR)) : Option ((List aU) × Int) := (xC n p0 p1 p2 p3).bind fun (y1 : Int) => (if (y1 != 0) = true then some (([] : List aU), y1) else (vD n p3).bind fun (y2 : (List Int)) => (aS (fun (v18 : List aU) => (pF n v18).bind fun (y19 : (List aU)) => some (y19, 0)) (fun (j3 : List aU → Option ((List aU) × Int)) => jO y2 p3 p0 p1 p2 p4 j3 n ([] : List aU) 0)))
def jH (p0 : (List aU)) (p1 : (List aU)) (j1 : Unit → Option Bool) : Nat → Int → Option Bool
 | 0, _ => none
 | n + 1, v4 => (if (decide (v4 < (List.length p0 : Int))) = true then (idx p0 v4).bind fun (e5 : aU) => (idx p1 v4).bind fun (e6 : aU) => (if (!(([e5.ID, e5.Style.x0, e5.Style.x1, e5.Style.x2, e5.Style.x3, e5.Style.x4, e5.Style.x5, e5.Style.x6, e5.Style.x7, e5.Style.x8, e5.Style.x9, e5.Style.x10, e5.Style.x11, e5.Style.x12, e5.Style.x13, e5.Style.x14, e5.Style.x15, e5.Style.x16, e5.Style.x17, e5.Style.x18, e5.Style.x19, e5.Style.x20, e5.Style.x21] : List Int) == [e6.ID, e6.Style.x0, e6.Style.x1, e6.Style.x2, e6.Style.x3, e6.Style.x4, e6.Style.x5, e6.Style.x6, e6.Style.x7, e6.Style.x8, e6.Style.x9, e6.Style.x10, e6.Style.x11, e6.Style.x12, e6.Style.x13, e6.Style.x14, e6.Style.x15, e6.Style.x16, e6.Style.x17, e6.Style.x18, e6.Style.x19, e6.Style.x20, e6.Style.x21])) = true then some false else jH p0 p1 j1 n (IntKind.wrap .i64 (v4 + 1))) else j1 ())
def qW  (n : Nat) (p0 : (List aU)) (p1 : (List aU)) : Option Bool := (if ((List.length p0 : Int) != (List.length p1 : Int)) = true then some false else (aS (fun (_ : Unit) => some true) (fun (j1 : Unit → Option Bool) => jH p0 p1 j1 n 0)))
theorem Hn  (n : Nat) (p0 : (List aU)) (p1 : (List aU)) (r : Bool) (h : qW n p0 p1 = some r) : dI E 19 0 [B6 p0, B6 p1] [] (B2 r) [] := by
 refine gT Tryz.func19 rfl ?_
 unfold qW at h
 refine za [0, 1] ?_
 refine aO ?_
 refine zx fun _ => ?_
 refine zk 1 ?_
 refine zl aW p0 ?_
 refine zk 1 ?_
 refine zl aW p1 ?_
 refine zk 1 ?_
 refine ze [0, 1, 10] ?_
 refine zi h (fun h => ?_) fun h => ?_
 refine za [4] ?_
 cases h
 exact aI zr
 refine aC ?_
 refine aX h (fun A j => ∀ u, j u = some r → A (mk [] [] 0)) (fun u h => ?_) (fun j1 Aj1 hj1 h => ?_)
 refine za [4] ?_
 cases h
 exact aI zr
 refine za [0, 1, 5] ?_
 refine aK ?_
 refine bJ (fun n s => ∃ v4, jH p0 p1 j1 n v4 = some r ∧ s = mk [L5 0 p0, L5 1 p1, C6 5 v4] [] 0) n _ (zv [] [0, 1, 5] 0) ⟨_, h, rfl⟩ (fun s ⟨v4, h, _⟩ => nomatch h) ?_
 rintro n s ⟨v4, h, rfl⟩
 rw [jH] at h
 refine aO ?_
 refine zx fun _ => ?_
 refine zk 2 ?_
 refine zl aW p0 ?_
 refine zk 1 ?_
 refine ze [0, 1, 5, 14] ?_
 refine zi h (fun h => ?_) fun h => ?_
 refine aC ?_
 refine aO ?_
 refine aK ?_
 refine Dm [[], [], [0, 1], [2, 0, 1], [], [], [4, 5], [6, 4, 5], [3, 7, 2, 0, 1, 6, 4, 5]] fun _ => ?_
 refine zk 2 ?_
 obtain ⟨e5, he, h⟩ := aB h
 refine zd aW he ?_
 clear he
 refine zk 3 ?_
 obtain ⟨e6, he, h⟩ := aB h
 refine zd aW he ?_
 clear he
 refine zk 1 ?_
 refine zw (v := .c (Bo (!(([e5.ID, e5.Style.x0, e5.Style.x1, e5.Style.x2, e5.Style.x3, e5.Style.x4, e5.Style.x5, e5.Style.x6, e5.Style.x7, e5.Style.x8, e5.Style.x9, e5.Style.x10, e5.Style.x11, e5.Style.x12, e5.Style.x13, e5.Style.x14, e5.Style.x15, e5.Style.x16, e5.Style.x17, e5.Style.x18, e5.Style.x19, e5.Style.x20, e5.Style.x21] : List Int) == [e6.ID, e6.Style.x0, e6.Style.x1, e6.Style.x2, e6.Style.x3, e6.Style.x4, e6.Style.x5, e6.Style.x6, e6.Style.x7, e6.Style.x8, e6.Style.x9, e6.Style.x10, e6.Style.x11, e6.Style.x12, e6.Style.x13, e6.Style.x14, e6.Style.x15, e6.Style.x16, e6.Style.x17, e6.Style.x18, e6.Style.x19, e6.Style.x20, e6.Style.x21])))) [] (aA9 (w := false) (xs := [e5.ID, e5.Style.x0, e5.Style.x1, e5.Style.x2, e5.Style.x3, e5.Style.x4, e5.Style.x5, e5.Style.x6, e5.Style.x7, e5.Style.x8, e5.Style.x9, e5.Style.x10, e5.Style.x11, e5.Style.x12, e5.Style.x13, e5.Style.x14, e5.Style.x15, e5.Style.x16, e5.Style.x17, e5.Style.x18, e5.Style.x19, e5.Style.x20, e5.Style.x21]) (ys := [e6.ID, e6.Style.x0, e6.Style.x1, e6.Style.x2, e6.Style.x3, e6.Style.x4, e6.Style.x5, e6.Style.x6, e6.Style.x7, e6.Style.x8, e6.Style.x9, e6.Style.x10, e6.Style.x11, e6.Style.x12, e6.Style.x13, e6.Style.x14, e6.Style.x15, e6.Style.x16, e6.Style.x17, e6.Style.x18, e6.Style.x19, e6.Style.x20, e6.Style.x21]) (T := 54) (r := (!(([e5.ID, e5.Style.x0, e5.Style.x1, e5.Style.x2, e5.Style.x3, e5.Style.x4, e5.Style.x5, e5.Style.x6, e5.Style.x7, e5.Style.x8, e5.Style.x9, e5.Style.x10, e5.Style.x11, e5.Style.x12, e5.Style.x13, e5.Style.x14, e5.Style.x15, e5.Style.x16, e5.Style.x17, e5.Style.x18, e5.Style.x19, e5.Style.x20, e5.Style.x21] : List Int) == [e6.ID, e6.Style.x0, e6.Style.x1, e6.Style.x2, e6.Style.x3, e6.Style.x4, e6.Style.x5, e6.Style.x6, e6.Style.x7, e6.Style.x8, e6.Style.x9, e6.Style.x10, e6.Style.x11, e6.Style.x12, e6.Style.x13, e6.Style.x14, e6.Style.x15, e6.Style.x16, e6.Style.x17, e6.Style.x18, e6.Style.x19, e6.Style.x20, e6.Style.x21]))) (by kernel_rfl) rfl (by kernel_rfl) (by kernel_rfl) (by kernel_rfl) rfl rfl rfl) ?_
 refine ze [0, 1, 5, 25] ?_
 refine zi h (fun h => ?_) fun h => ?_
 refine za [4] ?_
 cases h
 exact aI zr
 refine aC ?_
 refine bB ?_
 refine zb ?_
 exact eZ (zv [] [0, 1, 5] 0) (⟨_, h, rfl⟩)
 exact aL (zv [] [] 0) (bK (hj1 _ h))
def lT (j1 : aA → Option aA) : Nat → Int → aA → Option aA
 | 0, _, _ => none
 | n + 1, v2, v3 => (if (decide (v2 < 22)) = true then (idx aY v2).bind fun (e4 : cA) => (uQ v2 22).bind fun (k5 : Nat) => lT j1 n (IntKind.wrap .i64 (v2 + 1)) (aA.set v3 k5 e4.start) else j1 v3)
def rP  (n : Nat)  : Option aA := (aS (fun (v8 : aA) => some v8) (fun (j1 : aA → Option aA) => lT j1 n 0 (aA.mk 0 0 0 0 0 0 0 0 0 0 0 0 0 0 0 0 0 0 0 0 0 0)))
theorem Bb  (n : Nat)  (r : aA) (h : rP n  = some r) : dI E 49 0 [] [] (F9 r) [] := by
 refine gT Tryz.func49 rfl ?_
 unfold rP at h
 refine za [0] ?_
 refine za [0, 1] ?_
 refine aX h (fun A j => ∀ v8, j v8 = some r → A (mk [H7, C0 1 1 0] [(0, D4), (1, A8 v8)] 2)) (fun v8 h => ?_) (fun j1 Aj1 hj1 h => ?_)
 refine za [0] ?_
 cases h
 exact aI zr
 refine za [0, 1, 4, 5] ?_
 refine aK ?_
 refine bJ (fun n s => ∃ v2 v3, lT j1 n v2 v3 = some r ∧ s = mk [H7, C0 1 1 0, (4, .agg (List.flatten (List.map jD aY))), C6 5 v2] [(0, D4), (1, A8 v3)] 2) n _ (zv [(0, 0), (1, 1)] [0, 1, 4, 5] 2) ⟨_, _, h, rfl⟩ (fun s ⟨v2, v3, h, _⟩ => nomatch h) ?_
 rintro n s ⟨v2, v3, h, rfl⟩
 rw [lT] at h
 refine za [0, 1, 4, 5, 6] ?_
 refine aO ?_
 refine zi h (fun h => ?_) fun h => ?_
 refine aC ?_
 refine aO ?_
 refine aK ?_
 refine zx fun _ => ?_
 refine zk 1 ?_
 obtain ⟨e4, he, h⟩ := aB h
 refine dT (v := .agg [Bo e4.inherited, I e4.low, I e4.high, I e4.start]) (foot := []) (Cx (enc := jD) (xs := aY) (ix := v2) (e := e4) (len := 22) (j := ⟨.st [(4, 0, 1), (3, 1, 1), (3, 2, 1), (3, 3, 1)], 4, 32, [.bool false, .int .i64 0, .int .i64 0, .int .i64 0]⟩) (v := .agg [Bo e4.inherited, I e4.low, I e4.high, I e4.start]) he (by kernel_rfl) (by kernel_rfl) (fun x => by kernel_rfl) (by decide) (by kernel_rfl)) (by kernel_rfl) rfl rfl ?_
 clear he
 refine zk 3 ?_
 refine ze [0, 1, 2, 3, 4, 5] ?_
 refine zy fun _ => ?_
 refine zk 3 ?_
 obtain ⟨k5, he, h⟩ := aB h
 refine dT (v := .c (.ptr 1 (0 + k5 * 1))) (foot := []) (Ev (n := 1) (q := 0) (len := 22) (sz := 1) (k := k5) (ix := v2) he (by kernel_rfl)) (by kernel_rfl) rfl rfl ?_
 have hb_k5 := oH he; clear he
 refine sX (n := 1) (off := (0 + k5 * 1)) (T0 := 52) (sz := 1) (lx := [I e4.start]) (l := [I v3.x0, I v3.x1, I v3.x2, I v3.x3, I v3.x4, I v3.x5, I v3.x6, I v3.x7, I v3.x8, I v3.x9, I v3.x10, I v3.x11, I v3.x12, I v3.x13, I v3.x14, I v3.x15, I v3.x16, I v3.x17, I v3.x18, I v3.x19, I v3.x20, I v3.x21]) (l2 := [I ((E7 v3 k5 e4.start).x0), I ((E7 v3 k5 e4.start).x1), I ((E7 v3 k5 e4.start).x2), I ((E7 v3 k5 e4.start).x3), I ((E7 v3 k5 e4.start).x4), I ((E7 v3 k5 e4.start).x5), I ((E7 v3 k5 e4.start).x6), I ((E7 v3 k5 e4.start).x7), I ((E7 v3 k5 e4.start).x8), I ((E7 v3 k5 e4.start).x9), I ((E7 v3 k5 e4.start).x10), I ((E7 v3 k5 e4.start).x11), I ((E7 v3 k5 e4.start).x12), I ((E7 v3 k5 e4.start).x13), I ((E7 v3 k5 e4.start).x14), I ((E7 v3 k5 e4.start).x15), I ((E7 v3 k5 e4.start).x16), I ((E7 v3 k5 e4.start).x17), I ((E7 v3 k5 e4.start).x18), I ((E7 v3 k5 e4.start).x19), I ((E7 v3 k5 e4.start).x20), I ((E7 v3 k5 e4.start).x21)]) (by kernel_rfl) (by kernel_rfl) (by simp only [List.length_cons, List.length_nil]; omega) (by rw [Nat.zero_add]; exact aA.splice_eq v3 k5 e4.start hb_k5) (by kernel_rfl) rfl rfl ?_
 refine cF ?_
 refine bB ?_
 refine zb ?_
 exact eZ (zv [(0, 0), (1, 1)] [0, 1, 4, 5] 2) (⟨_, _, h, rfl⟩)
 exact aL (zv [(0, 0), (1, 1)] [0, 1] 2) (bK (hj1 _ h))
def oS  (n : Nat)  : Option Bool := (nE n (aJ.mk 1 (⟨#[]⟩ : ByteArray) ([] : List bD) ([] : List cU) [(aJ.mk 2 (⟨#[]⟩ : ByteArray) ([] : List bD) ([] : List cU) ([] : List aJ))]) 1).bind fun (y1 : (bA × Int)) => (jF n (bH.mk [(bY.mk 2 (⟨#[]⟩ : ByteArray) 0 0 (⟨#[]⟩ : ByteArray) [(bM.mk 9 0 7 (⟨#[]⟩ : ByteArray))])]) (bS.mk ([] : List dM)) (cY.mk false false 100) y1.1 ([] : List aR)).bind fun (y2 : ((List aU) × Int)) => (gd [((y2.2 == 0) && ((List.length y2.1 : Int) == 2))] (idx y2.1 0)).bind fun (e3 : aU) => (gd [(((y2.2 == 0) && ((List.length y2.1 : Int) == 2)) && (e3.Style.x9 == 0))] (idx y2.1 1)).bind fun (e4 : aU) => (gd [((((y2.2 == 0) && ((List.length y2.1 : Int) == 2)) && (e3.Style.x9 == 0)) && (e4.Style.x9 == 7))] (idx y2.1 1)).bind fun (e5 : aU) => (gd [(((((y2.2 == 0) && ((List.length y2.1 : Int) == 2)) && (e3.Style.x9 == 0)) && (e4.Style.x9 == 7)) && (e5.Style.x2 == 16))] (rP n)).bind fun (y6 : aA) => some ((((((y2.2 == 0) && ((List.length y2.1 : Int) == 2)) && (e3.Style.x9 == 0)) && (e4.Style.x9 == 7)) && (e5.Style.x2 == 16)) && (y6.x14 == 1048576))
theorem Di  (n : Nat)  (r : Bool) (h : oS n  = some r) : dI E 20 0 [] [] (B2 r) [] := by
 refine gT Tryz.func20 rfl ?_
 unfold oS at h
 refine za [] ?_
 refine zx fun _ => ?_
 refine zk 1 ?_
 refine rG (e := 70) (sz := 5) (len := 1) (r := [I 2, Sx (⟨#[]⟩ : ByteArray), .lit [], .lit [], .lit []]) (l' := List.map bE [(aJ.mk 2 (⟨#[]⟩ : ByteArray) ([] : List bD) ([] : List cU) ([] : List aJ))]) (nm := 2) (by kernel_rfl) (by simp only [List.map_cons, List.map_nil, iA]; kernel_rfl) (by kernel_rfl) (by kernel_rfl) rfl rfl rfl ?_
 refine zk 1 ?_
 obtain ⟨y1, he, h⟩ := aB h
 refine zc fok28 (uY n _ _ y1 he) ?_
 clear he
 refine zk 6 ?_
 refine ze [1] ?_
 refine za [1, 3] ?_
 refine zx fun _ => ?_
 refine zk 4 ?_
 obtain ⟨y2, he, h⟩ := aB h
 refine zc Wn (oD n _ _ _ _ _ y2 he) ?_
 clear he
 refine zk 5 ?_
 refine mC [4, 5] (L2 := [L5 4 y2.1, C6 5 y2.2]) (G2 := [(2, .tok 70 5 (List.length [(aJ.mk 2 (⟨#[]⟩ : ByteArray) ([] : List bD) ([] : List cU) ([] : List aJ))])), L4 8 y1.1, (12, .tok 81 4 (List.length [(bM.mk 9 0 7 (⟨#[]⟩ : ByteArray))])), (14, .tok 63 6 (List.length [(bY.mk 2 (⟨#[]⟩ : ByteArray) 0 0 (⟨#[]⟩ : ByteArray) [(bM.mk 9 0 7 (⟨#[]⟩ : ByteArray))])])), (16, .blk 31 [.app 14 (List.map bF [(bY.mk 2 (⟨#[]⟩ : ByteArray) 0 0 (⟨#[]⟩ : ByteArray) [(bM.mk 9 0 7 (⟨#[]⟩ : ByteArray))])])])]) 28 ?_
 refine zx fun _ => ?_
 refine zk 3 ?_
 refine zE (B6 y2.1) ?_
 refine lM (e := [y2.2 == 0]) [(29, B6 y2.1, some 1)] (v := .c (I (List.length y2.1 : Int))) (foot := []) (by kernel_rfl) (by kernel_rfl) (by kernel_rfl) (fun hg => lY (enc := aW) (l := y2.1) (by kernel_rfl)) rfl rfl ?_
 refine zE (.c (Bo ((List.length y2.1 : Int) == 2))) ?_
 refine zP (.bool ((y2.2 == 0) && ((List.length y2.1 : Int) == 2))) ?_
 refine zk 1 ?_
 refine zE (B6 y2.1) ?_
 obtain ⟨e3, he, h⟩ := aB h
 refine lM (e := [((y2.2 == 0) && ((List.length y2.1 : Int) == 2))]) [(34, B6 y2.1, some 1)] (v := .c (B9 e3.ID e3.Style)) (foot := []) (by kernel_rfl) (by kernel_rfl) (by kernel_rfl) (fun hg => eK (enc := aW) (sz := 23) (l := y2.1) (ix := 0) (cD he hg) (by kernel_rfl) (by kernel_rfl) (by kernel_rfl)) rfl rfl ?_
 clear he
 refine zE (B8 e3.Style) ?_
 refine zE (.c (.imm [I e3.Style.x9, I e3.Style.x10, I e3.Style.x11, I e3.Style.x12, I e3.Style.x13, I e3.Style.x14, I e3.Style.x15, I e3.Style.x16, I e3.Style.x17, I e3.Style.x18, I e3.Style.x19, I e3.Style.x20, I e3.Style.x21])) ?_
 refine zE (A6 e3.Style.x9) ?_
 refine zE (B2 (e3.Style.x9 == 0)) ?_
 refine zP (.bool (((y2.2 == 0) && ((List.length y2.1 : Int) == 2)) && (e3.Style.x9 == 0))) ?_
 refine zk 1 ?_
 refine zE (B6 y2.1) ?_
 obtain ⟨e4, he, h⟩ := aB h
 refine lM (e := [(((y2.2 == 0) && ((List.length y2.1 : Int) == 2)) && (e3.Style.x9 == 0))]) [(42, B6 y2.1, some 1)] (v := .c (B9 e4.ID e4.Style)) (foot := []) (by kernel_rfl) (by kernel_rfl) (by kernel_rfl) (fun hg => eK (enc := aW) (sz := 23) (l := y2.1) (ix := 1) (cD he hg) (by kernel_rfl) (by kernel_rfl) (by kernel_rfl)) rfl rfl ?_
 clear he
 refine zE (B8 e4.Style) ?_
 refine zE (.c (.imm [I e4.Style.x9, I e4.Style.x10, I e4.Style.x11, I e4.Style.x12, I e4.Style.x13, I e4.Style.x14, I e4.Style.x15, I e4.Style.x16, I e4.Style.x17, I e4.Style.x18, I e4.Style.x19, I e4.Style.x20, I e4.Style.x21])) ?_
 refine zE (A6 e4.Style.x9) ?_
 refine zE (B2 (e4.Style.x9 == 7)) ?_
 refine zP (.bool ((((y2.2 == 0) && ((List.length y2.1 : Int) == 2)) && (e3.Style.x9 == 0)) && (e4.Style.x9 == 7))) ?_
 refine Zd 1 (L' := [L5 4 y2.1, C6 5 y2.2, C6 26 y2.2, (27, B2 (y2.2 == 0)), (28, B2 (y2.2 == 0)), (29, .cnd [y2.2 == 0] (B6 y2.1)), (30, .cnd [y2.2 == 0] (.c (I (List.length y2.1 : Int)))), (31, .cnd [y2.2 == 0] (.c (Bo ((List.length y2.1 : Int) == 2)))), (32, .c (Bo ((y2.2 == 0) && ((List.length y2.1 : Int) == 2)))), (33, .c (Bo ((y2.2 == 0) && ((List.length y2.1 : Int) == 2)))), (34, .cnd [((y2.2 == 0) && ((List.length y2.1 : Int) == 2))] (B6 y2.1)), (35, .cnd [((y2.2 == 0) && ((List.length y2.1 : Int) == 2))] (.c (B9 e3.ID e3.Style))), (36, .cnd [((y2.2 == 0) && ((List.length y2.1 : Int) == 2))] (B8 e3.Style)), (37, .cnd [((y2.2 == 0) && ((List.length y2.1 : Int) == 2))] (.c (.imm [I e3.Style.x9, I e3.Style.x10, I e3.Style.x11, I e3.Style.x12, I e3.Style.x13, I e3.Style.x14, I e3.Style.x15, I e3.Style.x16, I e3.Style.x17, I e3.Style.x18, I e3.Style.x19, I e3.Style.x20, I e3.Style.x21]))), (38, .cnd [((y2.2 == 0) && ((List.length y2.1 : Int) == 2))] (A6 e3.Style.x9)), (39, .cnd [((y2.2 == 0) && ((List.length y2.1 : Int) == 2))] (B2 (e3.Style.x9 == 0))), (40, .c (Bo (((y2.2 == 0) && ((List.length y2.1 : Int) == 2)) && (e3.Style.x9 == 0)))), (41, .c (Bo (((y2.2 == 0) && ((List.length y2.1 : Int) == 2)) && (e3.Style.x9 == 0)))), (42, .cnd [(((y2.2 == 0) && ((List.length y2.1 : Int) == 2)) && (e3.Style.x9 == 0))] (B6 y2.1)), (43, .cnd [(((y2.2 == 0) && ((List.length y2.1 : Int) == 2)) && (e3.Style.x9 == 0))] (.c (B9 e4.ID e4.Style))), (44, .cnd [(((y2.2 == 0) && ((List.length y2.1 : Int) == 2)) && (e3.Style.x9 == 0))] (B8 e4.Style)), (45, .cnd [(((y2.2 == 0) && ((List.length y2.1 : Int) == 2)) && (e3.Style.x9 == 0))] (.c (.imm [I e4.Style.x9, I e4.Style.x10, I e4.Style.x11, I e4.Style.x12, I e4.Style.x13, I e4.Style.x14, I e4.Style.x15, I e4.Style.x16, I e4.Style.x17, I e4.Style.x18, I e4.Style.x19, I e4.Style.x20, I e4.Style.x21]))), (46, .cnd [(((y2.2 == 0) && ((List.length y2.1 : Int) == 2)) && (e3.Style.x9 == 0))] (A6 e4.Style.x9)), (47, .cnd [(((y2.2 == 0) && ((List.length y2.1 : Int) == 2)) && (e3.Style.x9 == 0))] (B2 (e4.Style.x9 == 7))), (48, .c (Bo ((((y2.2 == 0) && ((List.length y2.1 : Int) == 2)) && (e3.Style.x9 == 0)) && (e4.Style.x9 == 7)))), (49, .c (Bo ((((y2.2 == 0) && ((List.length y2.1 : Int) == 2)) && (e3.Style.x9 == 0)) && (e4.Style.x9 == 7))))]) (G' := [(2, .tok 70 5 (List.length [(aJ.mk 2 (⟨#[]⟩ : ByteArray) ([] : List bD) ([] : List cU) ([] : List aJ))])), L4 8 y1.1, (12, .tok 81 4 (List.length [(bM.mk 9 0 7 (⟨#[]⟩ : ByteArray))])), (14, .tok 63 6 (List.length [(bY.mk 2 (⟨#[]⟩ : ByteArray) 0 0 (⟨#[]⟩ : ByteArray) [(bM.mk 9 0 7 (⟨#[]⟩ : ByteArray))])])), (16, .blk 31 [.app 14 (List.map bF [(bY.mk 2 (⟨#[]⟩ : ByteArray) 0 0 (⟨#[]⟩ : ByteArray) [(bM.mk 9 0 7 (⟨#[]⟩ : ByteArray))])])])]) (X' := []) ?_
 refine zE (B6 y2.1) ?_
 obtain ⟨e5, he, h⟩ := aB h
 refine lM (e := [((((y2.2 == 0) && ((List.length y2.1 : Int) == 2)) && (e3.Style.x9 == 0)) && (e4.Style.x9 == 7))]) [(50, B6 y2.1, some 1)] (v := .c (B9 e5.ID e5.Style)) (foot := []) (by kernel_rfl) (by kernel_rfl) (by kernel_rfl) (fun hg => eK (enc := aW) (sz := 23) (l := y2.1) (ix := 1) (cD he hg) (by kernel_rfl) (by kernel_rfl) (by kernel_rfl)) rfl rfl ?_
 clear he
 refine zE (B8 e5.Style) ?_
 refine zE (.c (.imm [I e5.Style.x2, I e5.Style.x3, I e5.Style.x4, I e5.Style.x5, I e5.Style.x6, I e5.Style.x7, I e5.Style.x8, I e5.Style.x9, I e5.Style.x10, I e5.Style.x11, I e5.Style.x12, I e5.Style.x13, I e5.Style.x14, I e5.Style.x15, I e5.Style.x16, I e5.Style.x17, I e5.Style.x18, I e5.Style.x19, I e5.Style.x20, I e5.Style.x21])) ?_
 refine zE (A6 e5.Style.x2) ?_
 refine zE (B2 (e5.Style.x2 == 16)) ?_
 refine zP (.bool (((((y2.2 == 0) && ((List.length y2.1 : Int) == 2)) && (e3.Style.x9 == 0)) && (e4.Style.x9 == 7)) && (e5.Style.x2 == 16))) ?_
 refine zk 1 ?_
 obtain ⟨y6, he, h⟩ := aB h
 refine Om [(((((y2.2 == 0) && ((List.length y2.1 : Int) == 2)) && (e3.Style.x9 == 0)) && (e4.Style.x9 == 7)) && (e5.Style.x2 == 16))] fok49 (fun hg => Bb n  y6 (cD he hg)) ?_
 clear he
 refine zE (A6 y6.x14) ?_
 refine zE (B2 (y6.x14 == 1048576)) ?_
 refine zP (.bool ((((((y2.2 == 0) && ((List.length y2.1 : Int) == 2)) && (e3.Style.x9 == 0)) && (e4.Style.x9 == 7)) && (e5.Style.x2 == 16)) && (y6.x14 == 1048576))) ?_
 refine zk 1 ?_
 refine mC [0] (L2 := [(0, .c (Bo ((((((y2.2 == 0) && ((List.length y2.1 : Int) == 2)) && (e3.Style.x9 == 0)) && (e4.Style.x9 == 7)) && (e5.Style.x2 == 16)) && (y6.x14 == 1048576))))]) (G2 := [(2, .tok 70 5 (List.length [(aJ.mk 2 (⟨#[]⟩ : ByteArray) ([] : List bD) ([] : List cU) ([] : List aJ))])), L4 8 y1.1, (12, .tok 81 4 (List.length [(bM.mk 9 0 7 (⟨#[]⟩ : ByteArray))])), (14, .tok 63 6 (List.length [(bY.mk 2 (⟨#[]⟩ : ByteArray) 0 0 (⟨#[]⟩ : ByteArray) [(bM.mk 9 0 7 (⟨#[]⟩ : ByteArray))])])), (16, .blk 31 [.app 14 (List.map bF [(bY.mk 2 (⟨#[]⟩ : ByteArray) 0 0 (⟨#[]⟩ : ByteArray) [(bM.mk 9 0 7 (⟨#[]⟩ : ByteArray))])])])]) 65 ?_
 cases h
 exact aI zr
end Go.Proofs.YtojkihhnioeggaaGreatDoor.S
