import Derived.Test.YtojkihhnioeggaaGreatDoorQCGM12
set_option linter.unusedVariables false
set_option linter.unusedSimpArgs false
set_option maxRecDepth 100000
set_option maxHeartbeats 4000000
namespace Go.Proofs.YtojkihhnioeggaaGreatDoor.S
open Go Go.Bm
def iN (v13 : Int) (p0 : (List bD)) (j14 : Unit → Option (List bD)) : Nat → Unit → Option (List bD)
 | 0, _ => none
 | n + 1, _ => (gd [(decide (v13 > 0))] (idx p0 (IntKind.wrap .i64 (v13 - 1)))).bind fun (e20 : bD) => (gd [(decide (v13 > 0))] (idx p0 v13)).bind fun (e21 : bD) => (if ((decide (v13 > 0)) && (decide (e20.ID > e21.ID))) = true then (idx p0 v13).bind fun (e22 : bD) => none else j14 ())
def eW (p0 : (List bD)) (j1 : Unit → Option (List bD)) : Nat → Int → Option (List bD)
 | 0, _ => none
 | n + 1, v13 => (if (decide (v13 < (List.length p0 : Int))) = true then (aS (fun (_ : Unit) => eW p0 j1 n (IntKind.wrap .i64 (v13 + 1))) (fun (j14 : Unit → Option (List bD)) => iN v13 p0 j14 n ())) else j1 ())
def kY  (n : Nat) (p0 : (List bD)) : Option (List bD) := (aS (fun (_ : Unit) => some p0) (fun (j1 : Unit → Option (List bD)) => eW p0 j1 n 0))
theorem xZ  (n : Nat) (p0 : (List bD)) (r : (List bD)) (h : kY n p0 = some r) : cW E 48 0 [E6 p0] [] (E6 r) [] := by
 refine eV Tryz.func48 rfl ?_
 unfold kY at h
 refine za [0] ?_
 refine aQ h (fun A j => ∀ u, j u = some r → A (mk [(0, E6 p0)] [] 0)) (fun u h => ?_) (fun j1 Aj1 hj1 h => ?_)
 refine za [2] ?_
 cases h
 exact aD zr
 refine za [0, 3] ?_
 refine aG ?_
 refine bA (fun n s => ∃ v13, eW p0 j1 n v13 = some r ∧ s = mk [(0, E6 p0), A6 3 v13] [] 0) n _ (zv [] [0, 3] 0) ⟨_, h, rfl⟩ (fun s ⟨v13, h, _⟩ => nomatch h) ?_
 rintro n s ⟨v13, h, rfl⟩
 rw [eW] at h
 refine aI ?_
 refine zx fun _ => ?_
 refine zk 2 ?_
 refine zl bM p0 ?_
 refine zk 1 ?_
 refine ze [0, 3, 9] ?_
 refine zi h (fun h => ?_) fun h => ?_
 refine aB ?_
 refine aQ h (fun A j => ∀ u, j u = some r → A (mk [(0, E6 p0), A6 3 v13] [] 0)) (fun u h => ?_) (fun j14 Aj14 hj14 h => ?_)
 refine aW ?_
 refine zb ?_
 exact dF (zv [] [0, 3] 0) (⟨_, h, rfl⟩)
 refine aG ?_
 refine za [0, 3, 4] ?_
 refine aG ?_
 refine bA (fun n s => ∃ u, iN v13 p0 j14 n u = some r ∧ s = mk [(0, E6 p0), A6 3 v13, A6 4 v13] [] 0) n _ (zv [] [0, 3, 4] 0) ⟨(), h, rfl⟩ (fun s ⟨u, h, _⟩ => nomatch h) ?_
 rintro n s ⟨u, h, rfl⟩
 rw [iN] at h
 refine aI ?_
 refine xI [[], [0], [1, 0], [2, 1, 0], [2, 1, 0], [4, 2, 1, 0], [3, 5, 2, 1, 0, 4], [6, 2, 3, 5, 1, 0, 4], [7, 2, 6, 3, 5, 1, 0, 4], [2, 1, 0], [2, 1, 0], [9, 10, 2, 1, 0], [11, 2, 9, 10, 1, 0], [12, 2, 11, 9, 10, 1, 0], [8, 13, 2, 7, 6, 3, 5, 1, 0, 4, 12, 11, 9, 10], [2, 14, 1, 0, 8, 13, 7, 6, 3, 5, 4, 12, 11, 9, 10]] fun _ => ?_
 refine zk 3 ?_
 refine zE (E6 p0) ?_
 refine zE (B7 v13) ?_
 refine zE (B7 (F5 v13)) ?_
 obtain ⟨e20, he, h⟩ := aC h
 refine jZ (e := [D5 v13 0]) [(16, E6 p0, some 1), (18, B7 (F5 v13), some 1)] (v := .c (B1 e20.ID e20.Style)) (foot := []) (by kernel_rfl) (by kernel_rfl) (by kernel_rfl) (fun hg => dN (enc := bM) (sz := 23) (l := p0) (ix := (F5 v13)) (bR he hg) (by kernel_rfl) (by kernel_rfl) (by kernel_rfl)) rfl rfl ?_
 clear he
 refine zE (.c (B1 e20.ID e20.Style)) ?_
 refine zE (B7 e20.ID) ?_
 refine zE (E6 p0) ?_
 refine zE (B7 v13) ?_
 obtain ⟨e21, he, h⟩ := aC h
 refine jZ (e := [D5 v13 0]) [(22, E6 p0, some 1), (23, B7 v13, some 1)] (v := .c (B1 e21.ID e21.Style)) (foot := []) (by kernel_rfl) (by kernel_rfl) (by kernel_rfl) (fun hg => dN (enc := bM) (sz := 23) (l := p0) (ix := v13) (bR he hg) (by kernel_rfl) (by kernel_rfl) (by kernel_rfl)) rfl rfl ?_
 clear he
 refine zE (.c (B1 e21.ID e21.Style)) ?_
 refine zE (B7 e21.ID) ?_
 refine zE (J5 e20.ID e21.ID) ?_
 refine zP (.bool ((D5 v13 0) && (D5 e20.ID e21.ID))) ?_
 refine jY [0, 3, 4, 28] (L2 := [(0, E6 p0), A6 3 v13, A6 4 v13, (28, B3 ((D5 v13 0) && (D5 e20.ID e21.ID)))]) (G2 := []) 16 ?_
 refine zi h (fun h => ?_) fun h => ?_
 refine aB ?_
 refine aI ?_
 refine aG ?_
 refine zx fun _ => ?_
 refine zk 2 ?_
 obtain ⟨e22, he, h⟩ := aC h
 refine zd bM he ?_
 clear he
 refine zk 3 ?_
 refine ze [0, 3, 4, 5] ?_
 cases h
 exact aH (zv [] [0, 3] 0) (bG (hj14 _ h))
 exact aH (zv [] [0] 0) (bG (hj1 _ h))
def gK (y2 : (List Int)) (p3 : bB) (p0 : bK) (p1 : bS) (p2 : cQ) (p4 : (List aT)) (j3 : List bD → Option ((List bD) × Int)) : Nat → List bD → Int → Option ((List bD) × Int)
 | 0, _, _ => none
 | n + 1, v9, v10 => (if (decide (v10 < (List.length y2 : Int))) = true then (idx y2 v10).bind fun (e11 : Int) => (iQ n p3 e11).bind fun (y12 : aR) => (qN n v9 y12.Parent).bind fun (y13 : aA) => (mU n p0 p1 p2 p3 p4 y12.ID y13 (y12.Parent == 0)).bind fun (y14 : aA) => (pV 184 v9 [(bD.mk y12.ID y14)]).bind fun (l15 : List bD) => gK y2 p3 p0 p1 p2 p4 j3 n l15 (IntKind.wrap .i64 (v10 + 1)) else j3 v9)
def mY  (n : Nat) (p0 : bK) (p1 : bS) (p2 : cQ) (p3 : bB) (p4 : (List aT)) : Option ((List bD) × Int) := (oW n p0 p1 p2 p3).bind fun (y1 : Int) => (if (y1 != 0) = true then some (([] : List bD), y1) else (pH n p3).bind fun (y2 : (List Int)) => (aS (fun (v18 : List bD) => (kY n v18).bind fun (y19 : (List bD)) => some (y19, 0)) (fun (j3 : List bD → Option ((List bD) × Int)) => gK y2 p3 p0 p1 p2 p4 j3 n ([] : List bD) 0)))
theorem Bh  (n : Nat) (p0 : bK) (p1 : bS) (p2 : cQ) (p3 : bB) (p4 : (List aT)) (r : ((List bD) × Int)) (h : mY n p0 p1 p2 p3 p4 = some r) : cW E 18 0 [.agg [C5 p0.Rules], .agg [F8 p1.Tokens], F9 p2, C0 p3, D6 p4] [] (.tup [E6 r.1, B7 r.2]) [] := by
 refine eV Tryz.func18 rfl ?_
 unfold mY at h
 refine za [4, 5, 6, 7, 8] ?_
 refine aI ?_
 refine zx fun _ => ?_
 refine zk 4 ?_
 obtain ⟨y1, he, h⟩ := aC h
 refine zc fok43 (Ao n _ _ _ _ y1 he) ?_
 clear he
 refine zk 1 ?_
 refine ze [4, 5, 6, 7, 8, 12] ?_
 refine za [4, 5, 6, 7, 8, 12, 23] ?_
 refine zi h (fun h => ?_) fun h => ?_
 refine za [10, 11] ?_
 cases h
 exact aD zr
 refine aB ?_
 refine za [4, 5, 6, 7, 8, 13] ?_
 refine zx fun _ => ?_
 refine zk 1 ?_
 obtain ⟨y2, he, h⟩ := aC h
 refine zc fok44 (Ej n _ y2 he) ?_
 clear he
 refine zk 1 ?_
 refine ze [4, 5, 6, 7, 8, 13, 14] ?_
 refine aQ h (fun A j => ∀ v18, j v18 = some r → A (mk [(13, .c (.app 0 (List.map bM v18)))] [C4 0 54 23 v18] 1)) (fun v18 h => ?_) (fun j3 Aj3 hj3 h => ?_)
 refine zx fun _ => ?_
 refine zk 1 ?_
 obtain ⟨y19, he, h⟩ := aC h
 refine zc fok48 (xZ n _ y19 he) ?_
 clear he
 refine zk 2 ?_
 refine ze [10, 11] ?_
 cases h
 exact aD zr
 refine za [4, 5, 6, 7, 8, 13, 14, 15] ?_
 refine aG ?_
 refine bA (fun n s => ∃ v9 v10, gK y2 p3 p0 p1 p2 p4 j3 n v9 v10 = some r ∧ s = mk [N3 p4, A1 5 0 0, M9, A1 7 2 0, A1 8 3 0, (13, .c (.app 4 (List.map bM v9))), J6 14 y2, A6 15 v10] [F2 p0.Rules, M1 p1.Tokens, M2 p2, I1 3 p3, C4 4 54 23 v9] 5) n _ (dT.trans (mO (L2 := [N3 p4, A1 5 0 0, M9, A1 7 2 0, A1 8 3 0, (13, .c (.app 19 (List.map bM ([] : List bD)))), J6 14 y2, I5 15]) (G2 := [F2 p0.Rules, M1 p1.Tokens, M2 p2, I1 3 p3, (19, .tok 54 23 (List.length ([] : List bD)))]) (lim2 := 20) 13 54 23 (by kernel_rfl) (by kernel_rfl) (by kernel_rfl) (by kernel_rfl)) (zv [(0, 0), (1, 1), (2, 2), (3, 3), (19, 4)] [4, 5, 6, 7, 8, 13, 14, 15] 5)) ⟨_, _, h, rfl⟩ (fun s ⟨v9, v10, h, _⟩ => nomatch h) ?_
 rintro n s ⟨v9, v10, h, rfl⟩
 rw [gK] at h
 refine aI ?_
 refine zx fun _ => ?_
 refine zk 2 ?_
 refine zl aN y2 ?_
 refine zk 1 ?_
 refine ze [4, 5, 6, 7, 8, 13, 14, 15, 30] ?_
 refine zi h (fun h => ?_) fun h => ?_
 refine aB ?_
 refine aI ?_
 refine aG ?_
 refine xI [[], [], [], [1, 2], [3, 1, 2], [0, 4, 3, 1, 2], [], [6, 5, 0, 1, 2, 3, 4]] fun _ => ?_
 refine zk 3 ?_
 obtain ⟨e11, he, h⟩ := aC h
 refine zd aN he ?_
 clear he
 refine zk 1 ?_
 obtain ⟨y12, he, h⟩ := aC h
 refine zc Mg (mZ n _ _ y12 he) ?_
 clear he
 refine zk 2 ?_
 refine ze [4, 5, 6, 7, 8, 13, 14, 15, 16] ?_
 refine Rg [[], [], [1], [], [], [], [], [], [], [8], [], [], [11], [10, 12, 11], [], [14], [15, 14], [3, 4, 5, 6, 7, 9, 13, 16, 8, 10, 12, 11, 15, 14], [2, 17, 1, 3, 4, 5, 6, 7, 9, 13, 16, 8, 10, 12, 11, 15, 14], [18, 2, 17, 1, 3, 4, 5, 6, 7, 9, 13, 16, 8, 10, 12, 11, 15, 14], [0, 19, 17, 18, 2, 1, 3, 4, 5, 6, 7, 9, 13, 16, 8, 10, 12, 11, 15, 14], [20, 0, 1, 2, 3, 4, 5, 6, 7, 8, 9, 10, 11, 12, 13, 14, 15, 16, 17, 18, 19]] fun _ => ?_
 refine zk 13 ?_
 obtain ⟨y13, he, h⟩ := aC h
 refine zc fok47 (Hk n _ _ y13 he) ?_
 clear he
 refine zk 3 ?_
 obtain ⟨y14, he, h⟩ := aC h
 refine zc fok46 (Aj n _ _ _ _ _ _ _ _ y14 he) ?_
 clear he
 refine zk 2 ?_
 obtain ⟨l15, he, h⟩ := aC h
 refine cH (enc := bM) (l := v9) (els := [bD.mk y12.ID y14]) (r := l15) (old := some 4) (e := 54) (sz := 23) (bytes := 184) (k := (H1 v9)) (nm := 37) he (by kernel_rfl) (by kernel_rfl) (fun x => by kernel_rfl) (by kernel_rfl) (by kernel_rfl) rfl rfl rfl ?_
 clear he
 refine zk 1 ?_
 refine bV ?_
 refine aW ?_
 refine zb ?_
 exact dF (zv [(0, 0), (1, 1), (2, 2), (3, 3), (37, 4)] [4, 5, 6, 7, 8, 13, 14, 15] 5) (⟨_, _, h, rfl⟩)
 exact aH (zv [(4, 0)] [13] 1) (bG (hj3 _ h))
def jO (p0 : (List bD)) (p1 : (List bD)) (j1 : Unit → Option Bool) : Nat → Int → Option Bool
 | 0, _ => none
 | n + 1, v4 => (if (decide (v4 < (List.length p0 : Int))) = true then (idx p0 v4).bind fun (e5 : bD) => (idx p1 v4).bind fun (e6 : bD) => (if (!(([e5.ID, e5.Style.x0, e5.Style.x1, e5.Style.x2, e5.Style.x3, e5.Style.x4, e5.Style.x5, e5.Style.x6, e5.Style.x7, e5.Style.x8, e5.Style.x9, e5.Style.x10, e5.Style.x11, e5.Style.x12, e5.Style.x13, e5.Style.x14, e5.Style.x15, e5.Style.x16, e5.Style.x17, e5.Style.x18, e5.Style.x19, e5.Style.x20, e5.Style.x21] : List Int) == [e6.ID, e6.Style.x0, e6.Style.x1, e6.Style.x2, e6.Style.x3, e6.Style.x4, e6.Style.x5, e6.Style.x6, e6.Style.x7, e6.Style.x8, e6.Style.x9, e6.Style.x10, e6.Style.x11, e6.Style.x12, e6.Style.x13, e6.Style.x14, e6.Style.x15, e6.Style.x16, e6.Style.x17, e6.Style.x18, e6.Style.x19, e6.Style.x20, e6.Style.x21])) = true then some false else jO p0 p1 j1 n (IntKind.wrap .i64 (v4 + 1))) else j1 ())
def oT  (n : Nat) (p0 : (List bD)) (p1 : (List bD)) : Option Bool := (if ((List.length p0 : Int) != (List.length p1 : Int)) = true then some false else (aS (fun (_ : Unit) => some true) (fun (j1 : Unit → Option Bool) => jO p0 p1 j1 n 0)))
theorem Ib  (n : Nat) (p0 : (List bD)) (p1 : (List bD)) (r : Bool) (h : oT n p0 p1 = some r) : cW E 19 0 [E6 p0, E6 p1] [] (B3 r) [] := by
 refine eV Tryz.func19 rfl ?_
 unfold oT at h
 refine za [0, 1] ?_
 refine aI ?_
 refine zx fun _ => ?_
 refine zk 1 ?_
 refine zl bM p0 ?_
 refine zk 1 ?_
 refine zl bM p1 ?_
 refine zk 1 ?_
 refine ze [0, 1, 10] ?_
 refine zi h (fun h => ?_) fun h => ?_
 refine za [4] ?_
 cases h
 exact aD zr
 refine aB ?_
 refine aQ h (fun A j => ∀ u, j u = some r → A (N7)) (fun u h => ?_) (fun j1 Aj1 hj1 h => ?_)
 refine za [4] ?_
 cases h
 exact aD zr
 refine za [0, 1, 5] ?_
 refine aG ?_
 refine bA (fun n s => ∃ v4, jO p0 p1 j1 n v4 = some r ∧ s = mk [(0, E6 p0), (1, E6 p1), A6 5 v4] [] 0) n _ (zv [] [0, 1, 5] 0) ⟨_, h, rfl⟩ (fun s ⟨v4, h, _⟩ => nomatch h) ?_
 rintro n s ⟨v4, h, rfl⟩
 rw [jO] at h
 refine aI ?_
 refine zx fun _ => ?_
 refine zk 2 ?_
 refine zl bM p0 ?_
 refine zk 1 ?_
 refine ze [0, 1, 5, 14] ?_
 refine zi h (fun h => ?_) fun h => ?_
 refine aB ?_
 refine aI ?_
 refine aG ?_
 refine xI [[], [], [0, 1], [2, 0, 1], [], [], [4, 5], [6, 4, 5], [3, 7, 2, 0, 1, 6, 4, 5]] fun _ => ?_
 refine zk 2 ?_
 obtain ⟨e5, he, h⟩ := aC h
 refine zd bM he ?_
 clear he
 refine zk 3 ?_
 obtain ⟨e6, he, h⟩ := aC h
 refine zd bM he ?_
 clear he
 refine zk 1 ?_
 refine zw (v := .c (Bo (!(([e5.ID, e5.Style.x0, e5.Style.x1, e5.Style.x2, e5.Style.x3, e5.Style.x4, e5.Style.x5, e5.Style.x6, e5.Style.x7, e5.Style.x8, e5.Style.x9, e5.Style.x10, e5.Style.x11, e5.Style.x12, e5.Style.x13, e5.Style.x14, e5.Style.x15, e5.Style.x16, e5.Style.x17, e5.Style.x18, e5.Style.x19, e5.Style.x20, e5.Style.x21] : List Int) == [e6.ID, e6.Style.x0, e6.Style.x1, e6.Style.x2, e6.Style.x3, e6.Style.x4, e6.Style.x5, e6.Style.x6, e6.Style.x7, e6.Style.x8, e6.Style.x9, e6.Style.x10, e6.Style.x11, e6.Style.x12, e6.Style.x13, e6.Style.x14, e6.Style.x15, e6.Style.x16, e6.Style.x17, e6.Style.x18, e6.Style.x19, e6.Style.x20, e6.Style.x21])))) [] (rdW_eqS (w := false) (xs := [e5.ID, e5.Style.x0, e5.Style.x1, e5.Style.x2, e5.Style.x3, e5.Style.x4, e5.Style.x5, e5.Style.x6, e5.Style.x7, e5.Style.x8, e5.Style.x9, e5.Style.x10, e5.Style.x11, e5.Style.x12, e5.Style.x13, e5.Style.x14, e5.Style.x15, e5.Style.x16, e5.Style.x17, e5.Style.x18, e5.Style.x19, e5.Style.x20, e5.Style.x21]) (ys := [e6.ID, e6.Style.x0, e6.Style.x1, e6.Style.x2, e6.Style.x3, e6.Style.x4, e6.Style.x5, e6.Style.x6, e6.Style.x7, e6.Style.x8, e6.Style.x9, e6.Style.x10, e6.Style.x11, e6.Style.x12, e6.Style.x13, e6.Style.x14, e6.Style.x15, e6.Style.x16, e6.Style.x17, e6.Style.x18, e6.Style.x19, e6.Style.x20, e6.Style.x21]) (T := 54) (r := (!(([e5.ID, e5.Style.x0, e5.Style.x1, e5.Style.x2, e5.Style.x3, e5.Style.x4, e5.Style.x5, e5.Style.x6, e5.Style.x7, e5.Style.x8, e5.Style.x9, e5.Style.x10, e5.Style.x11, e5.Style.x12, e5.Style.x13, e5.Style.x14, e5.Style.x15, e5.Style.x16, e5.Style.x17, e5.Style.x18, e5.Style.x19, e5.Style.x20, e5.Style.x21] : List Int) == [e6.ID, e6.Style.x0, e6.Style.x1, e6.Style.x2, e6.Style.x3, e6.Style.x4, e6.Style.x5, e6.Style.x6, e6.Style.x7, e6.Style.x8, e6.Style.x9, e6.Style.x10, e6.Style.x11, e6.Style.x12, e6.Style.x13, e6.Style.x14, e6.Style.x15, e6.Style.x16, e6.Style.x17, e6.Style.x18, e6.Style.x19, e6.Style.x20, e6.Style.x21]))) (by kernel_rfl) rfl (by kernel_rfl) (by kernel_rfl) (by kernel_rfl) rfl rfl rfl) ?_
 refine ze [0, 1, 5, 25] ?_
 refine zi h (fun h => ?_) fun h => ?_
 refine za [4] ?_
 cases h
 exact aD zr
 refine aB ?_
 refine aW ?_
 refine zb ?_
 exact dF (zv [] [0, 1, 5] 0) (⟨_, h, rfl⟩)
 exact aH (zv [] [] 0) (bG (hj1 _ h))
def mG (j1 : aA → Option aA) : Nat → Int → aA → Option aA
 | 0, _, _ => none
 | n + 1, v2, v3 => (if (decide (v2 < 22)) = true then (idx aZ v2).bind fun (e4 : cB) => (uU v2 22).bind fun (k5 : Nat) => mG j1 n (IntKind.wrap .i64 (v2 + 1)) (aA.set v3 k5 e4.start) else j1 v3)
def rV  (n : Nat)  : Option aA := (aS (fun (v8 : aA) => some v8) (fun (j1 : aA → Option aA) => mG j1 n 0 (aA.mk 0 0 0 0 0 0 0 0 0 0 0 0 0 0 0 0 0 0 0 0 0 0)))
theorem Br  (n : Nat)  (r : aA) (h : rV n  = some r) : cW E 49 0 [] [] (C3 r) [] := by
 refine eV Tryz.func49 rfl ?_
 unfold rV at h
 refine za [0] ?_
 refine za [0, 1] ?_
 refine aQ h (fun A j => ∀ v8, j v8 = some r → A (mk [I3, A1 1 1 0] [(0, A7), K1 1 v8] 2)) (fun v8 h => ?_) (fun j1 Aj1 hj1 h => ?_)
 refine za [0] ?_
 cases h
 exact aD zr
 refine za [0, 1, 4, 5] ?_
 refine aG ?_
 refine bA (fun n s => ∃ v2 v3, mG j1 n v2 v3 = some r ∧ s = mk [I3, A1 1 1 0, (4, .agg (List.flatten (List.map jL aZ))), A6 5 v2] [(0, A7), K1 1 v3] 2) n _ (zv [(0, 0), (1, 1)] [0, 1, 4, 5] 2) ⟨_, _, h, rfl⟩ (fun s ⟨v2, v3, h, _⟩ => nomatch h) ?_
 rintro n s ⟨v2, v3, h, rfl⟩
 rw [mG] at h
 refine za [0, 1, 4, 5, 6] ?_
 refine aI ?_
 refine zi h (fun h => ?_) fun h => ?_
 refine aB ?_
 refine aI ?_
 refine aG ?_
 refine zx fun _ => ?_
 refine zk 1 ?_
 obtain ⟨e4, he, h⟩ := aC h
 refine cZ (v := .agg [Bo e4.inherited, I e4.low, I e4.high, I e4.start]) (foot := []) (wV (enc := jL) (xs := aZ) (ix := v2) (e := e4) (len := 22) (j := ⟨.st [(4, 0, 1), (3, 1, 1), (3, 2, 1), (3, 3, 1)], 4, 32, [.bool false, .int .i64 0, .int .i64 0, .int .i64 0]⟩) (v := .agg [Bo e4.inherited, I e4.low, I e4.high, I e4.start]) he (by kernel_rfl) (by kernel_rfl) (fun x => by kernel_rfl) (by decide) (by kernel_rfl)) (by kernel_rfl) rfl rfl ?_
 clear he
 refine zk 3 ?_
 refine ze [0, 1, 2, 3, 4, 5] ?_
 refine zy fun _ => ?_
 refine zk 3 ?_
 obtain ⟨k5, he, h⟩ := aC h
 refine cZ (v := .c (.ptr 1 (0 + k5 * 1))) (foot := []) (xK (n := 1) (q := 0) (len := 22) (sz := 1) (k := k5) (ix := v2) he (by kernel_rfl)) (by kernel_rfl) rfl rfl ?_
 have hb_k5 := mR he; clear he
 refine qK (n := 1) (off := (0 + k5 * 1)) (T0 := 52) (sz := 1) (lx := [I e4.start]) (l := [I v3.x0, I v3.x1, I v3.x2, I v3.x3, I v3.x4, I v3.x5, I v3.x6, I v3.x7, I v3.x8, I v3.x9, I v3.x10, I v3.x11, I v3.x12, I v3.x13, I v3.x14, I v3.x15, I v3.x16, I v3.x17, I v3.x18, I v3.x19, I v3.x20, I v3.x21]) (l2 := [I ((E8 v3 k5 e4.start).x0), I ((E8 v3 k5 e4.start).x1), I ((E8 v3 k5 e4.start).x2), I ((E8 v3 k5 e4.start).x3), I ((E8 v3 k5 e4.start).x4), I ((E8 v3 k5 e4.start).x5), I ((E8 v3 k5 e4.start).x6), I ((E8 v3 k5 e4.start).x7), I ((E8 v3 k5 e4.start).x8), I ((E8 v3 k5 e4.start).x9), I ((E8 v3 k5 e4.start).x10), I ((E8 v3 k5 e4.start).x11), I ((E8 v3 k5 e4.start).x12), I ((E8 v3 k5 e4.start).x13), I ((E8 v3 k5 e4.start).x14), I ((E8 v3 k5 e4.start).x15), I ((E8 v3 k5 e4.start).x16), I ((E8 v3 k5 e4.start).x17), I ((E8 v3 k5 e4.start).x18), I ((E8 v3 k5 e4.start).x19), I ((E8 v3 k5 e4.start).x20), I ((E8 v3 k5 e4.start).x21)]) (by kernel_rfl) (by kernel_rfl) (by simp only [List.length_cons, List.length_nil]; omega) (by rw [Nat.zero_add]; exact aA.splice_eq v3 k5 e4.start hb_k5) (by kernel_rfl) rfl rfl ?_
 refine bV ?_
 refine aW ?_
 refine zb ?_
 exact dF (zv [(0, 0), (1, 1)] [0, 1, 4, 5] 2) (⟨_, _, h, rfl⟩)
 exact aH (zv [(0, 0), (1, 1)] [0, 1] 2) (bG (hj1 _ h))
def pE  (n : Nat)  : Option Bool := (nN n (aL.mk 1 (⟨#[]⟩ : ByteArray) ([] : List bF) ([] : List cR) [(aL.mk 2 (⟨#[]⟩ : ByteArray) ([] : List bF) ([] : List cR) ([] : List aL))]) 1).bind fun (y1 : (bB × Int)) => (lD n (bK.mk [(bZ.mk 2 (⟨#[]⟩ : ByteArray) 0 0 (⟨#[]⟩ : ByteArray) [(bN.mk 9 0 7 (⟨#[]⟩ : ByteArray))])]) (bS.mk ([] : List dL)) (cQ.mk false false 100) y1.1 ([] : List aT)).bind fun (y2 : ((List bD) × Int)) => (gd [((y2.2 == 0) && ((List.length y2.1 : Int) == 2))] (idx y2.1 0)).bind fun (e3 : bD) => (gd [(((y2.2 == 0) && ((List.length y2.1 : Int) == 2)) && (e3.Style.x9 == 0))] (idx y2.1 1)).bind fun (e4 : bD) => (gd [((((y2.2 == 0) && ((List.length y2.1 : Int) == 2)) && (e3.Style.x9 == 0)) && (e4.Style.x9 == 7))] (idx y2.1 1)).bind fun (e5 : bD) => (gd [(((((y2.2 == 0) && ((List.length y2.1 : Int) == 2)) && (e3.Style.x9 == 0)) && (e4.Style.x9 == 7)) && (e5.Style.x2 == 16))] (rV n)).bind fun (y6 : aA) => some ((((((y2.2 == 0) && ((List.length y2.1 : Int) == 2)) && (e3.Style.x9 == 0)) && (e4.Style.x9 == 7)) && (e5.Style.x2 == 16)) && (y6.x14 == 1048576))
theorem Dv  (n : Nat)  (r : Bool) (h : pE n  = some r) : cW E 20 0 [] [] (B3 r) [] := by
 refine eV Tryz.func20 rfl ?_
 unfold pE at h
 refine za [] ?_
 refine zx fun _ => ?_
 refine zk 1 ?_
 refine qR (e := 70) (sz := 5) (len := 1) (r := [I 2, Sx (⟨#[]⟩ : ByteArray), .lit [], .lit [], .lit []]) (l' := List.map bC [(aL.mk 2 (⟨#[]⟩ : ByteArray) ([] : List bF) ([] : List cR) ([] : List aL))]) (nm := 2) (by kernel_rfl) (by simp only [List.map_cons, List.map_nil, gD]; kernel_rfl) (by kernel_rfl) (by kernel_rfl) rfl rfl rfl ?_
 refine zk 1 ?_
 obtain ⟨y1, he, h⟩ := aC h
 refine zc fok28 (vD n _ _ y1 he) ?_
 clear he
 refine zk 6 ?_
 refine ze [1] ?_
 refine za [1, 3] ?_
 refine zx fun _ => ?_
 refine zk 4 ?_
 obtain ⟨y2, he, h⟩ := aC h
 refine zc fok17 (sK n _ _ _ _ _ y2 he) ?_
 clear he
 refine zk 5 ?_
 refine jY [4, 5] (L2 := [(4, E6 y2.1), A6 5 y2.2]) (G2 := [(2, .tok 70 5 (List.length [(aL.mk 2 (⟨#[]⟩ : ByteArray) ([] : List bF) ([] : List cR) ([] : List aL))])), I1 8 y1.1, (12, .tok 81 4 (List.length [(bN.mk 9 0 7 (⟨#[]⟩ : ByteArray))])), (14, .tok 63 6 (List.length [(bZ.mk 2 (⟨#[]⟩ : ByteArray) 0 0 (⟨#[]⟩ : ByteArray) [(bN.mk 9 0 7 (⟨#[]⟩ : ByteArray))])])), (16, .blk 31 [.app 14 (List.map aY [(bZ.mk 2 (⟨#[]⟩ : ByteArray) 0 0 (⟨#[]⟩ : ByteArray) [(bN.mk 9 0 7 (⟨#[]⟩ : ByteArray))])])])]) 28 ?_
 refine zx fun _ => ?_
 refine zk 3 ?_
 refine zE (E6 y2.1) ?_
 refine jZ (e := [y2.2 == 0]) [(29, E6 y2.1, some 1)] (v := .c (I (List.length y2.1 : Int))) (foot := []) (by kernel_rfl) (by kernel_rfl) (by kernel_rfl) (fun hg => lN (enc := bM) (l := y2.1) (by kernel_rfl)) rfl rfl ?_
 refine zE (.c (Bo ((List.length y2.1 : Int) == 2))) ?_
 refine zP (.bool ((y2.2 == 0) && ((List.length y2.1 : Int) == 2))) ?_
 refine zk 1 ?_
 refine zE (E6 y2.1) ?_
 obtain ⟨e3, he, h⟩ := aC h
 refine jZ (e := [((y2.2 == 0) && ((List.length y2.1 : Int) == 2))]) [(34, E6 y2.1, some 1)] (v := .c (B1 e3.ID e3.Style)) (foot := []) (by kernel_rfl) (by kernel_rfl) (by kernel_rfl) (fun hg => dN (enc := bM) (sz := 23) (l := y2.1) (ix := 0) (bR he hg) (by kernel_rfl) (by kernel_rfl) (by kernel_rfl)) rfl rfl ?_
 clear he
 refine zE (C2 e3.Style) ?_
 refine zE (.c (.imm [I e3.Style.x9, I e3.Style.x10, I e3.Style.x11, I e3.Style.x12, I e3.Style.x13, I e3.Style.x14, I e3.Style.x15, I e3.Style.x16, I e3.Style.x17, I e3.Style.x18, I e3.Style.x19, I e3.Style.x20, I e3.Style.x21])) ?_
 refine zE (B7 e3.Style.x9) ?_
 refine zE (B3 (e3.Style.x9 == 0)) ?_
 refine zP (.bool (((y2.2 == 0) && ((List.length y2.1 : Int) == 2)) && (e3.Style.x9 == 0))) ?_
 refine zk 1 ?_
 refine zE (E6 y2.1) ?_
 obtain ⟨e4, he, h⟩ := aC h
 refine jZ (e := [(((y2.2 == 0) && ((List.length y2.1 : Int) == 2)) && (e3.Style.x9 == 0))]) [(42, E6 y2.1, some 1)] (v := .c (B1 e4.ID e4.Style)) (foot := []) (by kernel_rfl) (by kernel_rfl) (by kernel_rfl) (fun hg => dN (enc := bM) (sz := 23) (l := y2.1) (ix := 1) (bR he hg) (by kernel_rfl) (by kernel_rfl) (by kernel_rfl)) rfl rfl ?_
 clear he
 refine zE (C2 e4.Style) ?_
 refine zE (.c (.imm [I e4.Style.x9, I e4.Style.x10, I e4.Style.x11, I e4.Style.x12, I e4.Style.x13, I e4.Style.x14, I e4.Style.x15, I e4.Style.x16, I e4.Style.x17, I e4.Style.x18, I e4.Style.x19, I e4.Style.x20, I e4.Style.x21])) ?_
 refine zE (B7 e4.Style.x9) ?_
 refine zE (B3 (e4.Style.x9 == 7)) ?_
 refine zP (.bool ((((y2.2 == 0) && ((List.length y2.1 : Int) == 2)) && (e3.Style.x9 == 0)) && (e4.Style.x9 == 7))) ?_
 refine Wp 1 (L' := [(4, E6 y2.1), A6 5 y2.2, A6 26 y2.2, (27, B3 (y2.2 == 0)), (28, B3 (y2.2 == 0)), (29, .cnd [y2.2 == 0] (E6 y2.1)), (30, .cnd [y2.2 == 0] (.c (I (List.length y2.1 : Int)))), (31, .cnd [y2.2 == 0] (.c (Bo ((List.length y2.1 : Int) == 2)))), (32, .c (Bo ((y2.2 == 0) && ((List.length y2.1 : Int) == 2)))), (33, .c (Bo ((y2.2 == 0) && ((List.length y2.1 : Int) == 2)))), (34, .cnd [((y2.2 == 0) && ((List.length y2.1 : Int) == 2))] (E6 y2.1)), (35, .cnd [((y2.2 == 0) && ((List.length y2.1 : Int) == 2))] (.c (B1 e3.ID e3.Style))), (36, .cnd [((y2.2 == 0) && ((List.length y2.1 : Int) == 2))] (C2 e3.Style)), (37, .cnd [((y2.2 == 0) && ((List.length y2.1 : Int) == 2))] (.c (.imm [I e3.Style.x9, I e3.Style.x10, I e3.Style.x11, I e3.Style.x12, I e3.Style.x13, I e3.Style.x14, I e3.Style.x15, I e3.Style.x16, I e3.Style.x17, I e3.Style.x18, I e3.Style.x19, I e3.Style.x20, I e3.Style.x21]))), (38, .cnd [((y2.2 == 0) && ((List.length y2.1 : Int) == 2))] (B7 e3.Style.x9)), (39, .cnd [((y2.2 == 0) && ((List.length y2.1 : Int) == 2))] (B3 (e3.Style.x9 == 0))), (40, .c (Bo (((y2.2 == 0) && ((List.length y2.1 : Int) == 2)) && (e3.Style.x9 == 0)))), (41, .c (Bo (((y2.2 == 0) && ((List.length y2.1 : Int) == 2)) && (e3.Style.x9 == 0)))), (42, .cnd [(((y2.2 == 0) && ((List.length y2.1 : Int) == 2)) && (e3.Style.x9 == 0))] (E6 y2.1)), (43, .cnd [(((y2.2 == 0) && ((List.length y2.1 : Int) == 2)) && (e3.Style.x9 == 0))] (.c (B1 e4.ID e4.Style))), (44, .cnd [(((y2.2 == 0) && ((List.length y2.1 : Int) == 2)) && (e3.Style.x9 == 0))] (C2 e4.Style)), (45, .cnd [(((y2.2 == 0) && ((List.length y2.1 : Int) == 2)) && (e3.Style.x9 == 0))] (.c (.imm [I e4.Style.x9, I e4.Style.x10, I e4.Style.x11, I e4.Style.x12, I e4.Style.x13, I e4.Style.x14, I e4.Style.x15, I e4.Style.x16, I e4.Style.x17, I e4.Style.x18, I e4.Style.x19, I e4.Style.x20, I e4.Style.x21]))), (46, .cnd [(((y2.2 == 0) && ((List.length y2.1 : Int) == 2)) && (e3.Style.x9 == 0))] (B7 e4.Style.x9)), (47, .cnd [(((y2.2 == 0) && ((List.length y2.1 : Int) == 2)) && (e3.Style.x9 == 0))] (B3 (e4.Style.x9 == 7))), (48, .c (Bo ((((y2.2 == 0) && ((List.length y2.1 : Int) == 2)) && (e3.Style.x9 == 0)) && (e4.Style.x9 == 7)))), (49, .c (Bo ((((y2.2 == 0) && ((List.length y2.1 : Int) == 2)) && (e3.Style.x9 == 0)) && (e4.Style.x9 == 7))))]) (G' := [(2, .tok 70 5 (List.length [(aL.mk 2 (⟨#[]⟩ : ByteArray) ([] : List bF) ([] : List cR) ([] : List aL))])), I1 8 y1.1, (12, .tok 81 4 (List.length [(bN.mk 9 0 7 (⟨#[]⟩ : ByteArray))])), (14, .tok 63 6 (List.length [(bZ.mk 2 (⟨#[]⟩ : ByteArray) 0 0 (⟨#[]⟩ : ByteArray) [(bN.mk 9 0 7 (⟨#[]⟩ : ByteArray))])])), (16, .blk 31 [.app 14 (List.map aY [(bZ.mk 2 (⟨#[]⟩ : ByteArray) 0 0 (⟨#[]⟩ : ByteArray) [(bN.mk 9 0 7 (⟨#[]⟩ : ByteArray))])])])]) (X' := []) ?_
 refine zE (E6 y2.1) ?_
 obtain ⟨e5, he, h⟩ := aC h
 refine jZ (e := [((((y2.2 == 0) && ((List.length y2.1 : Int) == 2)) && (e3.Style.x9 == 0)) && (e4.Style.x9 == 7))]) [(50, E6 y2.1, some 1)] (v := .c (B1 e5.ID e5.Style)) (foot := []) (by kernel_rfl) (by kernel_rfl) (by kernel_rfl) (fun hg => dN (enc := bM) (sz := 23) (l := y2.1) (ix := 1) (bR he hg) (by kernel_rfl) (by kernel_rfl) (by kernel_rfl)) rfl rfl ?_
 clear he
 refine zE (C2 e5.Style) ?_
 refine zE (.c (.imm [I e5.Style.x2, I e5.Style.x3, I e5.Style.x4, I e5.Style.x5, I e5.Style.x6, I e5.Style.x7, I e5.Style.x8, I e5.Style.x9, I e5.Style.x10, I e5.Style.x11, I e5.Style.x12, I e5.Style.x13, I e5.Style.x14, I e5.Style.x15, I e5.Style.x16, I e5.Style.x17, I e5.Style.x18, I e5.Style.x19, I e5.Style.x20, I e5.Style.x21])) ?_
 refine zE (B7 e5.Style.x2) ?_
 refine zE (B3 (e5.Style.x2 == 16)) ?_
 refine zP (.bool (((((y2.2 == 0) && ((List.length y2.1 : Int) == 2)) && (e3.Style.x9 == 0)) && (e4.Style.x9 == 7)) && (e5.Style.x2 == 16))) ?_
 refine zk 1 ?_
 obtain ⟨y6, he, h⟩ := aC h
 refine An [(((((y2.2 == 0) && ((List.length y2.1 : Int) == 2)) && (e3.Style.x9 == 0)) && (e4.Style.x9 == 7)) && (e5.Style.x2 == 16))] fok49 (fun hg => Br n  y6 (bR he hg)) ?_
 clear he
 refine zE (B7 y6.x14) ?_
 refine zE (B3 (y6.x14 == 1048576)) ?_
 refine zP (.bool ((((((y2.2 == 0) && ((List.length y2.1 : Int) == 2)) && (e3.Style.x9 == 0)) && (e4.Style.x9 == 7)) && (e5.Style.x2 == 16)) && (y6.x14 == 1048576))) ?_
 refine zk 1 ?_
 refine jY [0] (L2 := [(0, .c (Bo ((((((y2.2 == 0) && ((List.length y2.1 : Int) == 2)) && (e3.Style.x9 == 0)) && (e4.Style.x9 == 7)) && (e5.Style.x2 == 16)) && (y6.x14 == 1048576))))]) (G2 := [(2, .tok 70 5 (List.length [(aL.mk 2 (⟨#[]⟩ : ByteArray) ([] : List bF) ([] : List cR) ([] : List aL))])), I1 8 y1.1, (12, .tok 81 4 (List.length [(bN.mk 9 0 7 (⟨#[]⟩ : ByteArray))])), (14, .tok 63 6 (List.length [(bZ.mk 2 (⟨#[]⟩ : ByteArray) 0 0 (⟨#[]⟩ : ByteArray) [(bN.mk 9 0 7 (⟨#[]⟩ : ByteArray))])])), (16, .blk 31 [.app 14 (List.map aY [(bZ.mk 2 (⟨#[]⟩ : ByteArray) 0 0 (⟨#[]⟩ : ByteArray) [(bN.mk 9 0 7 (⟨#[]⟩ : ByteArray))])])])]) 65 ?_
 cases h
 exact aD zr
def fU  (n : Nat) (p0 : (List Int)) : Option Bool := (wA n p0).bind fun (y1 : aO) => (vY n y1 3).bind fun (y2 : (bB × aO)) => (sO n y2.2).bind fun (y3 : (bK × aO)) => (sD n y3.2).bind fun (y4 : (bS × aO)) => (wG n y4.2).bind fun (y5 : (cQ × aO)) => (qZ n y5.2 y2.1).bind fun (y6 : ((List aT) × aO)) => (aS (fun (v10 : Int) => (lD n y3.1 y4.1 (cQ.mk y5.1.Dark y5.1.High v10) y2.1 y6.1).bind fun (y11 : ((List bD) × Int)) => (mY n y3.1 y4.1 (cQ.mk y5.1.Dark y5.1.High v10) y2.1 y6.1).bind fun (y12 : ((List bD) × Int)) => (gd [(y11.2 == y12.2)] (oT n y11.1 y12.1)).bind fun (y13 : Bool) => (gd [((y11.2 == y12.2) && y13)] (pE n)).bind fun (y14 : Bool) => some (((y11.2 == y12.2) && y13) && y14)) (fun (j7 : Int → Option Bool) => (cK n y6.2 9).bind fun (y8 : (Int × aO)) => (if (y8.1 == 0) = true then (mM n y8.2 49 50).bind fun (y9 : (Int × aO)) => j7 y9.1 else j7 y5.1.Scale)))
theorem uF  (n : Nat) (p0 : (K3)) (r : Bool) (h : fU n p0 = some r) : cW E 3 0 [.c (D4 p0)] [] (B3 r) [] := by
 refine eV Tryz.func3 rfl ?_
 unfold fU at h
 refine za [0] ?_
 refine zx fun _ => ?_
 refine zk 1 ?_
 obtain ⟨y1, he, h⟩ := aC h
 refine tB (F := 9) (As := [.c (D4 p0)]) (Bs := [.c (D4 p0)]) (σ := [(0, 2)]) (k := 0) (kn := 0) (nm := 2) (Gc := []) (Gf := [E4 y1]) (r := .c (.ptr 0 0)) (v := .c (.ptr 2 0)) (by kernel_rfl) fok9 ⟨.inl (by kernel_rfl), trivial⟩ (Mc n _ y1 he) (by kernel_rfl) (by kernel_rfl) (by kernel_rfl) (by kernel_rfl) (by kernel_rfl) (by kernel_rfl) rfl rfl rfl ?_
 clear he
 refine zk 1 ?_
 refine ze [3] ?_
 refine zx fun _ => ?_
 refine zk 1 ?_
 obtain ⟨y2, he, h⟩ := aC h
 refine zo [(0, 2)] fok10 (Ob n _ _ y2 he) ?_
 clear he
 refine zk 2 ?_
 refine ze [3, 4] ?_
 refine xI [[], [0], [], [2, 1, 0], [], [4, 3, 2, 1, 0], [], [], [6, 7, 5, 4, 3, 2, 1, 0], [], [], [], [9, 1, 8, 0, 10, 11, 6, 7, 5, 4, 3, 2], [10, 3, 12, 0, 1, 2, 9, 11, 8, 6, 7, 5, 4], [11, 5, 13, 0, 1, 2, 3, 4, 9, 10, 12, 8, 6, 7], [8, 14, 0, 1, 2, 3, 4, 5, 6, 7, 9, 10, 11, 12, 13]] fun _ => ?_
 refine zk 1 ?_
 obtain ⟨y3, he, h⟩ := aC h
 refine zo [(0, 2)] fok11 (Kx n _ y3 he) ?_
 clear he
 refine zk 1 ?_
 obtain ⟨y4, he, h⟩ := aC h
 refine zo [(0, 2)] fok12 (Kt n _ y4 he) ?_
 clear he
 refine zk 1 ?_
 obtain ⟨y5, he, h⟩ := aC h
 refine zo [(0, 2)] fok13 (Og n _ y5 he) ?_
 clear he
 refine zk 2 ?_
 obtain ⟨y6, he, h⟩ := aC h
 refine zo [(0, 2)] fok14 (Ia n _ _ y6 he) ?_
 clear he
 refine zk 7 ?_
 refine jY [3, 4, 5, 6, 7, 8] (L2 := [N0, A1 4 6 0, A1 5 17 0, A1 6 18 0, A1 7 19 0, (8, D6 y6.1)]) (G2 := [(2, .blk 78 [D4 y6.2.L, I y6.2.At]), I1 6 y2.1, (17, .blk 31 [C5 y3.1.Rules]), (18, D8 y4.1.Tokens), (19, C6 y5.1)]) 24 ?_
 refine aQ h (fun A j => ∀ v10, j v10 = some r → A (mk [I7, O3, O9, A1 7 3 0, (8, D6 y6.1)] [I1 0 y2.1, (1, .blk 31 [C5 y3.1.Rules]), (2, D8 y4.1.Tokens), (3, .blk 38 [Bo y5.1.Dark, Bo y5.1.High, I v10])] 4)) (fun v10 h => ?_) (fun j7 Aj7 hj7 h => ?_)
 refine zx fun _ => ?_
 refine zk 5 ?_
 obtain ⟨y11, he, h⟩ := aC h
 refine zc fok17 (sK n _ _ _ _ _ y11 he) ?_
 clear he
 refine zk 5 ?_
 refine ze [4, 5, 6, 7, 8, 9, 10] ?_
 refine zx fun _ => ?_
 refine zk 5 ?_
 obtain ⟨y12, he, h⟩ := aC h
 refine zc fok18 (Bh n _ _ _ _ _ y12 he) ?_
 clear he
 refine zk 5 ?_
 refine ze [9, 10, 11, 12] ?_
 refine zx fun _ => ?_
 refine zk 4 ?_
 refine zE (E6 y11.1) ?_
 refine zE (E6 y12.1) ?_
 obtain ⟨y13, he, h⟩ := aC h
 refine An [y11.2 == y12.2] fok19 (fun hg => Ib n _ _ y13 (bR he hg)) ?_
 clear he
 refine zP (.bool ((y11.2 == y12.2) && y13)) ?_
 refine zk 1 ?_
 obtain ⟨y14, he, h⟩ := aC h
 refine An [(y11.2 == y12.2) && y13] fok20 (fun hg => Dv n  y14 (bR he hg)) ?_
 clear he
 refine zP (.bool (((y11.2 == y12.2) && y13) && y14)) ?_
 refine zk 1 ?_
 refine jY [2] (L2 := [(2, B3 (((y11.2 == y12.2) && y13) && y14))]) (G2 := [I1 0 y2.1, (1, .blk 31 [C5 y3.1.Rules]), (2, D8 y4.1.Tokens), (3, .blk 38 [Bo y5.1.Dark, Bo y5.1.High, I v10])]) 38 ?_
 cases h
 exact aD zr
 refine zx fun _ => ?_
 refine zk 1 ?_
 obtain ⟨y8, he, h⟩ := aC h
 refine zo [(0, 2)] cP (bJ n _ _ y8 he) ?_
 clear he
 refine zk 1 ?_
 refine ze [3, 4, 5, 6, 7, 8, 28] ?_
 refine zi h (fun h => ?_) fun h => ?_
 refine aW ?_
 refine zy fun _ => ?_
 refine zk 1 ?_
 obtain ⟨y9, he, h⟩ := aC h
 refine zo [(0, 2)] Ol (nU n _ _ _ y9 he) ?_
 clear he
 refine zk 2 ?_
 refine bV ?_
 exact dF (zv [(6, 0), (17, 1), (18, 2), (19, 3)] [4, 5, 6, 7, 8] 4) (hj7 _ h)
 exact aH (zv [(6, 0), (17, 1), (18, 2), (19, 3)] [4, 5, 6, 7, 8] 4) (aB (hj7 _ h))
end Go.Proofs.YtojkihhnioeggaaGreatDoor.S
