import Derived.Test.YtojkihhnioeggaaGreatDoorQCGM8
set_option linter.unusedVariables false
set_option linter.unusedSimpArgs false
set_option maxRecDepth 100000
set_option maxHeartbeats 4000000
namespace Go.Proofs.YtojkihhnioeggaaGreatDoor.S
open Go Go.Bm
def gF (p3 : bB) (v34 : List (Int × aA)) (j35 : List bD → Option ((List bD) × Int)) : Nat → List bD → Int → Option ((List bD) × Int)
 | 0, _, _ => none
 | n + 1, v39, v40 => (if (decide (v40 < (List.length p3.Nodes : Int))) = true then (idx p3.Nodes v40).bind fun (e41 : aR) => (some (eO e41.ID v34, kU e41.ID v34)).bind fun (y42 : (aA × Bool)) => (pV 184 v39 [(bD.mk e41.ID y42.1)]).bind fun (l43 : List bD) => gF p3 v34 j35 n l43 (IntKind.wrap .i64 (v40 + 1)) else j35 v39)
def gC (y17 : (List Int)) (y4 : jJ) (p0 : bK) (y15 : (List Int)) (p1 : bS) (p2 : cQ) (p3 : bB) (j16 : List (Int × aA) → Option ((List bD) × Int)) : Nat → Int → List (Int × aA) → Option ((List bD) × Int)
 | 0, _, _ => none
 | n + 1, v25, v26 => (if (decide (v25 < (List.length y17 : Int))) = true then (idx y17 v25).bind fun (e27 : Int) => (some (eO e27 y4.nodes, kU e27 y4.nodes)).bind fun (y28 : (aR × Bool)) => (some (eO y28.1.Parent v26, kU y28.1.Parent v26)).bind fun (y29 : (aA × Bool)) => (nA n (iP.mk y4 p0.Rules y15 p1 p2) e27 y29.1 (e27 == p3.Root)).bind fun (y30 : aA) => gC y17 y4 p0 y15 p1 p2 p3 j16 n (IntKind.wrap .i64 (v25 + 1)) (iU e27 y30 v26) else j16 v26)
def gH (p0 : bK) (j5 : List Int → Option ((List bD) × Int)) (p3 : bB) (y4 : jJ) (p1 : bS) (p2 : cQ) : Nat → Int → List Int → Option ((List bD) × Int)
 | 0, _, _ => none
 | n + 1, v8, v9 => (if (decide (v8 < (List.length p0.Rules : Int))) = true then (pV 8 v9 [v8]).bind fun (l10 : List Int) => gH p0 j5 p3 y4 p1 p2 n (IntKind.wrap .i64 (v8 + 1)) l10 else j5 v9)
def lD  (n : Nat) (p0 : bK) (p1 : bS) (p2 : cQ) (p3 : bB) (p4 : (List aT)) : Option ((List bD) × Int) := (mB n p0).bind fun (y1 : Int) => (if (y1 != 0) = true then some (([] : List bD), y1) else (lM n p1).bind fun (y2 : Int) => (if (y2 != 0) = true then some (([] : List bD), y2) else (if ((decide (p2.Scale < 50)) || (decide (p2.Scale > 400))) = true then some (([] : List bD), 1) else (qU n p3).bind fun (y3 : Int) => (if (y3 != 0) = true then some (([] : List bD), y3) else (sH n p3 p4).bind fun (y4 : jJ) => (aS (fun (v14 : List Int) => (dE n v14 p0).bind fun (y15 : (List Int)) => (aS (fun (v34 : List (Int × aA)) => (aS (fun (v46 : List bD) => some (v46, 0)) (fun (j35 : List bD → Option ((List bD) × Int)) => gF p3 v34 j35 n ([] : List bD) 0))) (fun (j16 : List (Int × aA) → Option ((List bD) × Int)) => (qT n p3).bind fun (y17 : (List Int)) => gC y17 y4 p0 y15 p1 p2 p3 j16 n 0 ([] : List (Int × aA))))) (fun (j5 : List Int → Option ((List bD) × Int)) => gH p0 j5 p3 y4 p1 p2 n 0 ([] : List Int)))))))
theorem sK  (n : Nat) (p0 : bK) (p1 : bS) (p2 : cQ) (p3 : bB) (p4 : (List aT)) (r : ((List bD) × Int)) (h : lD n p0 p1 p2 p3 p4 = some r) : cW E 17 0 [.agg [C5 p0.Rules], .agg [F8 p1.Tokens], F9 p2, C0 p3, D6 p4] [] (.tup [E6 r.1, B7 r.2]) [] := by
 refine eV Tryz.func17 rfl ?_
 unfold lD at h
 refine za [4, 5, 6, 7, 8] ?_
 refine aI ?_
 refine zx fun _ => ?_
 refine zk 1 ?_
 obtain ⟨y1, he, h⟩ := aC h
 refine zc fok34 (zU n _ y1 he) ?_
 clear he
 refine zk 1 ?_
 refine ze [4, 5, 6, 7, 8, 12] ?_
 refine za [4, 5, 6, 7, 8, 12, 26] ?_
 refine zi h (fun h => ?_) fun h => ?_
 refine za [10, 11] ?_
 cases h
 exact aD zr
 refine aB ?_
 refine aI ?_
 refine zx fun _ => ?_
 refine zk 1 ?_
 obtain ⟨y2, he, h⟩ := aC h
 refine zc fok35 (zT n _ y2 he) ?_
 clear he
 refine zk 1 ?_
 refine ze [4, 5, 6, 7, 8, 13] ?_
 refine za [4, 5, 6, 7, 8, 13, 31] ?_
 refine zi h (fun h => ?_) fun h => ?_
 refine za [10, 11] ?_
 cases h
 exact aD zr
 refine aB ?_
 refine aI ?_
 refine zx fun _ => ?_
 refine zk 4 ?_
 refine zE (B9 2 2) ?_
 refine zE (B7 p2.Scale) ?_
 refine zE (J5 p2.Scale 400) ?_
 refine zP (.bool (A3 p2.Scale 50 400)) ?_
 refine jY [4, 5, 6, 7, 8, 40] (L2 := [N3 p4, A1 5 0 0, M9, A1 7 2 0, A1 8 3 0, (40, B3 (A3 p2.Scale 50 400))]) (G2 := [F2 p0.Rules, M1 p1.Tokens, M2 p2, I1 3 p3]) 24 ?_
 refine zi h (fun h => ?_) fun h => ?_
 refine za [10, 11] ?_
 cases h
 exact aD zr
 refine aB ?_
 refine aI ?_
 refine zx fun _ => ?_
 refine zk 1 ?_
 obtain ⟨y3, he, h⟩ := aC h
 refine zc fok26 (Hv n _ y3 he) ?_
 clear he
 refine zk 1 ?_
 refine ze [4, 5, 6, 7, 8, 14] ?_
 refine za [4, 5, 6, 7, 8, 14, 44] ?_
 refine zi h (fun h => ?_) fun h => ?_
 refine za [10, 11] ?_
 cases h
 exact aD zr
 refine aB ?_
 refine xI [[], [], [0, 1], [], [3], [], [], [2, 4, 5, 6, 0, 1, 3], [], [8, 7, 2, 0, 1, 3, 4, 5, 6]] fun _ => ?_
 refine zk 2 ?_
 obtain ⟨y4, he, h⟩ := aC h
 refine zc fok36 (Kl n _ _ y4 he) ?_
 clear he
 refine zk 7 ?_
 refine ze [5, 8, 15] ?_
 refine aQ h (fun A j => ∀ v14, j v14 = some r → A (mk [A1 5 0 0, A1 8 1 0, A1 15 2 0] [F2 p0.Rules, I1 1 p3, M5 2 95 y4 p0.Rules 3 p1.Tokens p2.Dark p2.High p2.Scale, (3, E7 v14)] 4)) (fun v14 h => ?_) (fun j5 Aj5 hj5 h => ?_)
 refine aH (wX 0 (T := 31) (l := [C5 p0.Rules]) (l2 := [C5 p0.Rules]) (L2 := [(5, .c (.imm [C5 p0.Rules])), A1 8 1 0, A1 15 2 0]) (G2 := [I1 1 p3, M5 2 95 y4 p0.Rules 3 p1.Tokens p2.Dark p2.High p2.Scale, (3, E7 v14)]) (by kernel_rfl) (by kernel_rfl) (by kernel_rfl) (by kernel_rfl)) ?_
 refine zx fun _ => ?_
 refine zk 3 ?_
 obtain ⟨y15, he, h⟩ := aC h
 refine zo [(0, 3)] fok37 (oD n _ _ y15 he) ?_
 clear he
 refine ze [8, 15] ?_
 refine za [8, 15, 17] ?_
 refine aQ h (fun A j => ∀ v34, j v34 = some r → A (mk [L5, F6 17 1] [I1 0 p3, (1, .map true (List.map (eM (B4) mT) v34))] 2)) (fun v34 h => ?_) (fun j16 Aj16 hj16 h => ?_)
 refine za [8, 17, 20] ?_
 refine aQ h (fun A j => ∀ v46, j v46 = some r → A (mk [(20, .c (.app 0 (List.map bM v46)))] [C4 0 54 23 v46] 1)) (fun v46 h => ?_) (fun j35 Aj35 hj35 h => ?_)
 refine za [10, 11] ?_
 cases h
 exact aD zr
 refine zx fun _ => ?_
 refine zk 2 ?_
 refine zl aE p3.Nodes ?_
 refine zk 1 ?_
 refine ze [17, 20, 98, 99, 100] ?_
 refine aG ?_
 refine bA (fun n s => ∃ v39 v40, gF p3 v34 j35 n v39 v40 = some r ∧ s = mk [F6 17 0, (20, .c (.app 1 (List.map bM v39))), (98, F4 p3.Nodes), (99, .c (I (List.length p3.Nodes : Int))), A6 100 v40] [(0, .map true (List.map (eM (B4) mT) v34)), C4 1 54 23 v39] 2) n _ (dT.trans (mO (L2 := [F6 17 1, (20, .c (.app 7 (List.map bM ([] : List bD)))), (98, F4 p3.Nodes), (99, .c (I (List.length p3.Nodes : Int))), I5 100]) (G2 := [I1 0 p3, (1, .map true (List.map (eM (B4) mT) v34)), (7, .tok 54 23 (List.length ([] : List bD)))]) (lim2 := 8) 20 54 23 (by kernel_rfl) (by kernel_rfl) (by kernel_rfl) (by kernel_rfl)) (zv [(1, 0), (7, 1)] [17, 20, 98, 99, 100] 2)) ⟨_, _, h, rfl⟩ (fun s ⟨v39, v40, h, _⟩ => nomatch h) ?_
 rintro n s ⟨v39, v40, h, rfl⟩
 rw [gF] at h
 refine za [17, 20, 98, 99, 100, 101] ?_
 refine aI ?_
 refine zi h (fun h => ?_) fun h => ?_
 refine aB ?_
 refine aI ?_
 refine aG ?_
 refine zx fun _ => ?_
 obtain ⟨e41, he, h⟩ := aC h
 refine zd aE he ?_
 clear he
 refine zk 3 ?_
 refine ze [17, 20, 22, 98, 99, 100] ?_
 refine zy fun _ => ?_
 refine zk 6 ?_
 obtain ⟨y42, he, h⟩ := aC h
 refine zw (v := .agg [I y42.1.x0, I y42.1.x1, I y42.1.x2, I y42.1.x3, I y42.1.x4, I y42.1.x5, I y42.1.x6, I y42.1.x7, I y42.1.x8, I y42.1.x9, I y42.1.x10, I y42.1.x11, I y42.1.x12, I y42.1.x13, I y42.1.x14, I y42.1.x15, I y42.1.x16, I y42.1.x17, I y42.1.x18, I y42.1.x19, I y42.1.x20, I y42.1.x21]) [0] (dK (kf := (B4)) (enc := mT) (l := v34) (k := e41.ID) (ok := false) (kk := .int .i64) (j := ⟨.arr 22 3, 22, 176, [.int .i64 0, .int .i64 0, .int .i64 0, .int .i64 0, .int .i64 0, .int .i64 0, .int .i64 0, .int .i64 0, .int .i64 0, .int .i64 0, .int .i64 0, .int .i64 0, .int .i64 0, .int .i64 0, .int .i64 0, .int .i64 0, .int .i64 0, .int .i64 0, .int .i64 0, .int .i64 0, .int .i64 0, .int .i64 0]⟩) (p := y42) (v := .agg [I y42.1.x0, I y42.1.x1, I y42.1.x2, I y42.1.x3, I y42.1.x4, I y42.1.x5, I y42.1.x6, I y42.1.x7, I y42.1.x8, I y42.1.x9, I y42.1.x10, I y42.1.x11, I y42.1.x12, I y42.1.x13, I y42.1.x14, I y42.1.x15, I y42.1.x16, I y42.1.x17, I y42.1.x18, I y42.1.x19, I y42.1.x20, I y42.1.x21]) he (by kernel_rfl) iD (by kernel_rfl) (by kernel_rfl) (by kernel_rfl)) ?_
 clear he
 refine zk 2 ?_
 obtain ⟨l43, he, h⟩ := aC h
 refine cH (enc := bM) (l := v39) (els := [bD.mk e41.ID y42.1]) (r := l43) (old := some 1) (e := 54) (sz := 23) (bytes := 184) (k := (H1 v39)) (nm := 16) he (by kernel_rfl) (by kernel_rfl) (fun x => by kernel_rfl) (by kernel_rfl) (by kernel_rfl) rfl rfl rfl ?_
 clear he
 refine zk 1 ?_
 refine bV ?_
 refine aW ?_
 refine zb ?_
 exact dF (zv [(0, 0), (16, 1)] [17, 20, 98, 99, 100] 2) (⟨_, _, h, rfl⟩)
 exact aH (zv [(1, 0)] [20] 1) (bG (hj35 _ h))
 refine zx fun _ => ?_
 refine zk 1 ?_
 obtain ⟨y17, he, h⟩ := aC h
 refine zc fok41 (He n _ y17 he) ?_
 clear he
 refine zl aN y17 ?_
 refine zk 1 ?_
 refine ze [8, 15, 17, 73, 74, 75] ?_
 refine aG ?_
 refine bA (fun n s => ∃ v25 v26, gC y17 y4 p0 y15 p1 p2 p3 j16 n v25 v26 = some r ∧ s = mk [L5, A1 15 1 0, F6 17 2, J6 73 y17, (74, .c (I (List.length y17 : Int))), A6 75 v25] [I1 0 p3, F7 1 y4 p0.Rules y15 p1.Tokens p2, (2, .map true (List.map (eM (B4) mT) v26))] 3) n _ (dT.trans (sW 3 (T := 3) (sz := 1) (l := List.map aN y15) (L2 := [A1 8 1 0, A1 15 2 0, F6 17 8, J6 73 y17, (74, .c (I (List.length y17 : Int))), I5 75]) (G2 := [I1 1 p3, F7 2 y4 p0.Rules y15 p1.Tokens p2, (8, .map true (List.map (eM (B4) mT) ([] : List (Int × aA))))]) (by kernel_rfl) (by kernel_rfl) (by kernel_rfl)) (zv [(1, 0), (2, 1), (8, 2)] [8, 15, 17, 73, 74, 75] 3)) ⟨_, _, h, rfl⟩ (fun s ⟨v25, v26, h, _⟩ => nomatch h) ?_
 rintro n s ⟨v25, v26, h, rfl⟩
 rw [gC] at h
 refine za [8, 15, 17, 73, 74, 75, 76] ?_
 refine aI ?_
 refine zi h (fun h => ?_) fun h => ?_
 refine aB ?_
 refine aI ?_
 refine aG ?_
 refine zx fun _ => ?_
 obtain ⟨e27, he, h⟩ := aC h
 refine zd aN he ?_
 clear he
 refine zk 2 ?_
 refine ze [8, 15, 17, 19, 73, 74, 75] ?_
 refine zy fun _ => ?_
 refine zk 9 ?_
 obtain ⟨y28, he, h⟩ := aC h
 refine zw (v := .agg [I y28.1.ID, I y28.1.Parent, I y28.1.Kind, Sx y28.1.Key, C7 y28.1.Attrs, D3 y28.1.Actions, D4 y28.1.Kids]) [] (dK (kf := (B4)) (enc := aE) (l := y4.nodes) (k := e27) (ok := false) (kk := .int .i64) (j := ⟨.st [(3, 0, 1), (3, 1, 1), (3, 2, 1), (9, 3, 1), (55, 4, 1), (56, 5, 1), (22, 6, 1)], 7, 112, [.int .i64 0, .int .i64 0, .int .i64 0, .string ⟨#[]⟩, .slice none 0 0, .slice none 0 0, .slice none 0 0]⟩) (p := y28) (v := .agg [I y28.1.ID, I y28.1.Parent, I y28.1.Kind, Sx y28.1.Key, C7 y28.1.Attrs, D3 y28.1.Actions, D4 y28.1.Kids]) he (by kernel_rfl) iD (by kernel_rfl) (by kernel_rfl) (by kernel_rfl)) ?_
 clear he
 refine zk 1 ?_
 obtain ⟨y29, he, h⟩ := aC h
 refine zw (v := .agg [I y29.1.x0, I y29.1.x1, I y29.1.x2, I y29.1.x3, I y29.1.x4, I y29.1.x5, I y29.1.x6, I y29.1.x7, I y29.1.x8, I y29.1.x9, I y29.1.x10, I y29.1.x11, I y29.1.x12, I y29.1.x13, I y29.1.x14, I y29.1.x15, I y29.1.x16, I y29.1.x17, I y29.1.x18, I y29.1.x19, I y29.1.x20, I y29.1.x21]) [2] (dK (kf := (B4)) (enc := mT) (l := v26) (k := y28.1.Parent) (ok := false) (kk := .int .i64) (j := ⟨.arr 22 3, 22, 176, [.int .i64 0, .int .i64 0, .int .i64 0, .int .i64 0, .int .i64 0, .int .i64 0, .int .i64 0, .int .i64 0, .int .i64 0, .int .i64 0, .int .i64 0, .int .i64 0, .int .i64 0, .int .i64 0, .int .i64 0, .int .i64 0, .int .i64 0, .int .i64 0, .int .i64 0, .int .i64 0, .int .i64 0, .int .i64 0]⟩) (p := y29) (v := .agg [I y29.1.x0, I y29.1.x1, I y29.1.x2, I y29.1.x3, I y29.1.x4, I y29.1.x5, I y29.1.x6, I y29.1.x7, I y29.1.x8, I y29.1.x9, I y29.1.x10, I y29.1.x11, I y29.1.x12, I y29.1.x13, I y29.1.x14, I y29.1.x15, I y29.1.x16, I y29.1.x17, I y29.1.x18, I y29.1.x19, I y29.1.x20, I y29.1.x21]) he (by kernel_rfl) iD (by kernel_rfl) (by kernel_rfl) (by kernel_rfl)) ?_
 clear he
 refine zk 4 ?_
 obtain ⟨y30, he, h⟩ := aC h
 refine zc fok42 (Az n _ _ _ _ y30 he) ?_
 clear he
 refine lB (kf := (B4)) (enc := mT) (l := v26) (k := e27) (v := y30) (n := 2) (ag := true) (kk := .int .i64) (by kernel_rfl) iD (by kernel_rfl) (by kernel_rfl) rfl rfl ?_
 refine bV ?_
 refine aW ?_
 refine zb ?_
 exact dF (zv [(0, 0), (1, 1), (2, 2)] [8, 15, 17, 73, 74, 75] 3) (⟨_, _, h, rfl⟩)
 exact aH (zv [(0, 0), (2, 1)] [8, 17] 2) (bG (hj16 _ h))
 refine zx fun _ => ?_
 refine zk 2 ?_
 refine zl aY p0.Rules ?_
 refine zk 1 ?_
 refine jY [5, 8, 15, 56, 57] (L2 := [A1 5 0 0, A1 8 3 0, A1 15 37 0, (56, .c (I (List.length p0.Rules : Int))), I5 57]) (G2 := [F2 p0.Rules, M1 p1.Tokens, M2 p2, I1 3 p3, (37, .blk 95 [C8 y4.nodes, E2 y4.class_, F1 y4.states, C5 p0.Rules, cE, F8 p1.Tokens, Bo p2.Dark, Bo p2.High, I p2.Scale])]) 43 ?_
 refine aG ?_
 refine bA (fun n s => ∃ v8 v9, gH p0 j5 p3 y4 p1 p2 n v8 v9 = some r ∧ s = mk [A1 5 0 0, A1 8 1 0, A1 15 2 0, (56, .c (I (List.length p0.Rules : Int))), A6 57 v8] [F2 p0.Rules, I1 1 p3, M5 2 95 y4 p0.Rules 3 p1.Tokens p2.Dark p2.High p2.Scale, (3, E7 v9)] 4) n _ (dT.trans (xS (n := 37) (T0 := 95) (l := [C8 y4.nodes, E2 y4.class_, F1 y4.states, C5 p0.Rules, cE, F8 p1.Tokens, Bo p2.Dark, Bo p2.High, I p2.Scale]) (G2 := [F2 p0.Rules, M1 p1.Tokens, M2 p2, I1 3 p3, M5 37 95 y4 p0.Rules 43 p1.Tokens p2.Dark p2.High p2.Scale, (43, .vec 3 1 (List.map aN ([] : List Int)))]) (lim2 := 44) 4 3 1 (by kernel_rfl) (by kernel_rfl) (by kernel_rfl) (by kernel_rfl)) (zv [(0, 0), (3, 1), (37, 2), (43, 3)] [5, 8, 15, 56, 57] 4)) ⟨_, _, h, rfl⟩ (fun s ⟨v8, v9, h, _⟩ => nomatch h) ?_
 rintro n s ⟨v8, v9, h, rfl⟩
 rw [gH] at h
 refine za [5, 8, 15, 56, 57, 58] ?_
 refine aI ?_
 refine zi h (fun h => ?_) fun h => ?_
 refine aB ?_
 refine aI ?_
 refine aG ?_
 refine za [5, 8, 15, 16, 56, 57] ?_
 refine zy fun _ => ?_
 refine zk 4 ?_
 obtain ⟨l10, he, h⟩ := aC h
 refine uH (enc := aN) (l := v9) (els := [v8]) (r := l10) (m := 3) (e := 3) (sz := 1) (bytes := 8) (nm := 11) he (by kernel_rfl) (fun x => by kernel_rfl) (by kernel_rfl) (by kernel_rfl) rfl rfl rfl ?_
 clear he
 refine zk 2 ?_
 refine bV ?_
 refine aW ?_
 refine zb ?_
 exact dF (zv [(0, 0), (1, 1), (2, 2), (11, 3)] [5, 8, 15, 56, 57] 4) (⟨_, _, h, rfl⟩)
 exact aH (zv [(0, 0), (1, 1), (2, 2), (3, 3)] [5, 8, 15] 4) (bG (hj5 _ h))
def jG  (n : Nat) (p0 : bZ) (p1 : bN) : Option Int := (if ((decide (p1.Prop_ < 0)) || (decide (p1.Prop_ ≥ 22))) = true then some 1 else (if ((((decide (p1.Source < 0)) || (decide (p1.Source > 3))) || ((p1.N != 0) && (p1.Source != 0))) || ((!(bQ p1.Token (⟨#[]⟩ : ByteArray))) && (p1.Source != 1))) = true then some 9 else (gd [(p1.Source == 0)] (dI n p1.Prop_ p1.N)).bind fun (y1 : Bool) => (if ((p1.Source == 0) && (!y1)) = true then some 1 else (gd [(p1.Source == 1)] (dQ n p1.Token)).bind fun (y2 : Bool) => (if ((p1.Source == 1) && (!y2)) = true then some 4 else (if (((p1.Prop_ == 5) || (p1.Prop_ == 21)) && ((jW .i64 p0.States 7) != 0)) = true then some 13 else some 0)))))
theorem vL  (n : Nat) (p0 : bZ) (p1 : bN) (r : Int) (h : jG n p0 p1 = some r) : cW E 109 0 [D7 p0, M8 p1] [] (B7 r) [] := by
 refine eV Tryz.func109 rfl ?_
 unfold jG at h
 refine za [2, 3] ?_
 refine aI ?_
 refine zx fun _ => ?_
 refine zk 4 ?_
 refine zE (B9 1 0) ?_
 refine zE (B7 p1.Prop_) ?_
 refine zE (B3 (I0 p1.Prop_ 22)) ?_
 refine zP (.bool ((C1 p1.Prop_ 0) || (I0 p1.Prop_ 22))) ?_
 refine ze [2, 3, 12] ?_
 refine zi h (fun h => ?_) fun h => ?_
 refine za [4] ?_
 cases h
 exact aD zr
 refine aB ?_
 refine aI ?_
 refine zx fun _ => ?_
 refine zk 4 ?_
 refine zE (B9 1 1) ?_
 refine zE (B7 p1.Source) ?_
 refine zE (J5 p1.Source 3) ?_
 refine zP (.bool (A3 p1.Source 0 3)) ?_
 refine zk 1 ?_
 refine zE (B9 1 2) ?_
 refine zE (B7 p1.N) ?_
 refine zE (B3 (p1.N != 0)) ?_
 refine zF [!(A3 p1.Source 0 3)] (B3 (p1.N != 0)) ?_
 refine zE (B9 1 1) ?_
 refine zE (B7 p1.Source) ?_
 refine zE (B3 (p1.Source != 0)) ?_
 refine zP (.bool ((p1.N != 0) && (p1.Source != 0))) ?_
 refine zP (.bool ((A3 p1.Source 0 3) || ((p1.N != 0) && (p1.Source != 0)))) ?_
 refine Wp 1 (L' := [J0, N5, (12, B3 ((C1 p1.Prop_ 0) || (I0 p1.Prop_ 22))), A1 13 1 1, A6 14 p1.Source, (15, H9 p1.Source 0), (16, H9 p1.Source 0), (17, .cnd [!(C1 p1.Source 0)] (B9 1 1)), N9 18 p1.Source 0, (19, .cnd [!(C1 p1.Source 0)] (J5 p1.Source 3)), (20, B3 (A3 p1.Source 0 3)), (21, B3 (A3 p1.Source 0 3)), (22, .cnd [!(A3 p1.Source 0 3)] (B9 1 2)), (23, .cnd [!(A3 p1.Source 0 3)] (B7 p1.N)), (24, .cnd [!(A3 p1.Source 0 3)] (B3 (p1.N != 0))), (25, .cnd [!(A3 p1.Source 0 3)] (B3 (p1.N != 0))), (26, .cnd [!(A3 p1.Source 0 3), p1.N != 0] (B9 1 1)), (27, .cnd [!(A3 p1.Source 0 3), p1.N != 0] (B7 p1.Source)), (28, .cnd [!(A3 p1.Source 0 3), p1.N != 0] (B3 (p1.Source != 0))), (29, .cnd [!(A3 p1.Source 0 3)] (B3 ((p1.N != 0) && (p1.Source != 0)))), (30, B3 ((A3 p1.Source 0 3) || ((p1.N != 0) && (p1.Source != 0)))), (31, B3 ((A3 p1.Source 0 3) || ((p1.N != 0) && (p1.Source != 0))))]) (G' := [K5 0 p0, (1, E3 p1)]) (X' := []) ?_
 refine zE (B9 1 3) ?_
 refine zE (F0 p1.Token) ?_
 refine zE (.c (Bo (!(bQ p1.Token (⟨#[]⟩ : ByteArray))))) ?_
 refine zF [!((A3 p1.Source 0 3) || ((p1.N != 0) && (p1.Source != 0)))] (.c (Bo (!(bQ p1.Token (⟨#[]⟩ : ByteArray))))) ?_
 refine zE (B9 1 1) ?_
 refine zE (B7 p1.Source) ?_
 refine zE (B3 (p1.Source != 1)) ?_
 refine zP (.bool ((!(bQ p1.Token (⟨#[]⟩ : ByteArray))) && (p1.Source != 1))) ?_
 refine zP (.bool (((A3 p1.Source 0 3) || ((p1.N != 0) && (p1.Source != 0))) || ((!(bQ p1.Token (⟨#[]⟩ : ByteArray))) && (p1.Source != 1)))) ?_
 refine ze [2, 3, 40] ?_
 refine zi h (fun h => ?_) fun h => ?_
 refine za [4] ?_
 cases h
 exact aD zr
 refine aB ?_
 refine aI ?_
 refine zx fun _ => ?_
 refine zk 4 ?_
 refine zE (B9 1 0) ?_
 refine zE (B7 p1.Prop_) ?_
 refine zE (B9 1 2) ?_
 refine zE (B7 p1.N) ?_
 obtain ⟨y1, he, h⟩ := aC h
 refine An [p1.Source == 0] Vg (fun hg => oQ n _ _ y1 (bR he hg)) ?_
 clear he
 refine zE (B3 (!y1)) ?_
 refine zP (.bool ((p1.Source == 0) && (!y1))) ?_
 refine jY [2, 3, 51] (L2 := [J0, N5, (51, B3 ((p1.Source == 0) && (!y1)))]) (G2 := [K5 0 p0, (1, E3 p1)]) 50 ?_
 refine zi h (fun h => ?_) fun h => ?_
 refine za [4] ?_
 cases h
 exact aD zr
 refine aB ?_
 refine aI ?_
 refine zx fun _ => ?_
 refine zk 4 ?_
 refine zE (B9 1 3) ?_
 refine zE (F0 p1.Token) ?_
 obtain ⟨y2, he, h⟩ := aC h
 refine An [p1.Source == 1] xN (fun hg => jS n _ y2 (bR he hg)) ?_
 clear he
 refine zE (B3 (!y2)) ?_
 refine zP (.bool ((p1.Source == 1) && (!y2))) ?_
 refine ze [2, 3, 60] ?_
 refine zi h (fun h => ?_) fun h => ?_
 refine za [4] ?_
 cases h
 exact aD zr
 refine aB ?_
 refine aI ?_
 refine zx fun _ => ?_
 refine zk 4 ?_
 refine zE (B9 1 0) ?_
 refine zE (B7 p1.Prop_) ?_
 refine zE (B3 (p1.Prop_ == 21)) ?_
 refine zP (.bool ((p1.Prop_ == 5) || (p1.Prop_ == 21))) ?_
 refine zk 1 ?_
 refine zE (B9 0 2) ?_
 refine zE (B7 p0.States) ?_
 refine zE (B7 (O4 p0.States 7)) ?_
 refine zE (B3 ((O4 p0.States 7) != 0)) ?_
 refine zP (.bool (((p1.Prop_ == 5) || (p1.Prop_ == 21)) && ((O4 p0.States 7) != 0))) ?_
 refine jY [74] (L2 := [(74, B3 (((p1.Prop_ == 5) || (p1.Prop_ == 21)) && ((O4 p0.States 7) != 0)))]) (G2 := [K5 0 p0, (1, E3 p1)]) 73 ?_
 refine zi h (fun h => ?_) fun h => ?_
 refine za [4] ?_
 cases h
 exact aD zr
 refine aB ?_
 refine za [4] ?_
 cases h
 exact aD zr
def fL (e14 : bZ) (j13 : Unit → Option Int) (v12 : Int) (p0 : bK) : Nat → Int → Option Int
 | 0, _ => none
 | n + 1, v19 => (if (decide (v19 < (List.length e14.Decls : Int))) = true then (idx e14.Decls v19).bind fun (e20 : bN) => (jG n e14 e20).bind fun (y21 : Int) => (if (y21 != 0) = true then some y21 else fL e14 j13 v12 p0 n (IntKind.wrap .i64 (v19 + 1))) else j13 ())
def eD (p0 : bK) (j1 : Unit → Option Int) : Nat → Int → Option Int
 | 0, _ => none
 | n + 1, v12 => (if (decide (v12 < (List.length p0.Rules : Int))) = true then (aS (fun (_ : Unit) => eD p0 j1 n (IntKind.wrap .i64 (v12 + 1))) (fun (j13 : Unit → Option Int) => (idx p0.Rules v12).bind fun (e14 : bZ) => (if ((((decide (e14.Kind < 0)) || (decide (e14.Kind > 13))) || (decide (e14.UnderKind < 0))) || (decide (e14.UnderKind > 13))) = true then some 9 else (gd [(!(bQ e14.Class (⟨#[]⟩ : ByteArray)))] (dQ n e14.Class)).bind fun (y15 : Bool) => (gd [(!((!(bQ e14.Class (⟨#[]⟩ : ByteArray))) && (!y15))), (!(bQ e14.UnderClass (⟨#[]⟩ : ByteArray)))] (dQ n e14.UnderClass)).bind fun (y16 : Bool) => (if (((!(bQ e14.Class (⟨#[]⟩ : ByteArray))) && (!y15)) || ((!(bQ e14.UnderClass (⟨#[]⟩ : ByteArray))) && (!y16))) = true then some 4 else (if ((decide (e14.States < 0)) || (decide (e14.States > 31))) = true then some 1 else (if (decide ((List.length e14.Decls : Int) > 50)) = true then some 2 else fL e14 j13 v12 p0 n 0)))))) else j1 ())
def lU  (n : Nat) (p0 : bK) : Option Int := (if (decide ((List.length p0.Rules : Int) > 100)) = true then some 2 else (aS (fun (_ : Unit) => some 0) (fun (j1 : Unit → Option Int) => eD p0 j1 n 0)))
theorem zL  (n : Nat) (p0 : bK) (r : Int) (h : lU n p0 = some r) : cW E 78 0 [.agg [C5 p0.Rules]] [] (B7 r) [] := by
 refine eV Tryz.func78 rfl ?_
 unfold lU at h
 refine za [1] ?_
 refine aI ?_
 refine zx fun _ => ?_
 refine zk 2 ?_
 refine zl aY p0.Rules ?_
 refine zk 1 ?_
 refine ze [1, 10] ?_
 refine zi h (fun h => ?_) fun h => ?_
 refine za [2] ?_
 cases h
 exact aD zr
 refine aB ?_
 refine aQ h (fun A j => ∀ u, j u = some r → A (N7)) (fun u h => ?_) (fun j1 Aj1 hj1 h => ?_)
 refine za [2] ?_
 cases h
 exact aD zr
 refine za [1, 3] ?_
 refine aG ?_
 refine bA (fun n s => ∃ v12, eD p0 j1 n v12 = some r ∧ s = mk [H3, A6 3 v12] [F2 p0.Rules] 1) n _ (zv [(0, 0)] [1, 3] 1) ⟨_, h, rfl⟩ (fun s ⟨v12, h, _⟩ => nomatch h) ?_
 rintro n s ⟨v12, h, rfl⟩
 rw [eD] at h
 refine aI ?_
 refine zx fun _ => ?_
 refine zk 3 ?_
 refine zl aY p0.Rules ?_
 refine zk 1 ?_
 refine ze [1, 3, 15] ?_
 refine zi h (fun h => ?_) fun h => ?_
 refine aB ?_
 refine aQ h (fun A j => ∀ u, j u = some r → A (mk [H3, A6 3 v12] [F2 p0.Rules] 1)) (fun u h => ?_) (fun j13 Aj13 hj13 h => ?_)
 refine aW ?_
 refine zb ?_
 exact dF (zv [(0, 0)] [1, 3] 1) (⟨_, h, rfl⟩)
 refine aG ?_
 refine zx fun _ => ?_
 refine zk 3 ?_
 obtain ⟨e14, he, h⟩ := aC h
 refine zd aY he ?_
 clear he
 refine zk 3 ?_
 refine ze [1, 3, 4] ?_
 refine aI ?_
 refine zx fun _ => ?_
 refine zk 4 ?_
 refine zE (B9 11 0) ?_
 refine zE (B7 e14.Kind) ?_
 refine zE (J5 e14.Kind 13) ?_
 refine zP (.bool (A3 e14.Kind 0 13)) ?_
 refine zk 1 ?_
 refine zE (B9 11 3) ?_
 refine zE (B7 e14.UnderKind) ?_
 refine zE (H9 e14.UnderKind 0) ?_
 refine zP (.bool ((A3 e14.Kind 0 13) || (C1 e14.UnderKind 0))) ?_
 refine zk 1 ?_
 refine zE (B9 11 3) ?_
 refine zE (B7 e14.UnderKind) ?_
 refine zE (J5 e14.UnderKind 13) ?_
 refine zP (.bool (((A3 e14.Kind 0 13) || (C1 e14.UnderKind 0)) || (D5 e14.UnderKind 13))) ?_
 refine jY [1, 3, 4, 40] (L2 := [H3, A6 3 v12, A1 4 11 0, (40, B3 (((A3 e14.Kind 0 13) || (C1 e14.UnderKind 0)) || (D5 e14.UnderKind 13)))]) (G2 := [F2 p0.Rules, K5 11 e14]) 31 ?_
 refine zi h (fun h => ?_) fun h => ?_
 refine za [2] ?_
 cases h
 exact aD zr
 refine aB ?_
 refine aI ?_
 refine zx fun _ => ?_
 refine zk 4 ?_
 refine zE (B9 11 1) ?_
 refine zE (F0 e14.Class) ?_
 obtain ⟨y15, he, h⟩ := aC h
 refine An [(!(bQ e14.Class (⟨#[]⟩ : ByteArray)))] xN (fun hg => jS n _ y15 (bR he hg)) ?_
 clear he
 refine zE (B3 (!y15)) ?_
 refine zP (.bool ((!(bQ e14.Class (⟨#[]⟩ : ByteArray))) && (!y15))) ?_
 refine zk 1 ?_
 refine zE (B9 11 4) ?_
 refine zE (F0 e14.UnderClass) ?_
 refine zE (.c (Bo (!(bQ e14.UnderClass (⟨#[]⟩ : ByteArray))))) ?_
 refine zF [(!((!(bQ e14.Class (⟨#[]⟩ : ByteArray))) && (!y15)))] (.c (Bo (!(bQ e14.UnderClass (⟨#[]⟩ : ByteArray))))) ?_
 refine zE (B9 11 4) ?_
 refine zE (F0 e14.UnderClass) ?_
 obtain ⟨y16, he, h⟩ := aC h
 refine An [(!((!(bQ e14.Class (⟨#[]⟩ : ByteArray))) && (!y15))), (!(bQ e14.UnderClass (⟨#[]⟩ : ByteArray)))] xN (fun hg => jS n _ y16 (bR he hg)) ?_
 clear he
 refine zE (B3 (!y16)) ?_
 refine zP (.bool ((!(bQ e14.UnderClass (⟨#[]⟩ : ByteArray))) && (!y16))) ?_
 refine zP (.bool (((!(bQ e14.Class (⟨#[]⟩ : ByteArray))) && (!y15)) || ((!(bQ e14.UnderClass (⟨#[]⟩ : ByteArray))) && (!y16)))) ?_
 refine jY [1, 3, 4, 60] (L2 := [H3, A6 3 v12, A1 4 11 0, (60, .c (Bo (((!(bQ e14.Class (⟨#[]⟩ : ByteArray))) && (!y15)) || ((!(bQ e14.UnderClass (⟨#[]⟩ : ByteArray))) && (!y16)))))]) (G2 := [F2 p0.Rules, K5 11 e14]) 51 ?_
 refine zi h (fun h => ?_) fun h => ?_
 refine za [2] ?_
 cases h
 exact aD zr
 refine aB ?_
 refine aI ?_
 refine zx fun _ => ?_
 refine zk 4 ?_
 refine zE (B9 11 2) ?_
 refine zE (B7 e14.States) ?_
 refine zE (J5 e14.States 31) ?_
 refine zP (.bool (A3 e14.States 0 31)) ?_
 refine ze [1, 3, 4, 68] ?_
 refine zi h (fun h => ?_) fun h => ?_
 refine za [2] ?_
 cases h
 exact aD zr
 refine aB ?_
 refine aI ?_
 refine zx fun _ => ?_
 refine zk 2 ?_
 refine zl bI e14.Decls ?_
 refine zk 1 ?_
 refine ze [1, 3, 4, 72] ?_
 refine zi h (fun h => ?_) fun h => ?_
 refine za [2] ?_
 cases h
 exact aD zr
 refine aB ?_
 refine za [1, 3, 4, 5] ?_
 refine aG ?_
 refine bA (fun n s => ∃ v19, fL e14 j13 v12 p0 n v19 = some r ∧ s = mk [H3, A6 3 v12, H8, A6 5 v19] [F2 p0.Rules, K5 1 e14] 2) n _ (zv [(0, 0), (11, 1)] [1, 3, 4, 5] 2) ⟨_, h, rfl⟩ (fun s ⟨v19, h, _⟩ => nomatch h) ?_
 rintro n s ⟨v19, h, rfl⟩
 rw [fL] at h
 refine aI ?_
 refine zx fun _ => ?_
 refine zk 3 ?_
 refine zl bI e14.Decls ?_
 refine zk 1 ?_
 refine ze [1, 3, 4, 5, 77] ?_
 refine zi h (fun h => ?_) fun h => ?_
 refine aB ?_
 refine aI ?_
 refine aG ?_
 refine xI [[], [], [1], [], [2, 3, 1], [4, 2, 3, 1], [0, 5, 4, 2, 3, 1], [6, 0, 1, 2, 3, 4, 5]] fun _ => ?_
 refine zk 4 ?_
 obtain ⟨e20, he, h⟩ := aC h
 refine zd bI he ?_
 clear he
 refine zk 1 ?_
 obtain ⟨y21, he, h⟩ := aC h
 refine zc fok109 (vL n _ _ y21 he) ?_
 clear he
 refine zk 1 ?_
 refine ze [1, 3, 4, 5, 6] ?_
 refine za [1, 3, 4, 5, 6, 88] ?_
 refine zi h (fun h => ?_) fun h => ?_
 refine za [2] ?_
 cases h
 exact aD zr
 refine aB ?_
 refine aW ?_
 refine zb ?_
 exact dF (zv [(0, 0), (1, 1)] [1, 3, 4, 5] 2) (⟨_, h, rfl⟩)
 exact aH (zv [(0, 0)] [1, 3] 1) (bG (hj13 _ h))
 exact aH (zv [] [] 0) (bG (hj1 _ h))
def kB  (n : Nat) (p0 : Int) : Option Bool := some ((decide (p0 ≥ (-1 : Int))) && (decide (p0 ≤ 16777215)))
theorem nZ  (n : Nat) (p0 : Int) (r : Bool) (h : kB n p0 = some r) : cW E 110 0 [B7 p0] [] (B3 r) [] := by
 refine eV Tryz.func110 rfl ?_
 unfold kB at h
 refine za [0] ?_
 refine zx fun _ => ?_
 refine zk 3 ?_
 refine zE (B7 p0) ?_
 refine zE (B3 (I2 p0 16777215)) ?_
 refine zP (.bool ((decide (p0 ≥ (-1 : Int))) && (I2 p0 16777215))) ?_
 refine zk 1 ?_
 refine ze [2] ?_
 cases h
 exact aD zr
def fT (v14 : Int) (p0 : bS) (e16 : dL) (j18 : Unit → Option Int) : Nat → Int → Option Int
 | 0, _ => none
 | n + 1, v20 => (if (decide (v20 < v14)) = true then (idx p0.Tokens v20).bind fun (e21 : dL) => (if (bQ e21.Name e16.Name) = true then some 6 else fT v14 p0 e16 j18 n (IntKind.wrap .i64 (v20 + 1))) else j18 ())
def fP (p0 : bS) (j1 : Unit → Option Int) : Nat → Int → Option Int
 | 0, _ => none
 | n + 1, v14 => (if (decide (v14 < (List.length p0.Tokens : Int))) = true then (aS (fun (_ : Unit) => fP p0 j1 n (IntKind.wrap .i64 (v14 + 1))) (fun (j15 : Unit → Option Int) => (idx p0.Tokens v14).bind fun (e16 : dL) => (dQ n e16.Name).bind fun (y17 : Bool) => (if (!y17) = true then some 4 else (aS (fun (_ : Unit) => (kB n e16.Light).bind fun (y23 : Bool) => (gd [(!(!y23))] (kB n e16.Dark)).bind fun (y24 : Bool) => (gd [(!((!y23) || (!y24)))] (kB n e16.HighLight)).bind fun (y25 : Bool) => (gd [(!(((!y23) || (!y24)) || (!y25)))] (kB n e16.HighDark)).bind fun (y26 : Bool) => (if ((((!y23) || (!y24)) || (!y25)) || (!y26)) = true then some 1 else j15 ())) (fun (j18 : Unit → Option Int) => fT v14 p0 e16 j18 n 0))))) else j1 ())
def mC  (n : Nat) (p0 : bS) : Option Int := (if (decide ((List.length p0.Tokens : Int) > 100)) = true then some 2 else (aS (fun (_ : Unit) => some 0) (fun (j1 : Unit → Option Int) => fP p0 j1 n 0)))
theorem Ac  (n : Nat) (p0 : bS) (r : Int) (h : mC n p0 = some r) : cW E 79 0 [.agg [F8 p0.Tokens]] [] (B7 r) [] := by
 refine eV Tryz.func79 rfl ?_
 unfold mC at h
 refine za [1] ?_
 refine aI ?_
 refine zx fun _ => ?_
 refine zk 2 ?_
 refine zl bH p0.Tokens ?_
 refine zk 1 ?_
 refine ze [1, 9] ?_
 refine zi h (fun h => ?_) fun h => ?_
 refine za [2] ?_
 cases h
 exact aD zr
 refine aB ?_
 refine aQ h (fun A j => ∀ u, j u = some r → A (N7)) (fun u h => ?_) (fun j1 Aj1 hj1 h => ?_)
 refine za [2] ?_
 cases h
 exact aD zr
 refine za [1, 3] ?_
 refine aG ?_
 refine bA (fun n s => ∃ v14, fP p0 j1 n v14 = some r ∧ s = mk [H3, A6 3 v14] [(0, D8 p0.Tokens)] 1) n _ (zv [(0, 0)] [1, 3] 1) ⟨_, h, rfl⟩ (fun s ⟨v14, h, _⟩ => nomatch h) ?_
 rintro n s ⟨v14, h, rfl⟩
 rw [fP] at h
 refine aI ?_
 refine zx fun _ => ?_
 refine zk 3 ?_
 refine zl bH p0.Tokens ?_
 refine zk 1 ?_
 refine ze [1, 3, 14] ?_
 refine zi h (fun h => ?_) fun h => ?_
 refine aB ?_
 refine aQ h (fun A j => ∀ u, j u = some r → A (mk [H3, A6 3 v14] [(0, D8 p0.Tokens)] 1)) (fun u h => ?_) (fun j15 Aj15 hj15 h => ?_)
 refine aW ?_
 refine zb ?_
 exact dF (zv [(0, 0)] [1, 3] 1) (⟨_, h, rfl⟩)
 refine aG ?_
 refine zx fun _ => ?_
 refine zk 3 ?_
 obtain ⟨e16, he, h⟩ := aC h
 refine zd bH he ?_
 clear he
 refine zk 3 ?_
 refine ze [1, 3, 4] ?_
 refine aI ?_
 refine zx fun _ => ?_
 refine zk 2 ?_
 obtain ⟨y17, he, h⟩ := aC h
 refine zc xN (jS n _ y17 he) ?_
 clear he
 refine zk 1 ?_
 refine ze [1, 3, 4, 25] ?_
 refine zi h (fun h => ?_) fun h => ?_
 refine za [2] ?_
 cases h
 exact aD zr
 refine aB ?_
 refine aQ h (fun A j => ∀ u, j u = some r → A (mk [H3, A6 3 v14, H8] [(0, D8 p0.Tokens), (1, H4 e16)] 2)) (fun u h => ?_) (fun j18 Aj18 hj18 h => ?_)
 refine zx fun _ => ?_
 refine zk 2 ?_
 obtain ⟨y23, he, h⟩ := aC h
 refine zc Lk (nZ n _ y23 he) ?_
 clear he
 refine zk 2 ?_
 refine zE (B9 1 2) ?_
 refine zE (B7 e16.Dark) ?_
 obtain ⟨y24, he, h⟩ := aC h
 refine An [!(!y23)] Lk (fun hg => nZ n _ y24 (bR he hg)) ?_
 clear he
 refine zE (B3 (!y24)) ?_
 refine zP (.bool ((!y23) || (!y24))) ?_
 refine zk 1 ?_
 refine zE (B9 1 3) ?_
 refine zE (B7 e16.HighLight) ?_
 obtain ⟨y25, he, h⟩ := aC h
 refine An [!((!y23) || (!y24))] Lk (fun hg => nZ n _ y25 (bR he hg)) ?_
 clear he
 refine zE (B3 (!y25)) ?_
 refine zP (.bool (((!y23) || (!y24)) || (!y25))) ?_
 refine zk 1 ?_
 refine zE (B9 1 4) ?_
 refine zE (B7 e16.HighDark) ?_
 obtain ⟨y26, he, h⟩ := aC h
 refine An [!(((!y23) || (!y24)) || (!y25))] Lk (fun hg => nZ n _ y26 (bR he hg)) ?_
 clear he
 refine zE (B3 (!y26)) ?_
 refine zP (.bool ((((!y23) || (!y24)) || (!y25)) || (!y26))) ?_
 refine jY [1, 3, 61] (L2 := [H3, A6 3 v14, (61, B3 ((((!y23) || (!y24)) || (!y25)) || (!y26)))]) (G2 := [(0, D8 p0.Tokens), (1, H4 e16)]) 24 ?_
 refine zi h (fun h => ?_) fun h => ?_
 refine za [2] ?_
 cases h
 exact aD zr
 exact aH (zv [(0, 0)] [1, 3] 1) (aB (hj15 _ h))
 refine za [1, 3, 4, 5] ?_
 refine aG ?_
 refine bA (fun n s => ∃ v20, fT v14 p0 e16 j18 n v20 = some r ∧ s = mk [H3, A6 3 v14, H8, A6 5 v20] [(0, D8 p0.Tokens), (1, H4 e16)] 2) n _ (zv [(0, 0), (11, 1)] [1, 3, 4, 5] 2) ⟨_, h, rfl⟩ (fun s ⟨v20, h, _⟩ => nomatch h) ?_
 rintro n s ⟨v20, h, rfl⟩
 rw [fT] at h
 refine aI ?_
 refine za [1, 3, 4, 5, 28] ?_
 refine zi h (fun h => ?_) fun h => ?_
 refine aB ?_
 refine aI ?_
 refine aG ?_
 refine xI [[], [0], [], [1, 2, 0], [3, 1, 2, 0], [4, 3, 1, 2, 0], [], [6], [5, 7, 4, 3, 1, 2, 0, 6]] fun _ => ?_
 refine zk 3 ?_
 obtain ⟨e21, he, h⟩ := aC h
 refine zd bH he ?_
 clear he
 refine zk 5 ?_
 refine ze [1, 3, 4, 5, 39] ?_
 refine zi h (fun h => ?_) fun h => ?_
 refine za [2] ?_
 cases h
 exact aD zr
 refine aB ?_
 refine aW ?_
 refine zb ?_
 exact dF (zv [(0, 0), (1, 1)] [1, 3, 4, 5] 2) (⟨_, h, rfl⟩)
 exact aH (zv [(0, 0), (1, 1)] [1, 3, 4] 2) (bG (hj18 _ h))
 exact aH (zv [] [] 0) (bG (hj1 _ h))
def iM (p0 : bB) (p1 : Int) (j1 : Unit → Option Int) : Nat → Int → Option Int
 | 0, _ => none
 | n + 1, v3 => (if (decide (v3 < (List.length p0.Nodes : Int))) = true then (idx p0.Nodes v3).bind fun (e4 : aR) => (if (e4.ID == p1) = true then some v3 else iM p0 p1 j1 n (IntKind.wrap .i64 (v3 + 1))) else j1 ())
def kA  (n : Nat) (p0 : bB) (p1 : Int) : Option Int := (aS (fun (_ : Unit) => some (-1 : Int)) (fun (j1 : Unit → Option Int) => iM p0 p1 j1 n 0))
theorem qQ  (n : Nat) (p0 : bB) (p1 : Int) (r : Int) (h : kA n p0 p1 = some r) : cW E 53 0 [C0 p0, B7 p1] [] (B7 r) [] := by
 refine eV Tryz.func53 rfl ?_
 unfold kA at h
 refine za [1, 2] ?_
 refine aQ h (fun A j => ∀ u, j u = some r → A (N7)) (fun u h => ?_) (fun j1 Aj1 hj1 h => ?_)
 refine za [4] ?_
 cases h
 exact aD zr
 refine za [1, 2, 5] ?_
 refine aG ?_
 refine bA (fun n s => ∃ v3, iM p0 p1 j1 n v3 = some r ∧ s = mk [A6 1 p1, J0, A6 5 v3] [I1 0 p0] 1) n _ (zv [(0, 0)] [1, 2, 5] 1) ⟨_, h, rfl⟩ (fun s ⟨v3, h, _⟩ => nomatch h) ?_
 rintro n s ⟨v3, h, rfl⟩
 rw [iM] at h
 refine aI ?_
 refine zx fun _ => ?_
 refine zk 3 ?_
 refine zl aE p0.Nodes ?_
 refine zk 1 ?_
 refine ze [1, 2, 5, 10] ?_
 refine zi h (fun h => ?_) fun h => ?_
 refine aB ?_
 refine aI ?_
 refine aG ?_
 refine zx fun _ => ?_
 refine zk 3 ?_
 obtain ⟨e4, he, h⟩ := aC h
 refine zd aE he ?_
 clear he
 refine zk 4 ?_
 refine ze [1, 2, 5, 20] ?_
 refine zi h (fun h => ?_) fun h => ?_
 refine za [4] ?_
 cases h
 exact aD zr
 refine aB ?_
 refine aW ?_
 refine zb ?_
 exact dF (zv [(0, 0)] [1, 2, 5] 1) (⟨_, h, rfl⟩)
 exact aH (zv [] [] 0) (bG (hj1 _ h))
def iQ  (n : Nat) (p0 : bB) (p1 : Int) : Option aR := (kA n p0 p1).bind fun (y1 : Int) => (if (decide (y1 < 0)) = true then some (aR.mk 0 0 0 (⟨#[]⟩ : ByteArray) ([] : List bF) ([] : List cR) ([] : List Int)) else (idx p0.Nodes y1).bind fun (e2 : aR) => some e2)
theorem mZ  (n : Nat) (p0 : bB) (p1 : Int) (r : aR) (h : iQ n p0 p1 = some r) : cW E 45 0 [C0 p0, B7 p1] [] (B5 r) [] := by
 refine eV Tryz.func45 rfl ?_
 unfold iQ at h
 refine za [1, 2, 4] ?_
 refine zx fun _ => ?_
 refine zk 2 ?_
 obtain ⟨y1, he, h⟩ := aC h
 refine zc Wc (qQ n _ _ y1 he) ?_
 clear he
 refine zk 1 ?_
 refine ze [2, 4, 5] ?_
 refine aI ?_
 refine za [2, 4, 5, 10] ?_
 refine zi h (fun h => ?_) fun h => ?_
 refine za [4] ?_
 cases h
 exact aD zr
 refine aB ?_
 refine zx fun _ => ?_
 refine zk 3 ?_
 obtain ⟨e2, he, h⟩ := aC h
 refine zd aE he ?_
 clear he
 refine zk 2 ?_
 refine ze [4] ?_
 cases h
 exact aD zr
def iK (y2 : aR) (self_ref14_order : bB → Int → (List Int) → Option (List Int)) (p0 : bB) (j3 : List Int → Option (List Int)) : Nat → Int → List Int → Option (List Int)
 | 0, _, _ => none
 | n + 1, v6, v7 => (if (decide (v6 < (List.length y2.Kids : Int))) = true then (idx y2.Kids v6).bind fun (e8 : Int) => (self_ref14_order p0 e8 v7).bind fun (y9 : (List Int)) => iK y2 self_ref14_order p0 j3 n (IntKind.wrap .i64 (v6 + 1)) y9 else j3 v7)
def mH (self_ref14_order : bB → Int → (List Int) → Option (List Int)) (n : Nat) (p0 : bB) (p1 : Int) (p2 : (List Int)) : Option (List Int) := (pV 8 p2 [p1]).bind fun (l1 : List Int) => (iQ n p0 p1).bind fun (y2 : aR) => (aS (fun (v12 : List Int) => some v12) (fun (j3 : List Int → Option (List Int)) => iK y2 self_ref14_order p0 j3 n 0 l1))
theorem xB (self_ref14_order : bB → Int → (K3) → Option (K3)) (ih_ref14_order : ∀ (p0 : bB) (p1 : Int) (p2 : (K3)) (r : (K3)), self_ref14_order p0 p1 p2 = some r → cW E 80 1 [C0 p0, B7 p1, J2 0] [(0, E7 p2)] (J2 1) [(1, E7 r)]) (n : Nat) (p0 : bB) (p1 : Int) (p2 : (K3)) (r : (K3)) (h : mH self_ref14_order n p0 p1 p2 = some r) : cW E 80 1 [C0 p0, B7 p1, J2 0] [(0, E7 p2)] (J2 1) [(1, E7 r)] := by
 refine eV Tryz.func80 rfl ?_
 unfold mH at h
 refine za [1, 2, 3] ?_
 refine zx fun _ => ?_
 refine zk 3 ?_
 obtain ⟨l1, he, h⟩ := aC h
 refine uH (enc := aN) (l := p2) (els := [p1]) (r := l1) (m := 0) (e := 3) (sz := 1) (bytes := 8) (nm := 6) he (by kernel_rfl) (fun x => by kernel_rfl) (by kernel_rfl) (by kernel_rfl) rfl rfl rfl ?_
 clear he
 refine zk 1 ?_
 refine ze [1, 2, 3] ?_
 refine zx fun _ => ?_
 refine zk 2 ?_
 obtain ⟨y2, he, h⟩ := aC h
 refine zc Mg (mZ n _ _ y2 he) ?_
 clear he
 refine zk 2 ?_
 refine ze [2, 3, 7] ?_
 refine aQ h (fun A j => ∀ v12, j v12 = some r → A (mk [(2, J2 1)] [(1, E7 v12)] 2)) (fun v12 h => ?_) (fun j3 Aj3 hj3 h => ?_)
 refine za [6] ?_
 have h := Option.some.inj h
 subst h
 refine aH (uY rfl [(1, 1)] [6] (L2 := [(6, J2 1)]) (G2 := [(1, E7 v12)]) (lim2 := 2) (by kernel_rfl)) ?_
 exact aD (Kn (.inl rfl) (by kernel_rfl) (by kernel_rfl))
 refine za [2, 3, 7, 8] ?_
 refine aG ?_
 refine bA (fun n s => ∃ v6 v7, iK y2 self_ref14_order p0 j3 n v6 v7 = some r ∧ s = mk [(2, J2 1), N0, A1 7 3 0, A6 8 v6] [(1, E7 v7), I1 2 p0, (3, A9 y2)] 4) n _ (zv [(6, 1), (1, 2), (11, 3)] [2, 3, 7, 8] 4) ⟨_, _, h, rfl⟩ (fun s ⟨v6, v7, h, _⟩ => nomatch h) ?_
 rintro n s ⟨v6, v7, h, rfl⟩
 rw [iK] at h
 refine aI ?_
 refine zx fun _ => ?_
 refine zk 3 ?_
 refine zl aN y2.Kids ?_
 refine zk 1 ?_
 refine ze [2, 3, 7, 8, 20] ?_
 refine zi h (fun h => ?_) fun h => ?_
 refine aB ?_
 refine aI ?_
 refine aG ?_
 refine Rg [[], [], [1], [], [2, 3, 1], [4, 2, 3, 1], [], [0, 5, 6, 4, 2, 3, 1], [7, 0, 1, 2, 3, 4, 5, 6]] fun _ => ?_
 refine zk 4 ?_
 obtain ⟨e8, he, h⟩ := aC h
 refine zd aN he ?_
 clear he
 refine zk 2 ?_
 obtain ⟨y9, he, h⟩ := aC h
 refine tB (F := 80) (As := [C0 p0, B7 e8, J2 1]) (Bs := [C0 p0, B7 e8, J2 0]) (σ := [(0, 1), (1, 16)]) (k := 1) (kn := 1) (nm := 16) (Gc := [(0, E7 v7)]) (Gf := [(1, E7 y9)]) (r := .c (.row 1)) (v := .c (.row 16)) (by kernel_rfl) Wv ⟨.inl (by kernel_rfl), ⟨.inl (by kernel_rfl), ⟨.inr ⟨(by kernel_rfl), (by kernel_rfl)⟩, trivial⟩⟩⟩ (ih_ref14_order _ _ _ y9 he) (by kernel_rfl) (by kernel_rfl) (by kernel_rfl) (by kernel_rfl) (by kernel_rfl) (by kernel_rfl) rfl rfl rfl ?_
 clear he
 refine zk 1 ?_
 refine bV ?_
 refine aW ?_
 refine zb ?_
 exact dF (zv [(16, 1), (2, 2), (3, 3)] [2, 3, 7, 8] 4) (⟨_, _, h, rfl⟩)
 exact aH (zv [(1, 1)] [2] 2) (bG (hj3 _ h))
def iI : Nat → bB → Int → (List Int) → Option (List Int)
 | 0, _, _, _ => none
 | n + 1, p0, p1, p2 => mH (fun a0 a1 a2 => iI n a0 a1 a2) n p0 p1 p2
theorem vX (n : Nat) : (∀ (p0 : bB) (p1 : Int) (p2 : (K3)) (r : (K3)), iI n p0 p1 p2 = some r → cW E 80 1 [C0 p0, B7 p1, J2 0] [(0, E7 p2)] (J2 1) [(1, E7 r)]) := by
 induction n with
 | zero => intro p0 p1 p2 r h; rw [iI] at h; cases h
 | succ n ih => intro p0 p1 p2 r h; rw [iI] at h; exact xB _ ih n _ _ _ r h
end Go.Proofs.YtojkihhnioeggaaGreatDoor.S
