import Derived.Test.YtojkihhnioeggaaGreatDoorQUGM8
set_option linter.unusedVariables false
set_option linter.unusedSimpArgs false
set_option maxRecDepth 100000
set_option maxHeartbeats 4000000
namespace Go.Proofs.YtojkihhnioeggaaGreatDoor.S
open Go Go.Bm
def gA (p3 : bA) (v34 : List (Int × aA)) (j35 : List aU → Option ((List aU) × Int)) : Nat → List aU → Int → Option ((List aU) × Int)
 | 0, _, _ => none
 | n + 1, v39, v40 => (if (decide (v40 < (List.length p3.Nodes : Int))) = true then (idx p3.Nodes v40).bind fun (e41 : aP) => (some (cZ e41.ID v34, gU e41.ID v34)).bind fun (y42 : (aA × Bool)) => (pD 184 v39 [(aU.mk e41.ID y42.1)]).bind fun (l43 : List aU) => gA p3 v34 j35 n l43 (IntKind.wrap .i64 (v40 + 1)) else j35 v39)
def fX (y17 : (List Int)) (y4 : eI) (p0 : bH) (y15 : (List Int)) (p1 : bS) (p2 : cY) (p3 : bA) (j16 : List (Int × aA) → Option ((List aU) × Int)) : Nat → Int → List (Int × aA) → Option ((List aU) × Int)
 | 0, _, _ => none
 | n + 1, v25, v26 => (if (decide (v25 < (List.length y17 : Int))) = true then (idx y17 v25).bind fun (e27 : Int) => (some (cZ e27 y4.nodes, gU e27 y4.nodes)).bind fun (y28 : (aP × Bool)) => (some (cZ y28.1.Parent v26, gU y28.1.Parent v26)).bind fun (y29 : (aA × Bool)) => (mK n (iF.mk y4 p0.Rules y15 p1 p2) e27 y29.1 (e27 == p3.Root)).bind fun (y30 : aA) => fX y17 y4 p0 y15 p1 p2 p3 j16 n (IntKind.wrap .i64 (v25 + 1)) (fY e27 y30 v26) else j16 v26)
def gC (p0 : bH) (j5 : List Int → Option ((List aU) × Int)) (p3 : bA) (y4 : eI) (p1 : bS) (p2 : cY) : Nat → Int → List Int → Option ((List aU) × Int)
 | 0, _, _ => none
 | n + 1, v8, v9 => (if (decide (v8 < (List.length p0.Rules : Int))) = true then (pD 8 v9 [v8]).bind fun (l10 : List Int) => gC p0 j5 p3 y4 p1 p2 n (IntKind.wrap .i64 (v8 + 1)) l10 else j5 v9)
def jF  (n : Nat) (p0 : bH) (p1 : bS) (p2 : cY) (p3 : bA) (p4 : (List aR)) : Option ((List aU) × Int) := (lO n p0).bind fun (y1 : Int) => (if (y1 != 0) = true then some (([] : List aU), y1) else (kZ n p1).bind fun (y2 : Int) => (if (y2 != 0) = true then some (([] : List aU), y2) else (if ((decide (p2.Scale < 50)) || (decide (p2.Scale > 400))) = true then some (([] : List aU), 1) else (oF n p3).bind fun (y3 : Int) => (if (y3 != 0) = true then some (([] : List aU), y3) else (oB n p3 p4).bind fun (y4 : eI) => (aS (fun (v14 : List Int) => (dF n v14 p0).bind fun (y15 : (List Int)) => (aS (fun (v34 : List (Int × aA)) => (aS (fun (v46 : List aU) => some (v46, 0)) (fun (j35 : List aU → Option ((List aU) × Int)) => gA p3 v34 j35 n ([] : List aU) 0))) (fun (j16 : List (Int × aA) → Option ((List aU) × Int)) => (oE n p3).bind fun (y17 : (List Int)) => fX y17 y4 p0 y15 p1 p2 p3 j16 n 0 ([] : List (Int × aA))))) (fun (j5 : List Int → Option ((List aU) × Int)) => gC p0 j5 p3 y4 p1 p2 n 0 ([] : List Int)))))))
theorem oD  (n : Nat) (p0 : bH) (p1 : bS) (p2 : cY) (p3 : bA) (p4 : (List aR)) (r : ((List aU) × Int)) (h : jF n p0 p1 p2 p3 p4 = some r) : dI E 17 0 [.agg [D3 p0.Rules], .agg [E4 p1.Tokens], H6 p2, C8 p3, F0 p4] [] (.tup [B6 r.1, A6 r.2]) [] := by
 refine gT Tryz.func17 rfl ?_
 unfold jF at h
 refine za [4, 5, 6, 7, 8] ?_
 refine aO ?_
 refine zx fun _ => ?_
 refine zk 1 ?_
 obtain ⟨y1, he, h⟩ := aB h
 refine zc fok34 (zM n _ y1 he) ?_
 clear he
 refine zk 1 ?_
 refine ze [4, 5, 6, 7, 8, 12] ?_
 refine za [4, 5, 6, 7, 8, 12, 26] ?_
 refine zi h (fun h => ?_) fun h => ?_
 refine za [10, 11] ?_
 cases h
 exact aI zr
 refine aC ?_
 refine aO ?_
 refine zx fun _ => ?_
 refine zk 1 ?_
 obtain ⟨y2, he, h⟩ := aB h
 refine zc fok35 (zL n _ y2 he) ?_
 clear he
 refine zk 1 ?_
 refine ze [4, 5, 6, 7, 8, 13] ?_
 refine za [4, 5, 6, 7, 8, 13, 31] ?_
 refine zi h (fun h => ?_) fun h => ?_
 refine za [10, 11] ?_
 cases h
 exact aI zr
 refine aC ?_
 refine aO ?_
 refine zx fun _ => ?_
 refine zk 4 ?_
 refine zE (A1 2 2) ?_
 refine zE (A6 p2.Scale) ?_
 refine zE (L3 p2.Scale 400) ?_
 refine zP (.bool (A3 p2.Scale 50 400)) ?_
 refine mC [4, 5, 6, 7, 8, 40] (L2 := [(4, F0 p4), C0 5 0 0, N0, C0 7 2 0, C0 8 3 0, (40, B2 (A3 p2.Scale 50 400))]) (G2 := [(0, J4 p0.Rules), (1, L0 p1.Tokens), (2, E3 p2), L4 3 p3]) 24 ?_
 refine zi h (fun h => ?_) fun h => ?_
 refine za [10, 11] ?_
 cases h
 exact aI zr
 refine aC ?_
 refine aO ?_
 refine zx fun _ => ?_
 refine zk 1 ?_
 obtain ⟨y3, he, h⟩ := aB h
 refine zc aBk (xE n _ y3 he) ?_
 clear he
 refine zk 1 ?_
 refine ze [4, 5, 6, 7, 8, 14] ?_
 refine za [4, 5, 6, 7, 8, 14, 44] ?_
 refine zi h (fun h => ?_) fun h => ?_
 refine za [10, 11] ?_
 cases h
 exact aI zr
 refine aC ?_
 refine Dm [[], [], [0, 1], [], [3], [], [], [2, 4, 5, 6, 0, 1, 3], [], [8, 7, 2, 0, 1, 3, 4, 5, 6]] fun _ => ?_
 refine zk 2 ?_
 obtain ⟨y4, he, h⟩ := aB h
 refine zc Yn (tP n _ _ y4 he) ?_
 clear he
 refine zk 7 ?_
 refine ze [5, 8, 15] ?_
 refine aX h (fun A j => ∀ v14, j v14 = some r → A (mk [C0 5 0 0, C0 8 1 0, C0 15 2 0] [(0, J4 p0.Rules), L4 1 p3, K6 2 95 y4 p0.Rules 3 p1.Tokens p2.Dark p2.High p2.Scale, (3, .vec 3 1 (List.map aH v14))] 4)) (fun v14 h => ?_) (fun j5 Aj5 hj5 h => ?_)
 refine aL (wP 0 (T := 31) (l := [D3 p0.Rules]) (l2 := [D3 p0.Rules]) (L2 := [(5, .c (.imm [D3 p0.Rules])), C0 8 1 0, C0 15 2 0]) (G2 := [L4 1 p3, K6 2 95 y4 p0.Rules 3 p1.Tokens p2.Dark p2.High p2.Scale, (3, .vec 3 1 (List.map aH v14))]) (by kernel_rfl) (by kernel_rfl) (by kernel_rfl) (by kernel_rfl)) ?_
 refine zx fun _ => ?_
 refine zk 3 ?_
 obtain ⟨y15, he, h⟩ := aB h
 refine zo [(0, 3)] fok37 (nQ n _ _ y15 he) ?_
 clear he
 refine ze [8, 15] ?_
 refine za [8, 15, 17] ?_
 refine aX h (fun A j => ∀ v34, j v34 = some r → A (mk [C0 8 0 0, E6 17 1] [L4 0 p3, (1, .map true (List.map (eM (A9) mE) v34))] 2)) (fun v34 h => ?_) (fun j16 Aj16 hj16 h => ?_)
 refine za [8, 17, 20] ?_
 refine aX h (fun A j => ∀ v46, j v46 = some r → A (mk [(20, .c (.app 0 (List.map aW v46)))] [B7 0 54 23 v46] 1)) (fun v46 h => ?_) (fun j35 Aj35 hj35 h => ?_)
 refine za [10, 11] ?_
 cases h
 exact aI zr
 refine zx fun _ => ?_
 refine zk 2 ?_
 refine zl aE p3.Nodes ?_
 refine zk 1 ?_
 refine ze [17, 20, 98, 99, 100] ?_
 refine aK ?_
 refine bJ (fun n s => ∃ v39 v40, gA p3 v34 j35 n v39 v40 = some r ∧ s = mk [E6 17 0, (20, .c (.app 1 (List.map aW v39))), (98, F7 p3.Nodes), (99, .c (I (List.length p3.Nodes : Int))), C6 100 v40] [(0, .map true (List.map (eM (A9) mE) v34)), B7 1 54 23 v39] 2) n _ (eA.trans (nC (L2 := [E6 17 1, (20, .c (.app 7 (List.map aW ([] : List aU)))), (98, F7 p3.Nodes), (99, .c (I (List.length p3.Nodes : Int))), I9 100]) (G2 := [L4 0 p3, (1, .map true (List.map (eM (A9) mE) v34)), (7, .tok 54 23 (List.length ([] : List aU)))]) (lim2 := 8) 20 54 23 (by kernel_rfl) (by kernel_rfl) (by kernel_rfl) (by kernel_rfl)) (zv [(1, 0), (7, 1)] [17, 20, 98, 99, 100] 2)) ⟨_, _, h, rfl⟩ (fun s ⟨v39, v40, h, _⟩ => nomatch h) ?_
 rintro n s ⟨v39, v40, h, rfl⟩
 rw [gA] at h
 refine za [17, 20, 98, 99, 100, 101] ?_
 refine aO ?_
 refine zi h (fun h => ?_) fun h => ?_
 refine aC ?_
 refine aO ?_
 refine aK ?_
 refine zx fun _ => ?_
 obtain ⟨e41, he, h⟩ := aB h
 refine zd aE he ?_
 clear he
 refine zk 3 ?_
 refine ze [17, 20, 22, 98, 99, 100] ?_
 refine zy fun _ => ?_
 refine zk 6 ?_
 obtain ⟨y42, he, h⟩ := aB h
 refine zw (v := .agg [I y42.1.x0, I y42.1.x1, I y42.1.x2, I y42.1.x3, I y42.1.x4, I y42.1.x5, I y42.1.x6, I y42.1.x7, I y42.1.x8, I y42.1.x9, I y42.1.x10, I y42.1.x11, I y42.1.x12, I y42.1.x13, I y42.1.x14, I y42.1.x15, I y42.1.x16, I y42.1.x17, I y42.1.x18, I y42.1.x19, I y42.1.x20, I y42.1.x21]) [0] (cT (kf := (A9)) (enc := mE) (l := v34) (k := e41.ID) (ok := false) (kk := .int .i64) (j := ⟨.arr 22 3, 22, 176, [.int .i64 0, .int .i64 0, .int .i64 0, .int .i64 0, .int .i64 0, .int .i64 0, .int .i64 0, .int .i64 0, .int .i64 0, .int .i64 0, .int .i64 0, .int .i64 0, .int .i64 0, .int .i64 0, .int .i64 0, .int .i64 0, .int .i64 0, .int .i64 0, .int .i64 0, .int .i64 0, .int .i64 0, .int .i64 0]⟩) (p := y42) (v := .agg [I y42.1.x0, I y42.1.x1, I y42.1.x2, I y42.1.x3, I y42.1.x4, I y42.1.x5, I y42.1.x6, I y42.1.x7, I y42.1.x8, I y42.1.x9, I y42.1.x10, I y42.1.x11, I y42.1.x12, I y42.1.x13, I y42.1.x14, I y42.1.x15, I y42.1.x16, I y42.1.x17, I y42.1.x18, I y42.1.x19, I y42.1.x20, I y42.1.x21]) he (by kernel_rfl) eE (by kernel_rfl) (by kernel_rfl) (by kernel_rfl)) ?_
 clear he
 refine zk 2 ?_
 obtain ⟨l43, he, h⟩ := aB h
 refine cH (enc := aW) (l := v39) (els := [aU.mk e41.ID y42.1]) (r := l43) (old := some 1) (e := 54) (sz := 23) (bytes := 184) (k := (H4 v39)) (nm := 16) he (by kernel_rfl) (by kernel_rfl) (fun x => by kernel_rfl) (by kernel_rfl) (by kernel_rfl) rfl rfl rfl ?_
 clear he
 refine zk 1 ?_
 refine cF ?_
 refine bB ?_
 refine zb ?_
 exact eZ (zv [(0, 0), (16, 1)] [17, 20, 98, 99, 100] 2) (⟨_, _, h, rfl⟩)
 exact aL (zv [(1, 0)] [20] 1) (bK (hj35 _ h))
 refine zx fun _ => ?_
 refine zk 1 ?_
 obtain ⟨y17, he, h⟩ := aB h
 refine zc fok41 (xB n _ y17 he) ?_
 clear he
 refine zl aH y17 ?_
 refine zk 1 ?_
 refine ze [8, 15, 17, 73, 74, 75] ?_
 refine aK ?_
 refine bJ (fun n s => ∃ v25 v26, fX y17 y4 p0 y15 p1 p2 p3 j16 n v25 v26 = some r ∧ s = mk [C0 8 0 0, C0 15 1 0, E6 17 2, H1 73 y17, (74, .c (I (List.length y17 : Int))), C6 75 v25] [L4 0 p3, F8 1 y4 p0.Rules y15 p1.Tokens p2, (2, .map true (List.map (eM (A9) mE) v26))] 3) n _ (eA.trans (wN 3 (T := 3) (sz := 1) (l := List.map aH y15) (L2 := [C0 8 1 0, C0 15 2 0, E6 17 8, H1 73 y17, (74, .c (I (List.length y17 : Int))), I9 75]) (G2 := [L4 1 p3, F8 2 y4 p0.Rules y15 p1.Tokens p2, (8, .map true (List.map (eM (A9) mE) ([] : List (Int × aA))))]) (by kernel_rfl) (by kernel_rfl) (by kernel_rfl)) (zv [(1, 0), (2, 1), (8, 2)] [8, 15, 17, 73, 74, 75] 3)) ⟨_, _, h, rfl⟩ (fun s ⟨v25, v26, h, _⟩ => nomatch h) ?_
 rintro n s ⟨v25, v26, h, rfl⟩
 rw [fX] at h
 refine za [8, 15, 17, 73, 74, 75, 76] ?_
 refine aO ?_
 refine zi h (fun h => ?_) fun h => ?_
 refine aC ?_
 refine aO ?_
 refine aK ?_
 refine zx fun _ => ?_
 obtain ⟨e27, he, h⟩ := aB h
 refine zd aH he ?_
 clear he
 refine zk 2 ?_
 refine ze [8, 15, 17, 19, 73, 74, 75] ?_
 refine zy fun _ => ?_
 refine zk 9 ?_
 obtain ⟨y28, he, h⟩ := aB h
 refine zw (v := .agg [I y28.1.ID, I y28.1.Parent, I y28.1.Kind, Sx y28.1.Key, C7 y28.1.Attrs, C9 y28.1.Actions, C1 y28.1.Kids]) [] (cT (kf := (A9)) (enc := aE) (l := y4.nodes) (k := e27) (ok := false) (kk := .int .i64) (j := ⟨.st [(3, 0, 1), (3, 1, 1), (3, 2, 1), (9, 3, 1), (55, 4, 1), (56, 5, 1), (22, 6, 1)], 7, 112, [.int .i64 0, .int .i64 0, .int .i64 0, .string ⟨#[]⟩, .slice none 0 0, .slice none 0 0, .slice none 0 0]⟩) (p := y28) (v := .agg [I y28.1.ID, I y28.1.Parent, I y28.1.Kind, Sx y28.1.Key, C7 y28.1.Attrs, C9 y28.1.Actions, C1 y28.1.Kids]) he (by kernel_rfl) eE (by kernel_rfl) (by kernel_rfl) (by kernel_rfl)) ?_
 clear he
 refine zk 1 ?_
 obtain ⟨y29, he, h⟩ := aB h
 refine zw (v := .agg [I y29.1.x0, I y29.1.x1, I y29.1.x2, I y29.1.x3, I y29.1.x4, I y29.1.x5, I y29.1.x6, I y29.1.x7, I y29.1.x8, I y29.1.x9, I y29.1.x10, I y29.1.x11, I y29.1.x12, I y29.1.x13, I y29.1.x14, I y29.1.x15, I y29.1.x16, I y29.1.x17, I y29.1.x18, I y29.1.x19, I y29.1.x20, I y29.1.x21]) [2] (cT (kf := (A9)) (enc := mE) (l := v26) (k := y28.1.Parent) (ok := false) (kk := .int .i64) (j := ⟨.arr 22 3, 22, 176, [.int .i64 0, .int .i64 0, .int .i64 0, .int .i64 0, .int .i64 0, .int .i64 0, .int .i64 0, .int .i64 0, .int .i64 0, .int .i64 0, .int .i64 0, .int .i64 0, .int .i64 0, .int .i64 0, .int .i64 0, .int .i64 0, .int .i64 0, .int .i64 0, .int .i64 0, .int .i64 0, .int .i64 0, .int .i64 0]⟩) (p := y29) (v := .agg [I y29.1.x0, I y29.1.x1, I y29.1.x2, I y29.1.x3, I y29.1.x4, I y29.1.x5, I y29.1.x6, I y29.1.x7, I y29.1.x8, I y29.1.x9, I y29.1.x10, I y29.1.x11, I y29.1.x12, I y29.1.x13, I y29.1.x14, I y29.1.x15, I y29.1.x16, I y29.1.x17, I y29.1.x18, I y29.1.x19, I y29.1.x20, I y29.1.x21]) he (by kernel_rfl) eE (by kernel_rfl) (by kernel_rfl) (by kernel_rfl)) ?_
 clear he
 refine zk 4 ?_
 obtain ⟨y30, he, h⟩ := aB h
 refine zc fok42 (Ak n _ _ _ _ y30 he) ?_
 clear he
 refine jM (kf := (A9)) (enc := mE) (l := v26) (k := e27) (v := y30) (n := 2) (ag := true) (kk := .int .i64) (by kernel_rfl) eE (by kernel_rfl) (by kernel_rfl) rfl rfl ?_
 refine cF ?_
 refine bB ?_
 refine zb ?_
 exact eZ (zv [(0, 0), (1, 1), (2, 2)] [8, 15, 17, 73, 74, 75] 3) (⟨_, _, h, rfl⟩)
 exact aL (zv [(0, 0), (2, 1)] [8, 17] 2) (bK (hj16 _ h))
 refine zx fun _ => ?_
 refine zk 2 ?_
 refine zl bF p0.Rules ?_
 refine zk 1 ?_
 refine mC [5, 8, 15, 56, 57] (L2 := [C0 5 0 0, C0 8 3 0, C0 15 37 0, (56, .c (I (List.length p0.Rules : Int))), I9 57]) (G2 := [(0, J4 p0.Rules), (1, L0 p1.Tokens), (2, E3 p2), L4 3 p3, (37, .blk 95 [C2 y4.nodes, C4 y4.class_, D6 y4.states, D3 p0.Rules, cQ, E4 p1.Tokens, Bo p2.Dark, Bo p2.High, I p2.Scale])]) 43 ?_
 refine aK ?_
 refine bJ (fun n s => ∃ v8 v9, gC p0 j5 p3 y4 p1 p2 n v8 v9 = some r ∧ s = mk [C0 5 0 0, C0 8 1 0, C0 15 2 0, (56, .c (I (List.length p0.Rules : Int))), C6 57 v8] [(0, J4 p0.Rules), L4 1 p3, K6 2 95 y4 p0.Rules 3 p1.Tokens p2.Dark p2.High p2.Scale, (3, .vec 3 1 (List.map aH v9))] 4) n _ (eA.trans (xM (n := 37) (T0 := 95) (l := [C2 y4.nodes, C4 y4.class_, D6 y4.states, D3 p0.Rules, cQ, E4 p1.Tokens, Bo p2.Dark, Bo p2.High, I p2.Scale]) (G2 := [(0, J4 p0.Rules), (1, L0 p1.Tokens), (2, E3 p2), L4 3 p3, K6 37 95 y4 p0.Rules 43 p1.Tokens p2.Dark p2.High p2.Scale, (43, .vec 3 1 (List.map aH ([] : List Int)))]) (lim2 := 44) 4 3 1 (by kernel_rfl) (by kernel_rfl) (by kernel_rfl) (by kernel_rfl)) (zv [(0, 0), (3, 1), (37, 2), (43, 3)] [5, 8, 15, 56, 57] 4)) ⟨_, _, h, rfl⟩ (fun s ⟨v8, v9, h, _⟩ => nomatch h) ?_
 rintro n s ⟨v8, v9, h, rfl⟩
 rw [gC] at h
 refine za [5, 8, 15, 56, 57, 58] ?_
 refine aO ?_
 refine zi h (fun h => ?_) fun h => ?_
 refine aC ?_
 refine aO ?_
 refine aK ?_
 refine za [5, 8, 15, 16, 56, 57] ?_
 refine zy fun _ => ?_
 refine zk 4 ?_
 obtain ⟨l10, he, h⟩ := aB h
 refine yB (enc := aH) (l := v9) (els := [v8]) (r := l10) (m := 3) (e := 3) (sz := 1) (bytes := 8) (nm := 11) he (by kernel_rfl) (fun x => by kernel_rfl) (by kernel_rfl) (by kernel_rfl) rfl rfl rfl ?_
 clear he
 refine zk 2 ?_
 refine cF ?_
 refine bB ?_
 refine zb ?_
 exact eZ (zv [(0, 0), (1, 1), (2, 2), (11, 3)] [5, 8, 15, 56, 57] 4) (⟨_, _, h, rfl⟩)
 exact aL (zv [(0, 0), (1, 1), (2, 2), (3, 3)] [5, 8, 15] 4) (bK (hj5 _ h))
def nT  (n : Nat) (p0 : bY) (p1 : bM) : Option Int := (if ((decide (p1.Prop_ < 0)) || (decide (p1.Prop_ ≥ 22))) = true then some 1 else (if ((((decide (p1.Source < 0)) || (decide (p1.Source > 3))) || ((p1.N != 0) && (p1.Source != 0))) || ((!(bV p1.Token (⟨#[]⟩ : ByteArray))) && (p1.Source != 1))) = true then some 9 else (gd [(p1.Source == 0)] (dK n p1.Prop_ p1.N)).bind fun (y1 : Bool) => (if ((p1.Source == 0) && (!y1)) = true then some 1 else (gd [(p1.Source == 1)] (dQ n p1.Token)).bind fun (y2 : Bool) => (if ((p1.Source == 1) && (!y2)) = true then some 4 else (if (((p1.Prop_ == 5) || (p1.Prop_ == 21)) && ((mI .i64 p0.States 7) != 0)) = true then some 13 else some 0)))))
def iW (e14 : bY) (j13 : Unit → Option Int) (v12 : Int) (p0 : bH) : Nat → Int → Option Int
 | 0, _ => none
 | n + 1, v19 => (if (decide (v19 < (List.length e14.Decls : Int))) = true then (idx e14.Decls v19).bind fun (e20 : bM) => (nT n e14 e20).bind fun (y21 : Int) => (if (y21 != 0) = true then some y21 else iW e14 j13 v12 p0 n (IntKind.wrap .i64 (v19 + 1))) else j13 ())
def gM (p0 : bH) (j1 : Unit → Option Int) : Nat → Int → Option Int
 | 0, _ => none
 | n + 1, v12 => (if (decide (v12 < (List.length p0.Rules : Int))) = true then (aS (fun (_ : Unit) => gM p0 j1 n (IntKind.wrap .i64 (v12 + 1))) (fun (j13 : Unit → Option Int) => (idx p0.Rules v12).bind fun (e14 : bY) => (if ((((decide (e14.Kind < 0)) || (decide (e14.Kind > 13))) || (decide (e14.UnderKind < 0))) || (decide (e14.UnderKind > 13))) = true then some 9 else (gd [(!(bV e14.Class (⟨#[]⟩ : ByteArray)))] (dQ n e14.Class)).bind fun (y15 : Bool) => (gd [(!((!(bV e14.Class (⟨#[]⟩ : ByteArray))) && (!y15))), (!(bV e14.UnderClass (⟨#[]⟩ : ByteArray)))] (dQ n e14.UnderClass)).bind fun (y16 : Bool) => (if (((!(bV e14.Class (⟨#[]⟩ : ByteArray))) && (!y15)) || ((!(bV e14.UnderClass (⟨#[]⟩ : ByteArray))) && (!y16))) = true then some 4 else (if ((decide (e14.States < 0)) || (decide (e14.States > 31))) = true then some 1 else (if (decide ((List.length e14.Decls : Int) > 50)) = true then some 2 else iW e14 j13 v12 p0 n 0)))))) else j1 ())
def qI  (n : Nat) (p0 : bH) : Option Int := (if (decide ((List.length p0.Rules : Int) > 100)) = true then some 2 else (aS (fun (_ : Unit) => some 0) (fun (j1 : Unit → Option Int) => gM p0 j1 n 0)))
def mX  (n : Nat) (p0 : Int) : Option Bool := some ((decide (p0 ≥ (-1 : Int))) && (decide (p0 ≤ 16777215)))
def jA (v14 : Int) (p0 : bS) (e16 : dM) (j18 : Unit → Option Int) : Nat → Int → Option Int
 | 0, _ => none
 | n + 1, v20 => (if (decide (v20 < v14)) = true then (idx p0.Tokens v20).bind fun (e21 : dM) => (if (bV e21.Name e16.Name) = true then some 6 else jA v14 p0 e16 j18 n (IntKind.wrap .i64 (v20 + 1))) else j18 ())
def iY (p0 : bS) (j1 : Unit → Option Int) : Nat → Int → Option Int
 | 0, _ => none
 | n + 1, v14 => (if (decide (v14 < (List.length p0.Tokens : Int))) = true then (aS (fun (_ : Unit) => iY p0 j1 n (IntKind.wrap .i64 (v14 + 1))) (fun (j15 : Unit → Option Int) => (idx p0.Tokens v14).bind fun (e16 : dM) => (dQ n e16.Name).bind fun (y17 : Bool) => (if (!y17) = true then some 4 else (aS (fun (_ : Unit) => (mX n e16.Light).bind fun (y23 : Bool) => (gd [(!(!y23))] (mX n e16.Dark)).bind fun (y24 : Bool) => (gd [(!((!y23) || (!y24)))] (mX n e16.HighLight)).bind fun (y25 : Bool) => (gd [(!(((!y23) || (!y24)) || (!y25)))] (mX n e16.HighDark)).bind fun (y26 : Bool) => (if ((((!y23) || (!y24)) || (!y25)) || (!y26)) = true then some 1 else j15 ())) (fun (j18 : Unit → Option Int) => jA v14 p0 e16 j18 n 0))))) else j1 ())
def qV  (n : Nat) (p0 : bS) : Option Int := (if (decide ((List.length p0.Tokens : Int) > 100)) = true then some 2 else (aS (fun (_ : Unit) => some 0) (fun (j1 : Unit → Option Int) => iY p0 j1 n 0)))
def lA (p0 : bA) (p1 : Int) (j1 : Unit → Option Int) : Nat → Int → Option Int
 | 0, _ => none
 | n + 1, v3 => (if (decide (v3 < (List.length p0.Nodes : Int))) = true then (idx p0.Nodes v3).bind fun (e4 : aP) => (if (e4.ID == p1) = true then some v3 else lA p0 p1 j1 n (IntKind.wrap .i64 (v3 + 1))) else j1 ())
def mW  (n : Nat) (p0 : bA) (p1 : Int) : Option Int := (aS (fun (_ : Unit) => some (-1 : Int)) (fun (j1 : Unit → Option Int) => lA p0 p1 j1 n 0))
def jU  (n : Nat) (p0 : bA) (p1 : Int) : Option aP := (mW n p0 p1).bind fun (y1 : Int) => (if (decide (y1 < 0)) = true then some (aP.mk 0 0 0 (⟨#[]⟩ : ByteArray) ([] : List bD) ([] : List cU) ([] : List Int)) else (idx p0.Nodes y1).bind fun (e2 : aP) => some e2)
def kY (y2 : aP) (self_ref14_order : bA → Int → (List Int) → Option (List Int)) (p0 : bA) (j3 : List Int → Option (List Int)) : Nat → Int → List Int → Option (List Int)
 | 0, _, _ => none
 | n + 1, v6, v7 => (if (decide (v6 < (List.length y2.Kids : Int))) = true then (idx y2.Kids v6).bind fun (e8 : Int) => (self_ref14_order p0 e8 v7).bind fun (y9 : (List Int)) => kY y2 self_ref14_order p0 j3 n (IntKind.wrap .i64 (v6 + 1)) y9 else j3 v7)
def sM (self_ref14_order : bA → Int → (List Int) → Option (List Int)) (n : Nat) (p0 : bA) (p1 : Int) (p2 : (List Int)) : Option (List Int) := (pD 8 p2 [p1]).bind fun (l1 : List Int) => (jU n p0 p1).bind fun (y2 : aP) => (aS (fun (v12 : List Int) => some v12) (fun (j3 : List Int → Option (List Int)) => kY y2 self_ref14_order p0 j3 n 0 l1))
def lP : Nat → bA → Int → (List Int) → Option (List Int)
 | 0, _, _, _ => none
 | n + 1, p0, p1, p2 => sM (fun a0 a1 a2 => lP n a0 a1 a2) n p0 p1 p2
end Go.Proofs.YtojkihhnioeggaaGreatDoor.S
