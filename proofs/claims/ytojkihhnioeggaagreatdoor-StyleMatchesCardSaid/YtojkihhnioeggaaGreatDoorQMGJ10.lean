import Derived.Test.YtojkihhnioeggaaGreatDoorQMGJ9
set_option linter.unusedVariables false
set_option linter.unusedSimpArgs false
set_option maxRecDepth 100000
set_option maxHeartbeats 4000000
namespace Go.Proofs.YtojkihhnioeggaaGreatDoor.S
open Go Go.Bm
def lG (p3 : bC) (v34 : List (Int × aA)) (j35 : List dB → Option ((List dB) × Int)) : Nat → List dB → Int → Option ((List dB) × Int)
 | 0, _, _ => none
 | n + 1, v39, v40 => (if (decide (v40 < (List.length p3.Nodes : Int))) = true then (idx p3.Nodes v40).bind fun (e41 : aR) => (some (gN e41.ID v34, jF e41.ID v34)).bind fun (y42 : (aA × Bool)) => (pE 184 v39 [(dB.mk e41.ID y42.1)]).bind fun (l43 : List dB) => lG p3 v34 j35 n l43 (IntKind.wrap .i64 (v40 + 1)) else j35 v39)
def lA (y17 : (List Int)) (y4 : iN) (p0 : bS) (y15 : (List Int)) (p1 : mY) (p2 : tC) (p3 : bC) (j16 : List (Int × aA) → Option ((List dB) × Int)) : Nat → Int → List (Int × aA) → Option ((List dB) × Int)
 | 0, _, _ => none
 | n + 1, v25, v26 => (if (decide (v25 < (List.length y17 : Int))) = true then (idx y17 v25).bind fun (e27 : Int) => (some (gN e27 y4.nodes, jF e27 y4.nodes)).bind fun (y28 : (aR × Bool)) => (some (gN y28.1.Parent v26, jF y28.1.Parent v26)).bind fun (y29 : (aA × Bool)) => (qP n (mT.mk y4 p0.Rules y15 p1 p2) e27 y29.1 (e27 == p3.Root)).bind fun (y30 : aA) => lA y17 y4 p0 y15 p1 p2 p3 j16 n (IntKind.wrap .i64 (v25 + 1)) (iP e27 y30 v26) else j16 v26)
def lE (p0 : bS) (j5 : List Int → Option ((List dB) × Int)) (p3 : bC) (y4 : iN) (p1 : mY) (p2 : tC) : Nat → Int → List Int → Option ((List dB) × Int)
 | 0, _, _ => none
 | n + 1, v8, v9 => (if (decide (v8 < (List.length p0.Rules : Int))) = true then (pE 8 v9 [v8]).bind fun (l10 : List Int) => lE p0 j5 p3 y4 p1 p2 n (IntKind.wrap .i64 (v8 + 1)) l10 else j5 v9)
def qU  (n : Nat) (p0 : bS) (p1 : mY) (p2 : tC) (p3 : bC) (p4 : (List aU)) : Option ((List dB) × Int) := (pU n p0).bind fun (y1 : Int) => (if (y1 != 0) = true then some (([] : List dB), y1) else (qA n p1).bind fun (y2 : Int) => (if (y2 != 0) = true then some (([] : List dB), y2) else (if ((decide (p2.Scale < 50)) || (decide (p2.Scale > 400))) = true then some (([] : List dB), 1) else (nJ n p3).bind fun (y3 : Int) => (if (y3 != 0) = true then some (([] : List dB), y3) else (pG n p3 p4).bind fun (y4 : iN) => (aV (fun (v14 : List Int) => (gC n v14 p0).bind fun (y15 : (List Int)) => (aV (fun (v34 : List (Int × aA)) => (aV (fun (v46 : List dB) => some (v46, 0)) (fun (j35 : List dB → Option ((List dB) × Int)) => lG p3 v34 j35 n ([] : List dB) 0))) (fun (j16 : List (Int × aA) → Option ((List dB) × Int)) => (wO n p3).bind fun (y17 : (List Int)) => lA y17 y4 p0 y15 p1 p2 p3 j16 n 0 ([] : List (Int × aA))))) (fun (j5 : List Int → Option ((List dB) × Int)) => lE p0 j5 p3 y4 p1 p2 n 0 ([] : List Int)))))))
theorem zS  (n : Nat) (p0 : bS) (p1 : mY) (p2 : tC) (p3 : bC) (p4 : (List aU)) (r : ((List dB) × Int)) (h : qU n p0 p1 p2 p3 p4 = some r) : cN E 17 0 [.agg [.lit (List.map aW p0.Rules)], .agg [.lit (List.map cK p1.Tokens)], .agg [Bo p2.Dark, Bo p2.High, I p2.Scale], .agg [I p3.Root, I p3.Next, .lit (List.map aE p3.Nodes)], .c (.lit (List.map bG p4))] [] (.tup [.c (.lit (List.map dW r.1)), .c (I r.2)]) [] := by
 refine fW Tryz.func17 rfl ?_
 unfold qU at h
 refine za [4, 5, 6, 7, 8] ?_
 refine aK ?_
 refine zx fun _ => ?_
 refine zk 1 ?_
 obtain ⟨y1, he, h⟩ := aB h
 refine zc fok34 (xI n _ y1 he) ?_
 clear he
 refine zk 1 ?_
 refine ze [4, 5, 6, 7, 8, 12] ?_
 refine za [4, 5, 6, 7, 8, 12, 26] ?_
 refine zi h (fun h => ?_) fun h => ?_
 refine za [10, 11] ?_
 cases h
 exact aG zr
 refine aC ?_
 refine aK ?_
 refine zx fun _ => ?_
 refine zk 1 ?_
 obtain ⟨y2, he, h⟩ := aB h
 refine zc fok35 (xV n _ y2 he) ?_
 clear he
 refine zk 1 ?_
 refine ze [4, 5, 6, 7, 8, 13] ?_
 refine za [4, 5, 6, 7, 8, 13, 31] ?_
 refine zi h (fun h => ?_) fun h => ?_
 refine za [10, 11] ?_
 cases h
 exact aG zr
 refine aC ?_
 refine aK ?_
 refine zx fun _ => ?_
 refine zk 4 ?_
 refine zE (.c (.ptr 2 2)) ?_
 refine zE (.c (I p2.Scale)) ?_
 refine zE (.c (Bo (decide (p2.Scale > 400)))) ?_
 refine zP (.bool ((decide (p2.Scale < 50)) || (decide (p2.Scale > 400)))) ?_
 refine jV [4, 5, 6, 7, 8, 40] (L2 := [(4, .c (.lit (List.map bG p4))), (5, .c (.ptr 0 0)), (6, .c (.ptr 1 0)), (7, .c (.ptr 2 0)), (8, .c (.ptr 3 0)), (40, .c (Bo ((decide (p2.Scale < 50)) || (decide (p2.Scale > 400)))))]) (G2 := [(0, .blk 31 [.lit (List.map aW p0.Rules)]), (1, .blk 35 [.lit (List.map cK p1.Tokens)]), (2, .blk 38 [Bo p2.Dark, Bo p2.High, I p2.Scale]), (3, .blk 27 [I p3.Root, I p3.Next, .lit (List.map aE p3.Nodes)])]) 24 ?_
 refine zi h (fun h => ?_) fun h => ?_
 refine za [10, 11] ?_
 cases h
 exact aG zr
 refine aC ?_
 refine aK ?_
 refine zx fun _ => ?_
 refine zk 1 ?_
 obtain ⟨y3, he, h⟩ := aB h
 refine zc Wv (vW n _ y3 he) ?_
 clear he
 refine zk 1 ?_
 refine ze [4, 5, 6, 7, 8, 14] ?_
 refine za [4, 5, 6, 7, 8, 14, 44] ?_
 refine zi h (fun h => ?_) fun h => ?_
 refine za [10, 11] ?_
 cases h
 exact aG zr
 refine aC ?_
 refine wP [[], [], [0, 1], [], [3], [], [], [2, 4, 5, 6, 0, 1, 3], [], [8, 7, 2, 0, 1, 3, 4, 5, 6]] fun _ => ?_
 refine zk 2 ?_
 obtain ⟨y4, he, h⟩ := aB h
 refine zc Xm (xC n _ _ y4 he) ?_
 clear he
 refine zk 7 ?_
 refine ze [5, 8, 15] ?_
 refine aQ h (fun A j => ∀ v14, j v14 = some r → A (mk [(5, .c (.ptr 0 0)), (8, .c (.ptr 1 0)), (15, .c (.ptr 2 0))] [(0, .blk 31 [.lit (List.map aW p0.Rules)]), (1, .blk 27 [I p3.Root, I p3.Next, .lit (List.map aE p3.Nodes)]), (2, .blk 95 [.lmap true (List.map (eM (Value.int .i64) aE) y4.nodes), .lmap false (List.map (eM (Value.int .i64) eS) y4.class_), .lmap false (List.map (eM (Value.int .i64) aJ) y4.states), .lit (List.map aW p0.Rules), .row 3, .lit (List.map cK p1.Tokens), Bo p2.Dark, Bo p2.High, I p2.Scale]), (3, .vec 3 1 (List.map aJ v14))] 4)) (fun v14 h => ?_) (fun j5 Aj5 hj5 h => ?_)
 refine aI (vM 0 (T := 31) (l := [.lit (List.map aW p0.Rules)]) (l2 := [.lit (List.map aW p0.Rules)]) (L2 := [(5, .c (.imm [.lit (List.map aW p0.Rules)])), (8, .c (.ptr 1 0)), (15, .c (.ptr 2 0))]) (G2 := [(1, .blk 27 [I p3.Root, I p3.Next, .lit (List.map aE p3.Nodes)]), (2, .blk 95 [.lmap true (List.map (eM (Value.int .i64) aE) y4.nodes), .lmap false (List.map (eM (Value.int .i64) eS) y4.class_), .lmap false (List.map (eM (Value.int .i64) aJ) y4.states), .lit (List.map aW p0.Rules), .row 3, .lit (List.map cK p1.Tokens), Bo p2.Dark, Bo p2.High, I p2.Scale]), (3, .vec 3 1 (List.map aJ v14))]) (by kernel_rfl) (by kernel_rfl) (by kernel_rfl) (by kernel_rfl)) ?_
 refine zx fun _ => ?_
 refine zk 3 ?_
 obtain ⟨y15, he, h⟩ := aB h
 refine zo [(0, 3)] fok37 (mP n _ _ y15 he) ?_
 clear he
 refine ze [8, 15] ?_
 refine za [8, 15, 17] ?_
 refine aQ h (fun A j => ∀ v34, j v34 = some r → A (mk [(8, .c (.ptr 0 0)), (17, .c (.mapr 1))] [(0, .blk 27 [I p3.Root, I p3.Next, .lit (List.map aE p3.Nodes)]), (1, .map true (List.map (eM (Value.int .i64) lN) v34))] 2)) (fun v34 h => ?_) (fun j16 Aj16 hj16 h => ?_)
 refine za [8, 17, 20] ?_
 refine aQ h (fun A j => ∀ v46, j v46 = some r → A (mk [(20, .c (.app 0 (List.map dW v46)))] [(0, .tok 54 23 (List.length v46))] 1)) (fun v46 h => ?_) (fun j35 Aj35 hj35 h => ?_)
 refine za [10, 11] ?_
 cases h
 exact aG zr
 refine zx fun _ => ?_
 refine zk 2 ?_
 refine zl aE p3.Nodes ?_
 refine zk 1 ?_
 refine ze [17, 20, 98, 99, 100] ?_
 refine aF ?_
 refine bA (fun n s => ∃ v39 v40, lG p3 v34 j35 n v39 v40 = some r ∧ s = mk [(17, .c (.mapr 0)), (20, .c (.app 1 (List.map dW v39))), (98, .c (.lit (List.map aE p3.Nodes))), (99, .c (I (List.length p3.Nodes : Int))), (100, .c (I v40))] [(0, .map true (List.map (eM (Value.int .i64) lN) v34)), (1, .tok 54 23 (List.length v39))] 2) n _ (dU.trans (mJ (L2 := [(17, .c (.mapr 1)), (20, .c (.app 7 (List.map dW ([] : List dB)))), (98, .c (.lit (List.map aE p3.Nodes))), (99, .c (I (List.length p3.Nodes : Int))), (100, .c (I 0))]) (G2 := [(0, .blk 27 [I p3.Root, I p3.Next, .lit (List.map aE p3.Nodes)]), (1, .map true (List.map (eM (Value.int .i64) lN) v34)), (7, .tok 54 23 (List.length ([] : List dB)))]) (lim2 := 8) 20 54 23 (by kernel_rfl) (by kernel_rfl) (by kernel_rfl) (by kernel_rfl)) (zv [(1, 0), (7, 1)] [17, 20, 98, 99, 100] 2)) ⟨_, _, h, rfl⟩ (fun s ⟨v39, v40, h, _⟩ => nomatch h) ?_
 rintro n s ⟨v39, v40, h, rfl⟩
 rw [lG] at h
 refine za [17, 20, 98, 99, 100, 101] ?_
 refine aK ?_
 refine zi h (fun h => ?_) fun h => ?_
 refine aC ?_
 refine aK ?_
 refine aF ?_
 refine zx fun _ => ?_
 obtain ⟨e41, he, h⟩ := aB h
 refine zd aE he ?_
 clear he
 refine zk 3 ?_
 refine ze [17, 20, 22, 98, 99, 100] ?_
 refine zy fun _ => ?_
 refine zk 6 ?_
 obtain ⟨y42, he, h⟩ := aB h
 refine zw (v := .agg [I y42.1.x0, I y42.1.x1, I y42.1.x2, I y42.1.x3, I y42.1.x4, I y42.1.x5, I y42.1.x6, I y42.1.x7, I y42.1.x8, I y42.1.x9, I y42.1.x10, I y42.1.x11, I y42.1.x12, I y42.1.x13, I y42.1.x14, I y42.1.x15, I y42.1.x16, I y42.1.x17, I y42.1.x18, I y42.1.x19, I y42.1.x20, I y42.1.x21]) [0] (cZ (kf := (Value.int .i64)) (enc := lN) (l := v34) (k := e41.ID) (ok := false) (kk := .int .i64) (j := ⟨.arr 22 3, 22, 176, [.int .i64 0, .int .i64 0, .int .i64 0, .int .i64 0, .int .i64 0, .int .i64 0, .int .i64 0, .int .i64 0, .int .i64 0, .int .i64 0, .int .i64 0, .int .i64 0, .int .i64 0, .int .i64 0, .int .i64 0, .int .i64 0, .int .i64 0, .int .i64 0, .int .i64 0, .int .i64 0, .int .i64 0, .int .i64 0]⟩) (p := y42) (v := .agg [I y42.1.x0, I y42.1.x1, I y42.1.x2, I y42.1.x3, I y42.1.x4, I y42.1.x5, I y42.1.x6, I y42.1.x7, I y42.1.x8, I y42.1.x9, I y42.1.x10, I y42.1.x11, I y42.1.x12, I y42.1.x13, I y42.1.x14, I y42.1.x15, I y42.1.x16, I y42.1.x17, I y42.1.x18, I y42.1.x19, I y42.1.x20, I y42.1.x21]) he (by kernel_rfl) gH (by kernel_rfl) (by kernel_rfl) (by kernel_rfl)) ?_
 clear he
 refine zk 2 ?_
 obtain ⟨l43, he, h⟩ := aB h
 refine cB (enc := dW) (l := v39) (els := [(dB.mk e41.ID y42.1)]) (r := l43) (old := some 1) (e := 54) (sz := 23) (bytes := 184) (k := (List.length v39)) (nm := 16) he (by kernel_rfl) (by kernel_rfl) (fun x => by kernel_rfl) (by kernel_rfl) (by kernel_rfl) rfl rfl rfl ?_
 clear he
 refine zk 1 ?_
 refine bL ?_
 refine aT ?_
 refine zb ?_
 exact dI (zv [(0, 0), (16, 1)] [17, 20, 98, 99, 100] 2) (⟨_, _, h, rfl⟩)
 exact aI (zv [(1, 0)] [20] 1) (bD (hj35 _ h))
 refine zx fun _ => ?_
 refine zk 1 ?_
 obtain ⟨y17, he, h⟩ := aB h
 refine zc fok41 (Ep n _ y17 he) ?_
 clear he
 refine zl aJ y17 ?_
 refine zk 1 ?_
 refine ze [8, 15, 17, 73, 74, 75] ?_
 refine aF ?_
 refine bA (fun n s => ∃ v25 v26, lA y17 y4 p0 y15 p1 p2 p3 j16 n v25 v26 = some r ∧ s = mk [(8, .c (.ptr 0 0)), (15, .c (.ptr 1 0)), (17, .c (.mapr 2)), (73, .c (.lit (List.map aJ y17))), (74, .c (I (List.length y17 : Int))), (75, .c (I v25))] [(0, .blk 27 [I p3.Root, I p3.Next, .lit (List.map aE p3.Nodes)]), (1, .blk 95 [.lmap true (List.map (eM (Value.int .i64) aE) y4.nodes), .lmap false (List.map (eM (Value.int .i64) eS) y4.class_), .lmap false (List.map (eM (Value.int .i64) aJ) y4.states), .lit (List.map aW p0.Rules), .lit (List.map aJ y15), .lit (List.map cK p1.Tokens), Bo p2.Dark, Bo p2.High, I p2.Scale]), (2, .map true (List.map (eM (Value.int .i64) lN) v26))] 3) n _ (dU.trans (yF 3 (T := 3) (sz := 1) (l := List.map aJ y15) (L2 := [(8, .c (.ptr 1 0)), (15, .c (.ptr 2 0)), (17, .c (.mapr 8)), (73, .c (.lit (List.map aJ y17))), (74, .c (I (List.length y17 : Int))), (75, .c (I 0))]) (G2 := [(1, .blk 27 [I p3.Root, I p3.Next, .lit (List.map aE p3.Nodes)]), (2, .blk 95 [.lmap true (List.map (eM (Value.int .i64) aE) y4.nodes), .lmap false (List.map (eM (Value.int .i64) eS) y4.class_), .lmap false (List.map (eM (Value.int .i64) aJ) y4.states), .lit (List.map aW p0.Rules), .lit (List.map aJ y15), .lit (List.map cK p1.Tokens), Bo p2.Dark, Bo p2.High, I p2.Scale]), (8, .map true (List.map (eM (Value.int .i64) lN) ([] : List (Int × aA))))]) (by kernel_rfl) (by kernel_rfl) (by kernel_rfl)) (zv [(1, 0), (2, 1), (8, 2)] [8, 15, 17, 73, 74, 75] 3)) ⟨_, _, h, rfl⟩ (fun s ⟨v25, v26, h, _⟩ => nomatch h) ?_
 rintro n s ⟨v25, v26, h, rfl⟩
 rw [lA] at h
 refine za [8, 15, 17, 73, 74, 75, 76] ?_
 refine aK ?_
 refine zi h (fun h => ?_) fun h => ?_
 refine aC ?_
 refine aK ?_
 refine aF ?_
 refine zx fun _ => ?_
 obtain ⟨e27, he, h⟩ := aB h
 refine zd aJ he ?_
 clear he
 refine zk 2 ?_
 refine ze [8, 15, 17, 19, 73, 74, 75] ?_
 refine zy fun _ => ?_
 refine zk 9 ?_
 obtain ⟨y28, he, h⟩ := aB h
 refine zw (v := .agg [I y28.1.ID, I y28.1.Parent, I y28.1.Kind, Sx y28.1.Key, .lit (List.map aM y28.1.Attrs), .lit (List.map aD y28.1.Actions), .lit (List.map aJ y28.1.Kids)]) [] (cZ (kf := (Value.int .i64)) (enc := aE) (l := y4.nodes) (k := e27) (ok := false) (kk := .int .i64) (j := ⟨.st [(3, 0, 1), (3, 1, 1), (3, 2, 1), (9, 3, 1), (55, 4, 1), (56, 5, 1), (22, 6, 1)], 7, 112, [.int .i64 0, .int .i64 0, .int .i64 0, .string ⟨#[]⟩, .slice none 0 0, .slice none 0 0, .slice none 0 0]⟩) (p := y28) (v := .agg [I y28.1.ID, I y28.1.Parent, I y28.1.Kind, Sx y28.1.Key, .lit (List.map aM y28.1.Attrs), .lit (List.map aD y28.1.Actions), .lit (List.map aJ y28.1.Kids)]) he (by kernel_rfl) gH (by kernel_rfl) (by kernel_rfl) (by kernel_rfl)) ?_
 clear he
 refine zk 1 ?_
 obtain ⟨y29, he, h⟩ := aB h
 refine zw (v := .agg [I y29.1.x0, I y29.1.x1, I y29.1.x2, I y29.1.x3, I y29.1.x4, I y29.1.x5, I y29.1.x6, I y29.1.x7, I y29.1.x8, I y29.1.x9, I y29.1.x10, I y29.1.x11, I y29.1.x12, I y29.1.x13, I y29.1.x14, I y29.1.x15, I y29.1.x16, I y29.1.x17, I y29.1.x18, I y29.1.x19, I y29.1.x20, I y29.1.x21]) [2] (cZ (kf := (Value.int .i64)) (enc := lN) (l := v26) (k := y28.1.Parent) (ok := false) (kk := .int .i64) (j := ⟨.arr 22 3, 22, 176, [.int .i64 0, .int .i64 0, .int .i64 0, .int .i64 0, .int .i64 0, .int .i64 0, .int .i64 0, .int .i64 0, .int .i64 0, .int .i64 0, .int .i64 0, .int .i64 0, .int .i64 0, .int .i64 0, .int .i64 0, .int .i64 0, .int .i64 0, .int .i64 0, .int .i64 0, .int .i64 0, .int .i64 0, .int .i64 0]⟩) (p := y29) (v := .agg [I y29.1.x0, I y29.1.x1, I y29.1.x2, I y29.1.x3, I y29.1.x4, I y29.1.x5, I y29.1.x6, I y29.1.x7, I y29.1.x8, I y29.1.x9, I y29.1.x10, I y29.1.x11, I y29.1.x12, I y29.1.x13, I y29.1.x14, I y29.1.x15, I y29.1.x16, I y29.1.x17, I y29.1.x18, I y29.1.x19, I y29.1.x20, I y29.1.x21]) he (by kernel_rfl) gH (by kernel_rfl) (by kernel_rfl) (by kernel_rfl)) ?_
 clear he
 refine zk 4 ?_
 obtain ⟨y30, he, h⟩ := aB h
 refine zc fok42 (zK n _ _ _ _ y30 he) ?_
 clear he
 refine kA (kf := (Value.int .i64)) (enc := lN) (l := v26) (k := e27) (v := y30) (n := 2) (ag := true) (kk := .int .i64) (by kernel_rfl) gH (by kernel_rfl) (by kernel_rfl) rfl rfl ?_
 refine bL ?_
 refine aT ?_
 refine zb ?_
 exact dI (zv [(0, 0), (1, 1), (2, 2)] [8, 15, 17, 73, 74, 75] 3) (⟨_, _, h, rfl⟩)
 exact aI (zv [(0, 0), (2, 1)] [8, 17] 2) (bD (hj16 _ h))
 refine zx fun _ => ?_
 refine zk 2 ?_
 refine zl aW p0.Rules ?_
 refine zk 1 ?_
 refine jV [5, 8, 15, 56, 57] (L2 := [(5, .c (.ptr 0 0)), (8, .c (.ptr 3 0)), (15, .c (.ptr 37 0)), (56, .c (I (List.length p0.Rules : Int))), (57, .c (I 0))]) (G2 := [(0, .blk 31 [.lit (List.map aW p0.Rules)]), (1, .blk 35 [.lit (List.map cK p1.Tokens)]), (2, .blk 38 [Bo p2.Dark, Bo p2.High, I p2.Scale]), (3, .blk 27 [I p3.Root, I p3.Next, .lit (List.map aE p3.Nodes)]), (37, .blk 95 [.lmap true (List.map (eM (Value.int .i64) aE) y4.nodes), .lmap false (List.map (eM (Value.int .i64) eS) y4.class_), .lmap false (List.map (eM (Value.int .i64) aJ) y4.states), .lit (List.map aW p0.Rules), bY, .lit (List.map cK p1.Tokens), Bo p2.Dark, Bo p2.High, I p2.Scale])]) 43 ?_
 refine aF ?_
 refine bA (fun n s => ∃ v8 v9, lE p0 j5 p3 y4 p1 p2 n v8 v9 = some r ∧ s = mk [(5, .c (.ptr 0 0)), (8, .c (.ptr 1 0)), (15, .c (.ptr 2 0)), (56, .c (I (List.length p0.Rules : Int))), (57, .c (I v8))] [(0, .blk 31 [.lit (List.map aW p0.Rules)]), (1, .blk 27 [I p3.Root, I p3.Next, .lit (List.map aE p3.Nodes)]), (2, .blk 95 [.lmap true (List.map (eM (Value.int .i64) aE) y4.nodes), .lmap false (List.map (eM (Value.int .i64) eS) y4.class_), .lmap false (List.map (eM (Value.int .i64) aJ) y4.states), .lit (List.map aW p0.Rules), .row 3, .lit (List.map cK p1.Tokens), Bo p2.Dark, Bo p2.High, I p2.Scale]), (3, .vec 3 1 (List.map aJ v9))] 4) n _ (dU.trans (wM (n := 37) (T0 := 95) (l := [.lmap true (List.map (eM (Value.int .i64) aE) y4.nodes), .lmap false (List.map (eM (Value.int .i64) eS) y4.class_), .lmap false (List.map (eM (Value.int .i64) aJ) y4.states), .lit (List.map aW p0.Rules), bY, .lit (List.map cK p1.Tokens), Bo p2.Dark, Bo p2.High, I p2.Scale]) (G2 := [(0, .blk 31 [.lit (List.map aW p0.Rules)]), (1, .blk 35 [.lit (List.map cK p1.Tokens)]), (2, .blk 38 [Bo p2.Dark, Bo p2.High, I p2.Scale]), (3, .blk 27 [I p3.Root, I p3.Next, .lit (List.map aE p3.Nodes)]), (37, .blk 95 [.lmap true (List.map (eM (Value.int .i64) aE) y4.nodes), .lmap false (List.map (eM (Value.int .i64) eS) y4.class_), .lmap false (List.map (eM (Value.int .i64) aJ) y4.states), .lit (List.map aW p0.Rules), .row 43, .lit (List.map cK p1.Tokens), Bo p2.Dark, Bo p2.High, I p2.Scale]), (43, .vec 3 1 (List.map aJ ([] : List Int)))]) (lim2 := 44) 4 3 1 (by kernel_rfl) (by kernel_rfl) (by kernel_rfl) (by kernel_rfl)) (zv [(0, 0), (3, 1), (37, 2), (43, 3)] [5, 8, 15, 56, 57] 4)) ⟨_, _, h, rfl⟩ (fun s ⟨v8, v9, h, _⟩ => nomatch h) ?_
 rintro n s ⟨v8, v9, h, rfl⟩
 rw [lE] at h
 refine za [5, 8, 15, 56, 57, 58] ?_
 refine aK ?_
 refine zi h (fun h => ?_) fun h => ?_
 refine aC ?_
 refine aK ?_
 refine aF ?_
 refine za [5, 8, 15, 16, 56, 57] ?_
 refine zy fun _ => ?_
 refine zk 4 ?_
 obtain ⟨l10, he, h⟩ := aB h
 refine sM (enc := aJ) (l := v9) (els := [v8]) (r := l10) (m := 3) (e := 3) (sz := 1) (bytes := 8) (nm := 11) he (by kernel_rfl) (fun x => by kernel_rfl) (by kernel_rfl) (by kernel_rfl) rfl rfl rfl ?_
 clear he
 refine zk 2 ?_
 refine bL ?_
 refine aT ?_
 refine zb ?_
 exact dI (zv [(0, 0), (1, 1), (2, 2), (11, 3)] [5, 8, 15, 56, 57] 4) (⟨_, _, h, rfl⟩)
 exact aI (zv [(0, 0), (1, 1), (2, 2), (3, 3)] [5, 8, 15] 4) (bD (hj5 _ h))
def gX (p0 : bC) (p1 : Int) (j1 : Unit → Option Int) : Nat → Int → Option Int
 | 0, _ => none
 | n + 1, v3 => (if (decide (v3 < (List.length p0.Nodes : Int))) = true then (idx p0.Nodes v3).bind fun (e4 : aR) => (if (e4.ID == p1) = true then some v3 else gX p0 p1 j1 n (IntKind.wrap .i64 (v3 + 1))) else j1 ())
def iD  (n : Nat) (p0 : bC) (p1 : Int) : Option Int := (aV (fun (_ : Unit) => some (-1 : Int)) (fun (j1 : Unit → Option Int) => gX p0 p1 j1 n 0))
theorem nC  (n : Nat) (p0 : bC) (p1 : Int) (r : Int) (h : iD n p0 p1 = some r) : cN E 53 0 [.agg [I p0.Root, I p0.Next, .lit (List.map aE p0.Nodes)], .c (I p1)] [] (.c (I r)) [] := by
 refine fW Tryz.func53 rfl ?_
 unfold iD at h
 refine za [1, 2] ?_
 refine aQ h (fun A j => ∀ u, j u = some r → A (mk [] [] 0)) (fun u h => ?_) (fun j1 Aj1 hj1 h => ?_)
 refine za [4] ?_
 cases h
 exact aG zr
 refine za [1, 2, 5] ?_
 refine aF ?_
 refine bA (fun n s => ∃ v3, gX p0 p1 j1 n v3 = some r ∧ s = mk [(1, .c (I p1)), (2, .c (.ptr 0 0)), (5, .c (I v3))] [(0, .blk 27 [I p0.Root, I p0.Next, .lit (List.map aE p0.Nodes)])] 1) n _ (zv [(0, 0)] [1, 2, 5] 1) ⟨_, h, rfl⟩ (fun s ⟨v3, h, _⟩ => nomatch h) ?_
 rintro n s ⟨v3, h, rfl⟩
 rw [gX] at h
 refine aK ?_
 refine zx fun _ => ?_
 refine zk 3 ?_
 refine zl aE p0.Nodes ?_
 refine zk 1 ?_
 refine ze [1, 2, 5, 10] ?_
 refine zi h (fun h => ?_) fun h => ?_
 refine aC ?_
 refine aK ?_
 refine aF ?_
 refine zx fun _ => ?_
 refine zk 3 ?_
 obtain ⟨e4, he, h⟩ := aB h
 refine zd aE he ?_
 clear he
 refine zk 4 ?_
 refine ze [1, 2, 5, 20] ?_
 refine zi h (fun h => ?_) fun h => ?_
 refine za [4] ?_
 cases h
 exact aG zr
 refine aC ?_
 refine aT ?_
 refine zb ?_
 exact dI (zv [(0, 0)] [1, 2, 5] 1) (⟨_, h, rfl⟩)
 exact aI (zv [] [] 0) (bD (hj1 _ h))
def iT  (n : Nat) (p0 : bC) (p1 : Int) : Option aR := (iD n p0 p1).bind fun (y1 : Int) => (if (decide (y1 < 0)) = true then some (aR.mk 0 0 0 (⟨#[]⟩ : ByteArray) ([] : List aZ) ([] : List cE) ([] : List Int)) else (idx p0.Nodes y1).bind fun (e2 : aR) => some e2)
theorem nP  (n : Nat) (p0 : bC) (p1 : Int) (r : aR) (h : iT n p0 p1 = some r) : cN E 45 0 [.agg [I p0.Root, I p0.Next, .lit (List.map aE p0.Nodes)], .c (I p1)] [] (.agg [I r.ID, I r.Parent, I r.Kind, Sx r.Key, .lit (List.map aM r.Attrs), .lit (List.map aD r.Actions), .lit (List.map aJ r.Kids)]) [] := by
 refine fW Tryz.func45 rfl ?_
 unfold iT at h
 refine za [1, 2, 4] ?_
 refine zx fun _ => ?_
 refine zk 2 ?_
 obtain ⟨y1, he, h⟩ := aB h
 refine zc Og (nC n _ _ y1 he) ?_
 clear he
 refine zk 1 ?_
 refine ze [2, 4, 5] ?_
 refine aK ?_
 refine za [2, 4, 5, 10] ?_
 refine zi h (fun h => ?_) fun h => ?_
 refine za [4] ?_
 cases h
 exact aG zr
 refine aC ?_
 refine zx fun _ => ?_
 refine zk 3 ?_
 obtain ⟨e2, he, h⟩ := aB h
 refine zd aE he ?_
 clear he
 refine zk 2 ?_
 refine ze [4] ?_
 cases h
 exact aG zr
def hY (y2 : aR) (self_ref14_order : bC → Int → (List Int) → Option (List Int)) (p0 : bC) (j3 : List Int → Option (List Int)) : Nat → Int → List Int → Option (List Int)
 | 0, _, _ => none
 | n + 1, v6, v7 => (if (decide (v6 < (List.length y2.Kids : Int))) = true then (idx y2.Kids v6).bind fun (e8 : Int) => (self_ref14_order p0 e8 v7).bind fun (y9 : (List Int)) => hY y2 self_ref14_order p0 j3 n (IntKind.wrap .i64 (v6 + 1)) y9 else j3 v7)
def lI (self_ref14_order : bC → Int → (List Int) → Option (List Int)) (n : Nat) (p0 : bC) (p1 : Int) (p2 : (List Int)) : Option (List Int) := (pE 8 p2 [p1]).bind fun (l1 : List Int) => (iT n p0 p1).bind fun (y2 : aR) => (aV (fun (v12 : List Int) => some v12) (fun (j3 : List Int → Option (List Int)) => hY y2 self_ref14_order p0 j3 n 0 l1))
theorem vS (self_ref14_order : bC → Int → (List Int) → Option (List Int)) (ih_ref14_order : ∀ (p0 : bC) (p1 : Int) (p2 : (List Int)) (r : (List Int)), self_ref14_order p0 p1 p2 = some r → cN E 80 1 [.agg [I p0.Root, I p0.Next, .lit (List.map aE p0.Nodes)], .c (I p1), .c (.row 0)] [(0, .vec 3 1 (List.map aJ p2))] (.c (.row 1)) [(1, .vec 3 1 (List.map aJ r))]) (n : Nat) (p0 : bC) (p1 : Int) (p2 : (List Int)) (r : (List Int)) (h : lI self_ref14_order n p0 p1 p2 = some r) : cN E 80 1 [.agg [I p0.Root, I p0.Next, .lit (List.map aE p0.Nodes)], .c (I p1), .c (.row 0)] [(0, .vec 3 1 (List.map aJ p2))] (.c (.row 1)) [(1, .vec 3 1 (List.map aJ r))] := by
 refine fW Tryz.func80 rfl ?_
 unfold lI at h
 refine za [1, 2, 3] ?_
 refine zx fun _ => ?_
 refine zk 3 ?_
 obtain ⟨l1, he, h⟩ := aB h
 refine sM (enc := aJ) (l := p2) (els := [p1]) (r := l1) (m := 0) (e := 3) (sz := 1) (bytes := 8) (nm := 6) he (by kernel_rfl) (fun x => by kernel_rfl) (by kernel_rfl) (by kernel_rfl) rfl rfl rfl ?_
 clear he
 refine zk 1 ?_
 refine ze [1, 2, 3] ?_
 refine zx fun _ => ?_
 refine zk 2 ?_
 obtain ⟨y2, he, h⟩ := aB h
 refine zc Nu (nP n _ _ y2 he) ?_
 clear he
 refine zk 2 ?_
 refine ze [2, 3, 7] ?_
 refine aQ h (fun A j => ∀ v12, j v12 = some r → A (mk [(2, .c (.row 1))] [(1, .vec 3 1 (List.map aJ v12))] 2)) (fun v12 h => ?_) (fun j3 Aj3 hj3 h => ?_)
 refine za [6] ?_
 have h := Option.some.inj h
 subst h
 refine aI (sD rfl [(1, 1)] [6] (L2 := [(6, .c (.row 1))]) (G2 := [(1, .vec 3 1 (List.map aJ v12))]) (lim2 := 2) (by kernel_rfl)) ?_
 exact aG (Bn (.inl rfl) (by kernel_rfl) (by kernel_rfl))
 refine za [2, 3, 7, 8] ?_
 refine aF ?_
 refine bA (fun n s => ∃ v6 v7, hY y2 self_ref14_order p0 j3 n v6 v7 = some r ∧ s = mk [(2, .c (.row 1)), (3, .c (.ptr 2 0)), (7, .c (.ptr 3 0)), (8, .c (I v6))] [(1, .vec 3 1 (List.map aJ v7)), (2, .blk 27 [I p0.Root, I p0.Next, .lit (List.map aE p0.Nodes)]), (3, .blk 58 [I y2.ID, I y2.Parent, I y2.Kind, Sx y2.Key, .lit (List.map aM y2.Attrs), .lit (List.map aD y2.Actions), .lit (List.map aJ y2.Kids)])] 4) n _ (zv [(6, 1), (1, 2), (11, 3)] [2, 3, 7, 8] 4) ⟨_, _, h, rfl⟩ (fun s ⟨v6, v7, h, _⟩ => nomatch h) ?_
 rintro n s ⟨v6, v7, h, rfl⟩
 rw [hY] at h
 refine aK ?_
 refine zx fun _ => ?_
 refine zk 3 ?_
 refine zl aJ y2.Kids ?_
 refine zk 1 ?_
 refine ze [2, 3, 7, 8, 20] ?_
 refine zi h (fun h => ?_) fun h => ?_
 refine aC ?_
 refine aK ?_
 refine aF ?_
 refine Lh [[], [], [1], [], [2, 3, 1], [4, 2, 3, 1], [], [0, 5, 6, 4, 2, 3, 1], [7, 0, 1, 2, 3, 4, 5, 6]] fun _ => ?_
 refine zk 4 ?_
 obtain ⟨e8, he, h⟩ := aB h
 refine zd aJ he ?_
 clear he
 refine zk 2 ?_
 obtain ⟨y9, he, h⟩ := aB h
 refine rI (F := 80) (As := [.agg [I p0.Root, I p0.Next, .lit (List.map aE p0.Nodes)], .c (I e8), .c (.row 1)]) (Bs := [.agg [I p0.Root, I p0.Next, .lit (List.map aE p0.Nodes)], .c (I e8), .c (.row 0)]) (σ := [(0, 1), (1, 16)]) (k := 1) (kn := 1) (nm := 16) (Gc := [(0, .vec 3 1 (List.map aJ v7))]) (Gf := [(1, .vec 3 1 (List.map aJ y9))]) (r := .c (.row 1)) (v := .c (.row 16)) (by kernel_rfl) Xd ⟨.inl (by kernel_rfl), ⟨.inl (by kernel_rfl), ⟨.inr ⟨(by kernel_rfl), (by kernel_rfl)⟩, trivial⟩⟩⟩ (ih_ref14_order _ _ _ y9 he) (by kernel_rfl) (by kernel_rfl) (by kernel_rfl) (by kernel_rfl) (by kernel_rfl) (by kernel_rfl) rfl rfl rfl ?_
 clear he
 refine zk 1 ?_
 refine bL ?_
 refine aT ?_
 refine zb ?_
 exact dI (zv [(16, 1), (2, 2), (3, 3)] [2, 3, 7, 8] 4) (⟨_, _, h, rfl⟩)
 exact aI (zv [(1, 1)] [2] 2) (bD (hj3 _ h))
def iI : Nat → bC → Int → (List Int) → Option (List Int)
 | 0, _, _, _ => none
 | n + 1, p0, p1, p2 => lI (fun a0 a1 a2 => iI n a0 a1 a2) n p0 p1 p2
theorem Bq (n : Nat) : (∀ (p0 : bC) (p1 : Int) (p2 : (List Int)) (r : (List Int)), iI n p0 p1 p2 = some r → cN E 80 1 [.agg [I p0.Root, I p0.Next, .lit (List.map aE p0.Nodes)], .c (I p1), .c (.row 0)] [(0, .vec 3 1 (List.map aJ p2))] (.c (.row 1)) [(1, .vec 3 1 (List.map aJ r))]) := by
 induction n with
 | zero => intro p0 p1 p2 r h; rw [iI] at h; cases h
 | succ n ih => intro p0 p1 p2 r h; rw [iI] at h; exact vS _ ih n _ _ _ r h
def gG (v57 : Int) (e44 : aR) (j62 : Unit → Option Bool) (y12 : Int) (v56 : Int) (v42 : Int) (p0 : bC) : Nat → Int → Option Bool
 | 0, _ => none
 | n + 1, v65 => (if (decide (v65 < v57)) = true then (idx e44.Kids v65).bind fun (e66 : Int) => (idx e44.Kids v57).bind fun (e67 : Int) => (if (e66 == e67) = true then some false else gG v57 e44 j62 y12 v56 v42 p0 n (IntKind.wrap .i64 (v65 + 1))) else j62 ())
def gF (e44 : aR) (p0 : bC) (y12 : Int) (v42 : Int) (j43 : Int → Option Bool) : Nat → Int → Int → Option Bool
 | 0, _, _ => none
 | n + 1, v56, v57 => (if (decide (v57 < (List.length e44.Kids : Int))) = true then (aV (fun (_ : Unit) => gF e44 p0 y12 v42 j43 n (IntKind.wrap .i64 (v56 + 1)) (IntKind.wrap .i64 (v57 + 1))) (fun (j58 : Unit → Option Bool) => (idx e44.Kids v57).bind fun (e59 : Int) => (iD n p0 e59).bind fun (y60 : Int) => (gd [(!(decide (y60 < 0)))] (idx p0.Nodes y60)).bind fun (e61 : aR) => (if ((decide (y60 < 0)) || (e61.Parent != e44.ID)) = true then some false else (aV (fun (_ : Unit) => j58 ()) (fun (j62 : Unit → Option Bool) => gG v57 e44 j62 y12 v56 v42 p0 n 0))))) else j43 v56)
def fJ (p0 : bC) (y12 : Int) (j13 : Int → Option Bool) : Nat → Int → Int → Option Bool
 | 0, _, _ => none
 | n + 1, v41, v42 => (if (decide (v42 < (List.length p0.Nodes : Int))) = true then (aV (fun (v71 : Int) => fJ p0 y12 j13 n v71 (IntKind.wrap .i64 (v42 + 1))) (fun (j43 : Int → Option Bool) => (idx p0.Nodes v42).bind fun (e44 : aR) => (if ((e44.Parent == 0) != (v42 == y12)) = true then some false else (if (decide ((List.length e44.Kids : Int) > (List.length p0.Nodes : Int))) = true then some false else gF e44 p0 y12 v42 j43 n v41 0)))) else j13 v41)
def fH (p0 : bC) (j1 : Unit → Option Bool) : Nat → Int → Int → Option Bool
 | 0, _, _ => none
 | n + 1, v5, v6 => (if (decide (v6 < (List.length p0.Nodes : Int))) = true then (idx p0.Nodes v6).bind fun (e7 : aR) => (gd [(!(decide (e7.ID ≤ v5)))] (idx p0.Nodes v6)).bind fun (e8 : aR) => (if ((decide (e7.ID ≤ v5)) || (decide (e8.ID ≥ p0.Next))) = true then some false else (idx p0.Nodes v6).bind fun (e9 : aR) => fH p0 j1 n e9.ID (IntKind.wrap .i64 (v6 + 1))) else j1 ())
def pA  (n : Nat) (p0 : bC) : Option Bool := (if ((((decide (p0.Next < 2)) || (decide (p0.Next > 1099511627776))) || (decide ((List.length p0.Nodes : Int) < 1))) || (decide ((List.length p0.Nodes : Int) > 400))) = true then some false else (aV (fun (_ : Unit) => (iD n p0 p0.Root).bind fun (y12 : Int) => (if (decide (y12 < 0)) = true then some false else (aV (fun (v74 : Int) => (if (v74 != (IntKind.wrap .i64 ((List.length p0.Nodes : Int) - 1))) = true then some false else (iI n p0 p0.Root ([] : List Int)).bind fun (y75 : (List Int)) => some ((List.length y75 : Int) == (List.length p0.Nodes : Int)))) (fun (j13 : Int → Option Bool) => fJ p0 y12 j13 n 0 0)))) (fun (j1 : Unit → Option Bool) => fH p0 j1 n 0 0)))
theorem Al  (n : Nat) (p0 : bC) (r : Bool) (h : pA n p0 = some r) : cN E 87 0 [.agg [I p0.Root, I p0.Next, .lit (List.map aE p0.Nodes)]] [] (.c (Bo r)) [] := by
 refine fW Tryz.func87 rfl ?_
 unfold pA at h
 refine za [1] ?_
 refine aK ?_
 refine zx fun _ => ?_
 refine zk 4 ?_
 refine zE (.c (.ptr 0 1)) ?_
 refine zE (.c (I p0.Next)) ?_
 refine zE (.c (Bo (decide (p0.Next > 1099511627776)))) ?_
 refine zP (.bool ((decide (p0.Next < 2)) || (decide (p0.Next > 1099511627776)))) ?_
 refine zk 1 ?_
 refine zE (.c (.ptr 0 2)) ?_
 refine zE (.c (.lit (List.map aE p0.Nodes))) ?_
 refine jW (e := [(!((decide (p0.Next < 2)) || (decide (p0.Next > 1099511627776))))]) [(22, .c (.lit (List.map aE p0.Nodes)), some 1)] (v := .c (I (List.length p0.Nodes : Int))) (foot := []) (by kernel_rfl) (by kernel_rfl) (by kernel_rfl) (fun hg => kR (enc := aE) (l := p0.Nodes) (by kernel_rfl)) rfl rfl ?_
 refine zE (.c (Bo (decide ((List.length p0.Nodes : Int) < 1)))) ?_
 refine zP (.bool (((decide (p0.Next < 2)) || (decide (p0.Next > 1099511627776))) || (decide ((List.length p0.Nodes : Int) < 1)))) ?_
 refine zk 1 ?_
 refine zE (.c (.ptr 0 2)) ?_
 refine zE (.c (.lit (List.map aE p0.Nodes))) ?_
 refine jW (e := [(!(((decide (p0.Next < 2)) || (decide (p0.Next > 1099511627776))) || (decide ((List.length p0.Nodes : Int) < 1))))]) [(28, .c (.lit (List.map aE p0.Nodes)), some 1)] (v := .c (I (List.length p0.Nodes : Int))) (foot := []) (by kernel_rfl) (by kernel_rfl) (by kernel_rfl) (fun hg => kR (enc := aE) (l := p0.Nodes) (by kernel_rfl)) rfl rfl ?_
 refine zE (.c (Bo (decide ((List.length p0.Nodes : Int) > 400)))) ?_
 refine zP (.bool ((((decide (p0.Next < 2)) || (decide (p0.Next > 1099511627776))) || (decide ((List.length p0.Nodes : Int) < 1))) || (decide ((List.length p0.Nodes : Int) > 400)))) ?_
 refine jV [1, 31] (L2 := [(1, .c (.ptr 0 0)), (31, .c (Bo ((((decide (p0.Next < 2)) || (decide (p0.Next > 1099511627776))) || (decide ((List.length p0.Nodes : Int) < 1))) || (decide ((List.length p0.Nodes : Int) > 400)))))]) (G2 := [(0, .blk 27 [I p0.Root, I p0.Next, .lit (List.map aE p0.Nodes)])]) 22 ?_
 refine zi h (fun h => ?_) fun h => ?_
 refine za [2] ?_
 cases h
 exact aG zr
 refine aC ?_
 refine za [1, 3] ?_
 refine aQ h (fun A j => ∀ u, j u = some r → A (mk [(1, .c (.ptr 0 0))] [(0, .blk 27 [I p0.Root, I p0.Next, .lit (List.map aE p0.Nodes)])] 1)) (fun u h => ?_) (fun j1 Aj1 hj1 h => ?_)
 refine zx fun _ => ?_
 refine zk 3 ?_
 obtain ⟨y12, he, h⟩ := aB h
 refine zc Og (nC n _ _ y12 he) ?_
 clear he
 refine zk 1 ?_
 refine ze [1, 5] ?_
 refine aK ?_
 refine za [1, 5, 69] ?_
 refine zi h (fun h => ?_) fun h => ?_
 refine za [2] ?_
 cases h
 exact aG zr
 refine aC ?_
 refine za [1, 5, 6] ?_
 refine aQ h (fun A j => ∀ v74, j v74 = some r → A (mk [(1, .c (.ptr 0 0)), (6, .c (I v74))] [(0, .blk 27 [I p0.Root, I p0.Next, .lit (List.map aE p0.Nodes)])] 1)) (fun v74 h => ?_) (fun j13 Aj13 hj13 h => ?_)
 refine aK ?_
 refine zx fun _ => ?_
 refine zk 3 ?_
 refine zl aE p0.Nodes ?_
 refine zk 2 ?_
 refine ze [1, 146] ?_
 refine zi h (fun h => ?_) fun h => ?_
 refine za [2] ?_
 cases h
 exact aG zr
 refine aC ?_
 refine wP [[], [], [1], [0, 2, 1], [3, 0, 2, 1], [], [5], [6, 5], [4, 7, 3, 0, 2, 1, 6, 5], [8, 3, 0, 1, 2, 4, 5, 6, 7]] fun _ => ?_
 refine zk 3 ?_
 obtain ⟨y75, he, h⟩ := aB h
 refine rI (F := 80) (As := [.agg [I p0.Root, I p0.Next, .lit (List.map aE p0.Nodes)], .c (I p0.Root), .c (bY)]) (Bs := [.agg [I p0.Root, I p0.Next, .lit (List.map aE p0.Nodes)], .c (I p0.Root), .c (bY)]) (σ := [(1, 10)]) (k := 0) (kn := 1) (nm := 10) (Gc := []) (Gf := [(1, .vec 3 1 (List.map aJ y75))]) (r := .c (.row 1)) (v := .c (.row 10)) (by kernel_rfl) Xd ⟨.inl (by kernel_rfl), ⟨.inl (by kernel_rfl), ⟨.inr ⟨(by kernel_rfl), (by kernel_rfl)⟩, trivial⟩⟩⟩ (cN.nil1 (Bq n _ _ _ y75 he) rfl rfl) (by kernel_rfl) (by kernel_rfl) (by kernel_rfl) (by kernel_rfl) (by kernel_rfl) (by kernel_rfl) rfl rfl rfl ?_
 clear he
 refine cF (v := .c (I (List.length y75 : Int))) (foot := [10]) (Bg (enc := aJ) (l := y75) (n := 10) (by kernel_rfl)) (by kernel_rfl) rfl rfl ?_
 refine zk 2 ?_
 refine zl aE p0.Nodes ?_
 refine zk 2 ?_
 refine ze [2] ?_
 cases h
 exact aG zr
 refine za [1, 5, 6, 7] ?_
 refine aF ?_
 refine bA (fun n s => ∃ v41 v42, fJ p0 y12 j13 n v41 v42 = some r ∧ s = mk [(1, .c (.ptr 0 0)), (5, .c (I y12)), (6, .c (I v41)), (7, .c (I v42))] [(0, .blk 27 [I p0.Root, I p0.Next, .lit (List.map aE p0.Nodes)])] 1) n _ (zv [(0, 0)] [1, 5, 6, 7] 1) ⟨_, _, h, rfl⟩ (fun s ⟨v41, v42, h, _⟩ => nomatch h) ?_
 rintro n s ⟨v41, v42, h, rfl⟩
 rw [fJ] at h
 refine aK ?_
 refine zx fun _ => ?_
 refine zk 3 ?_
 refine zl aE p0.Nodes ?_
 refine zk 1 ?_
 refine ze [1, 5, 6, 7, 74] ?_
 refine zi h (fun h => ?_) fun h => ?_
 refine aC ?_
 refine aQ h (fun A j => ∀ v71, j v71 = some r → A (mk [(1, .c (.ptr 0 0)), (5, .c (I y12)), (6, .c (I v71)), (7, .c (I v42))] [(0, .blk 27 [I p0.Root, I p0.Next, .lit (List.map aE p0.Nodes)])] 1)) (fun v71 h => ?_) (fun j43 Aj43 hj43 h => ?_)
 refine aT ?_
 refine zb ?_
 exact dI (zv [(0, 0)] [1, 5, 6, 7] 1) (⟨_, _, h, rfl⟩)
 refine aF ?_
 refine zx fun _ => ?_
 refine zk 3 ?_
 obtain ⟨e44, he, h⟩ := aB h
 refine zd aE he ?_
 clear he
 refine zk 3 ?_
 refine ze [1, 5, 6, 7, 8] ?_
 refine aK ?_
 refine za [1, 5, 6, 7, 8, 88] ?_
 refine zi h (fun h => ?_) fun h => ?_
 refine za [2] ?_
 cases h
 exact aG zr
 refine aC ?_
 refine aK ?_
 refine zx fun _ => ?_
 refine zk 2 ?_
 refine zl aJ e44.Kids ?_
 refine zk 2 ?_
 refine zl aE p0.Nodes ?_
 refine zk 1 ?_
 refine jV [1, 5, 6, 7, 8, 95] (L2 := [(1, .c (.ptr 0 0)), (5, .c (I y12)), (6, .c (I v41)), (7, .c (I v42)), (8, .c (.ptr 11 0)), (95, .c (Bo (decide ((List.length e44.Kids : Int) > (List.length p0.Nodes : Int)))))]) (G2 := [(0, .blk 27 [I p0.Root, I p0.Next, .lit (List.map aE p0.Nodes)]), (11, .blk 58 [I e44.ID, I e44.Parent, I e44.Kind, Sx e44.Key, .lit (List.map aM e44.Attrs), .lit (List.map aD e44.Actions), .lit (List.map aJ e44.Kids)])]) 27 ?_
 refine zi h (fun h => ?_) fun h => ?_
 refine za [2] ?_
 cases h
 exact aG zr
 refine aC ?_
 refine za [1, 5, 6, 7, 8, 9] ?_
 refine aF ?_
 refine bA (fun n s => ∃ v56 v57, gF e44 p0 y12 v42 j43 n v56 v57 = some r ∧ s = mk [(1, .c (.ptr 0 0)), (5, .c (I y12)), (6, .c (I v56)), (7, .c (I v42)), (8, .c (.ptr 1 0)), (9, .c (I v57))] [(0, .blk 27 [I p0.Root, I p0.Next, .lit (List.map aE p0.Nodes)]), (1, .blk 58 [I e44.ID, I e44.Parent, I e44.Kind, Sx e44.Key, .lit (List.map aM e44.Attrs), .lit (List.map aD e44.Actions), .lit (List.map aJ e44.Kids)])] 2) n _ (zv [(0, 0), (11, 1)] [1, 5, 6, 7, 8, 9] 2) ⟨_, _, h, rfl⟩ (fun s ⟨v56, v57, h, _⟩ => nomatch h) ?_
 rintro n s ⟨v56, v57, h, rfl⟩
 rw [gF] at h
 refine aK ?_
 refine zx fun _ => ?_
 refine zk 3 ?_
 refine zl aJ e44.Kids ?_
 refine zk 1 ?_
 refine ze [1, 5, 6, 7, 8, 9, 100] ?_
 refine zi h (fun h => ?_) fun h => ?_
 refine aC ?_
 refine aQ h (fun A j => ∀ u, j u = some r → A (mk [(1, .c (.ptr 0 0)), (5, .c (I y12)), (6, .c (I (IntKind.wrap .i64 (v56 + 1)))), (7, .c (I v42)), (8, .c (.ptr 1 0)), (9, .c (I v57))] [(0, .blk 27 [I p0.Root, I p0.Next, .lit (List.map aE p0.Nodes)]), (1, .blk 58 [I e44.ID, I e44.Parent, I e44.Kind, Sx e44.Key, .lit (List.map aM e44.Attrs), .lit (List.map aD e44.Actions), .lit (List.map aJ e44.Kids)])] 2)) (fun u h => ?_) (fun j58 Aj58 hj58 h => ?_)
 refine aT ?_
 refine zb ?_
 exact dI (zv [(0, 0), (1, 1)] [1, 5, 6, 7, 8, 9] 2) (⟨_, _, h, rfl⟩)
 refine aF ?_
 refine wP [[], [], [1], [], [2, 3, 1], [4, 2, 3, 1], [0, 5, 4, 2, 3, 1], [6, 0, 1, 2, 3, 4, 5]] fun _ => ?_
 refine zk 4 ?_
 obtain ⟨e59, he, h⟩ := aB h
 refine zd aJ he ?_
 clear he
 refine zk 1 ?_
 obtain ⟨y60, he, h⟩ := aB h
 refine zc Og (nC n _ _ y60 he) ?_
 clear he
 refine zk 1 ?_
 refine ze [1, 5, 6, 7, 8, 9, 10] ?_
 refine aK ?_
 refine wP [[], [0], [1, 0], [2, 1, 0], [3, 2, 1, 0], [2, 1, 0], [4, 5, 2, 3, 1, 0], [6, 2, 4, 5, 3, 1, 0], [7, 2, 6, 4, 5, 3, 1, 0], [2, 1, 0], [9, 2, 1, 0], [8, 10, 2, 7, 6, 4, 5, 3, 1, 0, 9], [2, 11, 1, 0, 8, 10, 7, 6, 4, 5, 3, 9]] fun _ => ?_
 refine zk 3 ?_
 refine zE (.c (.ptr 0 2)) ?_
 refine zE (.c (.lit (List.map aE p0.Nodes))) ?_
 refine zE (.c (I y60)) ?_
 obtain ⟨e61, he, h⟩ := aB h
 refine jW (e := [(!(decide (y60 < 0)))]) [(114, .c (.lit (List.map aE p0.Nodes)), some 1), (115, .c (I y60), some 1)] (v := .c (.imm [I e61.ID, I e61.Parent, I e61.Kind, Sx e61.Key, .lit (List.map aM e61.Attrs), .lit (List.map aD e61.Actions), .lit (List.map aJ e61.Kids)])) (foot := []) (by kernel_rfl) (by kernel_rfl) (by kernel_rfl) (fun hg => dR (enc := aE) (sz := 7) (l := p0.Nodes) (ix := y60) (bT he hg) (by kernel_rfl) (by kernel_rfl) (by kernel_rfl)) rfl rfl ?_
 clear he
 refine zE (.c (.imm [I e61.Parent, I e61.Kind, Sx e61.Key, .lit (List.map aM e61.Attrs), .lit (List.map aD e61.Actions), .lit (List.map aJ e61.Kids)])) ?_
 refine zE (.c (I e61.Parent)) ?_
 refine zE (.c (.ptr 1 0)) ?_
 refine zE (.c (I e44.ID)) ?_
 refine zE (.c (Bo (e61.Parent != e44.ID))) ?_
 refine zP (.bool ((decide (y60 < 0)) || (e61.Parent != e44.ID))) ?_
 refine jV [1, 5, 6, 7, 8, 9, 122] (L2 := [(1, .c (.ptr 0 0)), (5, .c (I y12)), (6, .c (I v56)), (7, .c (I v42)), (8, .c (.ptr 1 0)), (9, .c (I v57)), (122, .c (Bo ((decide (y60 < 0)) || (e61.Parent != e44.ID))))]) (G2 := [(0, .blk 27 [I p0.Root, I p0.Next, .lit (List.map aE p0.Nodes)]), (1, .blk 58 [I e44.ID, I e44.Parent, I e44.Kind, Sx e44.Key, .lit (List.map aM e44.Attrs), .lit (List.map aD e44.Actions), .lit (List.map aJ e44.Kids)])]) 28 ?_
 refine zi h (fun h => ?_) fun h => ?_
 refine za [2] ?_
 cases h
 exact aG zr
 refine aC ?_
 refine aQ h (fun A j => ∀ u, j u = some r → A (mk [(1, .c (.ptr 0 0)), (5, .c (I y12)), (6, .c (I v56)), (7, .c (I v42)), (8, .c (.ptr 1 0)), (9, .c (I v57))] [(0, .blk 27 [I p0.Root, I p0.Next, .lit (List.map aE p0.Nodes)]), (1, .blk 58 [I e44.ID, I e44.Parent, I e44.Kind, Sx e44.Key, .lit (List.map aM e44.Attrs), .lit (List.map aD e44.Actions), .lit (List.map aJ e44.Kids)])] 2)) (fun u h => ?_) (fun j62 Aj62 hj62 h => ?_)
 refine aT ?_
 refine zb ?_
 exact dI (zv [(0, 0), (1, 1)] [1, 5, 6, 7, 8, 9] 2) (hj58 _ h)
 refine za [1, 5, 6, 7, 8, 9, 11] ?_
 refine aF ?_
 refine bA (fun n s => ∃ v65, gG v57 e44 j62 y12 v56 v42 p0 n v65 = some r ∧ s = mk [(1, .c (.ptr 0 0)), (5, .c (I y12)), (6, .c (I v56)), (7, .c (I v42)), (8, .c (.ptr 1 0)), (9, .c (I v57)), (11, .c (I v65))] [(0, .blk 27 [I p0.Root, I p0.Next, .lit (List.map aE p0.Nodes)]), (1, .blk 58 [I e44.ID, I e44.Parent, I e44.Kind, Sx e44.Key, .lit (List.map aM e44.Attrs), .lit (List.map aD e44.Actions), .lit (List.map aJ e44.Kids)])] 2) n _ (zv [(0, 0), (1, 1)] [1, 5, 6, 7, 8, 9, 11] 2) ⟨_, h, rfl⟩ (fun s ⟨v65, h, _⟩ => nomatch h) ?_
 rintro n s ⟨v65, h, rfl⟩
 rw [gG] at h
 refine aK ?_
 refine za [1, 5, 6, 7, 8, 9, 11, 125] ?_
 refine zi h (fun h => ?_) fun h => ?_
 refine aC ?_
 refine aK ?_
 refine aF ?_
 refine wP [[], [0], [], [1, 2, 0], [3, 1, 2, 0], [], [5], [], [6, 7, 5], [8, 6, 7, 5], [4, 9, 3, 1, 2, 0, 8, 6, 7, 5]] fun _ => ?_
 refine zk 3 ?_
 obtain ⟨e66, he, h⟩ := aB h
 refine zd aJ he ?_
 clear he
 refine zk 4 ?_
 obtain ⟨e67, he, h⟩ := aB h
 refine zd aJ he ?_
 clear he
 refine zk 2 ?_
 refine ze [1, 5, 6, 7, 8, 9, 11, 138] ?_
 refine zi h (fun h => ?_) fun h => ?_
 refine za [2] ?_
 cases h
 exact aG zr
 refine aC ?_
 refine aT ?_
 refine zb ?_
 exact dI (zv [(0, 0), (1, 1)] [1, 5, 6, 7, 8, 9, 11] 2) (⟨_, h, rfl⟩)
 exact aI (zv [(0, 0), (1, 1)] [1, 5, 6, 7, 8, 9] 2) (bD (hj62 _ h))
 exact aI (zv [(0, 0)] [1, 5, 6, 7] 1) (bD (hj43 _ h))
 exact aI (zv [(0, 0)] [1, 6] 1) (bD (hj13 _ h))
 refine za [1, 3, 4] ?_
 refine aF ?_
 refine bA (fun n s => ∃ v5 v6, fH p0 j1 n v5 v6 = some r ∧ s = mk [(1, .c (.ptr 0 0)), (3, .c (I v5)), (4, .c (I v6))] [(0, .blk 27 [I p0.Root, I p0.Next, .lit (List.map aE p0.Nodes)])] 1) n _ (zv [(0, 0)] [1, 3, 4] 1) ⟨_, _, h, rfl⟩ (fun s ⟨v5, v6, h, _⟩ => nomatch h) ?_
 rintro n s ⟨v5, v6, h, rfl⟩
 rw [fH] at h
 refine aK ?_
 refine zx fun _ => ?_
 refine zk 3 ?_
 refine zl aE p0.Nodes ?_
 refine zk 1 ?_
 refine ze [1, 3, 4, 36] ?_
 refine zi h (fun h => ?_) fun h => ?_
 refine aC ?_
 refine aK ?_
 refine aF ?_
 refine aK ?_
 refine wP [[], [0], [], [1, 2, 0], [3, 1, 2, 0], [4, 3, 1, 2, 0], [], [5, 6, 4, 3, 1, 2, 0], [7, 5, 6, 4, 3, 1, 2, 0], [8, 7, 5, 6, 4, 3, 1, 2, 0], [9, 8, 7, 5, 6, 4, 3, 1, 2, 0], [8, 7, 5, 6, 4, 3, 1, 2, 0], [10, 11, 8, 9, 7, 5, 6, 4, 3, 1, 2, 0], [12, 8, 10, 11, 9, 7, 5, 6, 4, 3, 1, 2, 0], [13, 8, 12, 10, 11, 9, 7, 5, 6, 4, 3, 1, 2, 0], [8, 7, 5, 6, 4, 3, 1, 2, 0], [15, 8, 7, 5, 6, 4, 3, 1, 2, 0], [14, 16, 8, 13, 12, 10, 11, 9, 7, 5, 6, 4, 3, 1, 2, 0, 15], [8, 17, 7, 5, 6, 4, 3, 1, 2, 0, 14, 16, 13, 12, 10, 11, 9, 15]] fun _ => ?_
 refine zk 3 ?_
 obtain ⟨e7, he, h⟩ := aB h
 refine zd aE he ?_
 clear he
 refine zk 5 ?_
 refine zE (.c (.ptr 0 2)) ?_
 refine zE (.c (.lit (List.map aE p0.Nodes))) ?_
 refine zE (.c (I v6)) ?_
 obtain ⟨e8, he, h⟩ := aB h
 refine jW (e := [(!(decide (e7.ID ≤ v5)))]) [(49, .c (.lit (List.map aE p0.Nodes)), some 1), (50, .c (I v6), some 1)] (v := .c (.imm [I e8.ID, I e8.Parent, I e8.Kind, Sx e8.Key, .lit (List.map aM e8.Attrs), .lit (List.map aD e8.Actions), .lit (List.map aJ e8.Kids)])) (foot := []) (by kernel_rfl) (by kernel_rfl) (by kernel_rfl) (fun hg => dR (enc := aE) (sz := 7) (l := p0.Nodes) (ix := v6) (bT he hg) (by kernel_rfl) (by kernel_rfl) (by kernel_rfl)) rfl rfl ?_
 clear he
 refine zE (.c (.imm [I e8.ID, I e8.Parent, I e8.Kind, Sx e8.Key, .lit (List.map aM e8.Attrs), .lit (List.map aD e8.Actions), .lit (List.map aJ e8.Kids)])) ?_
 refine zE (.c (I e8.ID)) ?_
 refine zE (.c (.ptr 0 1)) ?_
 refine zE (.c (I p0.Next)) ?_
 refine zE (.c (Bo (decide (e8.ID ≥ p0.Next)))) ?_
 refine zP (.bool ((decide (e7.ID ≤ v5)) || (decide (e8.ID ≥ p0.Next)))) ?_
 refine jV [1, 4, 57] (L2 := [(1, .c (.ptr 0 0)), (4, .c (I v6)), (57, .c (Bo ((decide (e7.ID ≤ v5)) || (decide (e8.ID ≥ p0.Next)))))]) (G2 := [(0, .blk 27 [I p0.Root, I p0.Next, .lit (List.map aE p0.Nodes)])]) 25 ?_
 refine zi h (fun h => ?_) fun h => ?_
 refine za [2] ?_
 cases h
 exact aG zr
 refine aC ?_
 refine zy fun _ => ?_
 refine zk 3 ?_
 obtain ⟨e9, he, h⟩ := aB h
 refine zd aE he ?_
 clear he
 refine zk 3 ?_
 refine bL ?_
 refine aT ?_
 refine zb ?_
 exact dI (zv [(0, 0)] [1, 3, 4] 1) (⟨_, _, h, rfl⟩)
 exact aI (zv [(0, 0)] [1] 1) (bD (hj1 _ h))
def fD (y1 : aR) (self_ref14_describe : bC → Int → Option aL) (p0 : bC) (j2 : List aL → Option aL) : Nat → Int → List aL → Option aL
 | 0, _, _ => none
 | n + 1, v7, v8 => (if (decide (v7 < (List.length y1.Kids : Int))) = true then (idx y1.Kids v7).bind fun (e9 : Int) => (self_ref14_describe p0 e9).bind fun (y10 : aL) => (pE 96 v8 [y10]).bind fun (l11 : List aL) => fD y1 self_ref14_describe p0 j2 n (IntKind.wrap .i64 (v7 + 1)) l11 else j2 v8)
def jB (self_ref14_describe : bC → Int → Option aL) (n : Nat) (p0 : bC) (p1 : Int) : Option aL := (iT n p0 p1).bind fun (y1 : aR) => (aV (fun (v15 : List aL) => some (aL.mk y1.Kind y1.Key y1.Attrs y1.Actions v15)) (fun (j2 : List aL → Option aL) => fD y1 self_ref14_describe p0 j2 n 0 ([] : List aL)))
theorem sP (self_ref14_describe : bC → Int → Option aL) (ih_ref14_describe : ∀ (p0 : bC) (p1 : Int) (r : aL), self_ref14_describe p0 p1 = some r → cN E 88 0 [.agg [I p0.Root, I p0.Next, .lit (List.map aE p0.Nodes)], .c (I p1)] [] (.agg [I r.Kind, Sx r.Key, .lit (List.map aM r.Attrs), .lit (List.map aD r.Actions), .lit (List.map aX r.Kids)]) []) (n : Nat) (p0 : bC) (p1 : Int) (r : aL) (h : jB self_ref14_describe n p0 p1 = some r) : cN E 88 0 [.agg [I p0.Root, I p0.Next, .lit (List.map aE p0.Nodes)], .c (I p1)] [] (.agg [I r.Kind, Sx r.Key, .lit (List.map aM r.Attrs), .lit (List.map aD r.Actions), .lit (List.map aX r.Kids)]) [] := by
 refine fW Tryz.func88 rfl ?_
 unfold jB at h
 refine za [1, 2, 4] ?_
 refine zx fun _ => ?_
 refine zk 2 ?_
 obtain ⟨y1, he, h⟩ := aB h
 refine zc Nu (nP n _ _ y1 he) ?_
 clear he
 refine zk 2 ?_
 refine ze [2, 4, 5] ?_
 refine za [2, 4, 5, 6] ?_
 refine aQ h (fun A j => ∀ v15, j v15 = some r → A (mk [(4, .c (.ptr 0 0)), (6, .c (.ptr 1 0))] [(0, .blk 70 [I 0, Sx (⟨#[]⟩ : ByteArray), bY, bY, bY]), (1, .blk 70 [I y1.Kind, Sx y1.Key, .lit (List.map aM y1.Attrs), .lit (List.map aD y1.Actions), .app 2 (List.map aX v15)]), (2, .tok 70 5 (List.length v15))] 3)) (fun v15 h => ?_) (fun j2 Aj2 hj2 h => ?_)
 refine za [4] ?_
 cases h
 exact aG zr
 refine za [2, 4, 5, 6, 7] ?_
 refine aF ?_
 refine bA (fun n s => ∃ v7 v8, fD y1 self_ref14_describe p0 j2 n v7 v8 = some r ∧ s = mk [(2, .c (.ptr 0 0)), (4, .c (.ptr 1 0)), (5, .c (.ptr 2 0)), (6, .c (.ptr 3 0)), (7, .c (I v7))] [(0, .blk 27 [I p0.Root, I p0.Next, .lit (List.map aE p0.Nodes)]), (1, .blk 70 [I 0, Sx (⟨#[]⟩ : ByteArray), bY, bY, bY]), (2, .blk 58 [I y1.ID, I y1.Parent, I y1.Kind, Sx y1.Key, .lit (List.map aM y1.Attrs), .lit (List.map aD y1.Actions), .lit (List.map aJ y1.Kids)]), (3, .blk 70 [I y1.Kind, Sx y1.Key, .lit (List.map aM y1.Attrs), .lit (List.map aD y1.Actions), .app 4 (List.map aX v8)]), (4, .tok 70 5 (List.length v8))] 5) n _ (dU.trans (lB (n := 16) (T0 := 70) (l := [I y1.Kind, Sx y1.Key, .lit (List.map aM y1.Attrs), .lit (List.map aD y1.Actions), bY]) (G2 := [(0, .blk 27 [I p0.Root, I p0.Next, .lit (List.map aE p0.Nodes)]), (1, .blk 70 [I 0, Sx (⟨#[]⟩ : ByteArray), bY, bY, bY]), (5, .blk 58 [I y1.ID, I y1.Parent, I y1.Kind, Sx y1.Key, .lit (List.map aM y1.Attrs), .lit (List.map aD y1.Actions), .lit (List.map aJ y1.Kids)]), (16, .blk 70 [I y1.Kind, Sx y1.Key, .lit (List.map aM y1.Attrs), .lit (List.map aD y1.Actions), .app 19 (List.map aX ([] : List aL))]), (19, .tok 70 5 (List.length ([] : List aL)))]) (lim2 := 20) 4 70 5 (by kernel_rfl) (by kernel_rfl) (by kernel_rfl) (by kernel_rfl)) (zv [(0, 0), (1, 1), (5, 2), (16, 3), (19, 4)] [2, 4, 5, 6, 7] 5)) ⟨_, _, h, rfl⟩ (fun s ⟨v7, v8, h, _⟩ => nomatch h) ?_
 rintro n s ⟨v7, v8, h, rfl⟩
 rw [fD] at h
 refine aK ?_
 refine zx fun _ => ?_
 refine zk 3 ?_
 refine zl aJ y1.Kids ?_
 refine zk 1 ?_
 refine ze [2, 4, 5, 6, 7, 24] ?_
 refine zi h (fun h => ?_) fun h => ?_
 refine aC ?_
 refine aK ?_
 refine aF ?_
 refine Lh [[], [0], [], [], [3], [], [4, 5, 3], [6, 4, 5, 3], [2, 7, 6, 4, 5, 3], [8, 2, 7, 6, 4, 5, 3], [1, 9, 8, 0, 2, 7, 6, 4, 5, 3], [0, 1, 2, 3, 4, 5, 6, 7, 8, 9, 10], [11, 10, 0, 1, 2, 3, 4, 5, 6, 7, 8, 9]] fun _ => ?_
 refine zk 6 ?_
 obtain ⟨e9, he, h⟩ := aB h
 refine zd aJ he ?_
 clear he
 refine zk 1 ?_
 obtain ⟨y10, he, h⟩ := aB h
 refine zc Wt (ih_ref14_describe _ _ y10 he) ?_
 clear he
 refine pO (e := 70) (sz := 5) (len := 1) (r := [I y10.Kind, Sx y10.Key, .lit (List.map aM y10.Attrs), .lit (List.map aD y10.Actions), .lit (List.map aX y10.Kids)]) (l' := List.map aX [y10]) (nm := 19) (by kernel_rfl) (by simp only [List.map_cons, List.map_nil, fR]; kernel_rfl) (by kernel_rfl) (by kernel_rfl) rfl rfl rfl ?_
 obtain ⟨l11, he, h⟩ := aB h
 refine cB (enc := aX) (l := v8) (els := [y10]) (r := l11) (old := some 4) (e := 70) (sz := 5) (bytes := 96) (k := (List.length v8)) (nm := 20) he (by kernel_rfl) (by kernel_rfl) (fun x => by rw [fR]; rfl) (by kernel_rfl) (by kernel_rfl) rfl rfl rfl ?_
 clear he
 refine zk 2 ?_
 refine bL ?_
 refine aT ?_
 refine zb ?_
 exact dI (zv [(0, 0), (1, 1), (2, 2), (3, 3), (20, 4)] [2, 4, 5, 6, 7] 5) (⟨_, _, h, rfl⟩)
 exact aI (zv [(1, 0), (3, 1), (4, 2)] [4, 6] 3) (bD (hj2 _ h))
def gD : Nat → bC → Int → Option aL
 | 0, _, _ => none
 | n + 1, p0, p1 => jB (fun a0 a1 => gD n a0 a1) n p0 p1
theorem xT (n : Nat) : (∀ (p0 : bC) (p1 : Int) (r : aL), gD n p0 p1 = some r → cN E 88 0 [.agg [I p0.Root, I p0.Next, .lit (List.map aE p0.Nodes)], .c (I p1)] [] (.agg [I r.Kind, Sx r.Key, .lit (List.map aM r.Attrs), .lit (List.map aD r.Actions), .lit (List.map aX r.Kids)]) []) := by
 induction n with
 | zero => intro p0 p1 r h; rw [gD] at h; cases h
 | succ n ih => intro p0 p1 r h; rw [gD] at h; exact sP _ ih n _ _ r h
def nV  (n : Nat) (p0 : bC) : Option Int := (pA n p0).bind fun (y1 : Bool) => (if (!y1) = true then some 12 else (gD n p0 p0.Root).bind fun (y2 : aL) => (gV n y2).bind fun (y3 : Int) => some y3)
theorem Du  (n : Nat) (p0 : bC) (r : Int) (h : nV n p0 = some r) : cN E 52 0 [.agg [I p0.Root, I p0.Next, .lit (List.map aE p0.Nodes)]] [] (.c (I r)) [] := by
 refine fW Tryz.func52 rfl ?_
 unfold nV at h
 refine za [1] ?_
 refine aK ?_
 refine zx fun _ => ?_
 refine zk 1 ?_
 obtain ⟨y1, he, h⟩ := aB h
 refine zc aA4 (Al n _ y1 he) ?_
 clear he
 refine zk 1 ?_
 refine ze [1, 5] ?_
 refine zi h (fun h => ?_) fun h => ?_
 refine za [2] ?_
 cases h
 exact aG zr
 refine aC ?_
 refine zx fun _ => ?_
 refine zk 3 ?_
 obtain ⟨y2, he, h⟩ := aB h
 refine zc Wt (xT n _ _ y2 he) ?_
 clear he
 obtain ⟨y3, he, h⟩ := aB h
 refine zc Sl (mN n _ y3 he) ?_
 clear he
 refine zk 1 ?_
 refine ze [2] ?_
 cases h
 exact aG zr
end Go.Proofs.YtojkihhnioeggaaGreatDoor.S
