import Derived.Test.YtojkihhnioeggaaGreatDoorQUGM14
set_option linter.unusedVariables false
set_option linter.unusedSimpArgs false
set_option maxRecDepth 100000
set_option maxHeartbeats 4000000
namespace Go.Proofs.YtojkihhnioeggaaGreatDoor.S
open Go Go.Bm
def dX (y6 : (List Int)) (y3 : eI) (y4 : eI) (j5 : Int → Option ((List aU) × Int × Int)) (y1 : ((List aU) × Int)) : Nat → Int → Int → List (Int × Bool) → Option ((List aU) × Int × Int)
 | 0, _, _, _ => none
 | n + 1, v19, v20, v21 => (if (decide (v20 < (List.length y6 : Int))) = true then (aS (fun (v32 : Int) (v33 : List (Int × Bool)) => dX y6 y3 y4 j5 y1 n v32 (IntKind.wrap .i64 (v20 + 1)) v33) (fun (j22 : Int → List (Int × Bool) → Option ((List aU) × Int × Int)) => (idx y6 v20).bind fun (e23 : Int) => (some (cZ e23 y3.nodes, gU e23 y3.nodes)).bind fun (y24 : (aP × Bool)) => (some (cZ e23 y4.nodes, gU e23 y4.nodes)).bind fun (y25 : (aP × Bool)) => (gd [(y24.2 && (y24.1.Kind == y25.1.Kind))] (some (cZ e23 y3.class_, gU e23 y3.class_))).bind fun (y26 : (ByteArray × Bool)) => (gd [(y24.2 && (y24.1.Kind == y25.1.Kind))] (some (cZ e23 y4.class_, gU e23 y4.class_))).bind fun (y27 : (ByteArray × Bool)) => (gd [((y24.2 && (y24.1.Kind == y25.1.Kind)) && (bV y26.1 y27.1))] (some (cZ e23 y3.states, gU e23 y3.states))).bind fun (y28 : (Int × Bool)) => (gd [((y24.2 && (y24.1.Kind == y25.1.Kind)) && (bV y26.1 y27.1))] (some (cZ e23 y4.states, gU e23 y4.states))).bind fun (y29 : (Int × Bool)) => (gd [((((y24.2 && (y24.1.Kind == y25.1.Kind)) && (bV y26.1 y27.1)) && (y28.1 == y29.1)) && (y24.1.Parent == y25.1.Parent)), (!(y25.1.Parent == 0))] (some (cZ y25.1.Parent v21, gU y25.1.Parent v21))).bind fun (y30 : (Bool × Bool)) => (some (cZ e23 (fY e23 (((((y24.2 && (y24.1.Kind == y25.1.Kind)) && (bV y26.1 y27.1)) && (y28.1 == y29.1)) && (y24.1.Parent == y25.1.Parent)) && ((y25.1.Parent == 0) || y30.1)) v21), gU e23 (fY e23 (((((y24.2 && (y24.1.Kind == y25.1.Kind)) && (bV y26.1 y27.1)) && (y28.1 == y29.1)) && (y24.1.Parent == y25.1.Parent)) && ((y25.1.Parent == 0) || y30.1)) v21))).bind fun (y31 : (Bool × Bool)) => (if (!y31.1) = true then j22 (IntKind.wrap .i64 (v19 + 1)) (fY e23 (((((y24.2 && (y24.1.Kind == y25.1.Kind)) && (bV y26.1 y27.1)) && (y28.1 == y29.1)) && (y24.1.Parent == y25.1.Parent)) && ((y25.1.Parent == 0) || y30.1)) v21) else j22 v19 (fY e23 (((((y24.2 && (y24.1.Kind == y25.1.Kind)) && (bV y26.1 y27.1)) && (y28.1 == y29.1)) && (y24.1.Parent == y25.1.Parent)) && ((y25.1.Parent == 0) || y30.1)) v21)))) else j5 v19)
def hP  (n : Nat) (p0 : bH) (p1 : bS) (p2 : cY) (p3 : bA) (p4 : (List aR)) (p5 : (List aU)) (p6 : bA) (p7 : (List aR)) : Option ((List aU) × Int × Int) := (jF n p0 p1 p2 p6 p7).bind fun (y1 : ((List aU) × Int)) => (if (y1.2 != 0) = true then some (([] : List aU), 0, y1.2) else (mP n p3 p5).bind fun (y2 : Bool) => (if (!y2) = true then some (([] : List aU), 0, 12) else (oB n p3 p4).bind fun (y3 : eI) => (oB n p6 p7).bind fun (y4 : eI) => (aS (fun (v37 : Int) => some (y1.1, v37, 0)) (fun (j5 : Int → Option ((List aU) × Int × Int)) => (oE n p6).bind fun (y6 : (List Int)) => dX y6 y3 y4 j5 y1 n 0 0 ([] : List (Int × Bool))))))
theorem sD  (n : Nat) (p0 : bH) (p1 : bS) (p2 : cY) (p3 : bA) (p4 : (List aR)) (p5 : (List aU)) (p6 : bA) (p7 : (List aR)) (r : ((List aU) × Int × Int)) (h : hP n p0 p1 p2 p3 p4 p5 p6 p7 = some r) : dI E 30 0 [.agg [D3 p0.Rules], .agg [E4 p1.Tokens], H6 p2, C8 p3, F0 p4, B6 p5, C8 p6, F0 p7] [] (.tup [B6 r.1, A6 r.2.1, A6 r.2.2]) [] := by
 refine gT Tryz.func30 rfl ?_
 unfold hP at h
 refine za [4, 5, 7, 8, 9, 10, 11, 14] ?_
 refine zx fun _ => ?_
 refine zk 5 ?_
 obtain ⟨y1, he, h⟩ := aB h
 refine zc Wn (oD n _ _ _ _ _ y1 he) ?_
 clear he
 refine zk 5 ?_
 refine ze [4, 5, 7, 11, 14, 19, 20] ?_
 refine aO ?_
 refine za [4, 5, 7, 11, 14, 19, 20, 41] ?_
 refine zi h (fun h => ?_) fun h => ?_
 refine za [16, 17, 18] ?_
 cases h
 exact aI zr
 refine aC ?_
 refine aO ?_
 refine zx fun _ => ?_
 refine Zd 2 (L' := [(4, F0 p4), L5 5 p5, (7, F0 p7), C0 11 3 0, C0 14 4 0, L5 19 y1.1, C6 20 y1.2, (41, B2 (y1.2 != 0)), (43, C8 p3), L5 44 p5]) (G' := [(0, J4 p0.Rules), (1, L0 p1.Tokens), (2, E3 p2), L4 3 p3, L4 4 p6]) (X' := []) ?_
 obtain ⟨y2, he, h⟩ := aB h
 refine zc fok62 (Hj n _ _ y2 he) ?_
 clear he
 refine zk 1 ?_
 refine ze [4, 7, 11, 14, 19, 46] ?_
 refine zi h (fun h => ?_) fun h => ?_
 refine za [16, 17, 18] ?_
 cases h
 exact aI zr
 refine aC ?_
 refine Dm [[], [], [0, 1], [], [], [3, 4, 2, 0, 1], [], [], [6, 2, 5, 0, 1, 7, 3, 4], [7, 5, 8, 0, 1, 2, 3, 4, 6]] fun _ => ?_
 refine zk 2 ?_
 obtain ⟨y3, he, h⟩ := aB h
 refine zc Yn (tP n _ _ y3 he) ?_
 clear he
 refine zk 2 ?_
 obtain ⟨y4, he, h⟩ := aB h
 refine zc Yn (tP n _ _ y4 he) ?_
 clear he
 refine zn (L2 := [(4, F0 p4), (7, F0 p7), C0 11 3 0, C0 14 4 0, L5 19 y1.1, (46, B2 (!y2)), (47, C8 p3), (48, F0 p4), (49, I0 y3), (50, C8 p6), (51, F0 p7), (52, I0 y4)]) (G2 := [(0, J4 p0.Rules), (1, L0 p1.Tokens), (2, E3 p2), L4 3 p3, L4 4 p6]) (X2 := [(0, ⟨[3], []⟩), (1, ⟨[], []⟩), (2, ⟨[], []⟩), (3, ⟨[4], []⟩), (4, ⟨[], []⟩), (5, ⟨[], []⟩)]) ?_
 refine zk 4 ?_
 refine ze [14, 19, 21, 22] ?_
 refine za [14, 19, 21, 22, 23] ?_
 refine za [14, 19, 21, 22, 23, 24] ?_
 refine aX h (fun A j => ∀ v37, j v37 = some r → A (mk [L5 19 y1.1, C6 24 v37] [] 0)) (fun v37 h => ?_) (fun j5 Aj5 hj5 h => ?_)
 refine za [16, 17, 18] ?_
 cases h
 exact aI zr
 refine zx fun _ => ?_
 refine zk 1 ?_
 obtain ⟨y6, he, h⟩ := aB h
 refine zc fok41 (xB n _ y6 he) ?_
 clear he
 refine zn (L2 := [C0 14 4 0, L5 19 y1.1, C0 21 31 0, C0 22 32 0, E6 23 35, I9 24, (54, C8 p6), H1 55 y6]) (G2 := [(0, J4 p0.Rules), (1, L0 p1.Tokens), (2, E3 p2), L4 3 p3, L4 4 p6, (31, A0 y3), (32, A0 y4), (35, .map false (List.map (eM (A9) eB) ([] : List (Int × Bool))))]) (X2 := []) ?_
 refine zl aH y6 ?_
 refine zk 1 ?_
 refine ze [19, 21, 22, 23, 24, 55, 56, 57] ?_
 refine aK ?_
 refine bJ (fun n s => ∃ v19 v20 v21, dX y6 y3 y4 j5 y1 n v19 v20 v21 = some r ∧ s = mk [L5 19 y1.1, C0 21 0 0, C0 22 1 0, E6 23 2, C6 24 v19, H1 55 y6, (56, .c (I (List.length y6 : Int))), C6 57 v20] [K9 y3, (1, A0 y4), (2, .map false (F4 v21))] 3) n _ (zv [(31, 0), (32, 1), (35, 2)] [19, 21, 22, 23, 24, 55, 56, 57] 3) ⟨_, _, _, h, rfl⟩ (fun s ⟨v19, v20, v21, h, _⟩ => nomatch h) ?_
 rintro n s ⟨v19, v20, v21, h, rfl⟩
 rw [dX] at h
 refine za [19, 21, 22, 23, 24, 55, 56, 57, 58] ?_
 refine aO ?_
 refine zi h (fun h => ?_) fun h => ?_
 refine aC ?_
 refine aX h (fun A j => ∀ v32 v33, j v32 v33 = some r → A (mk [L5 19 y1.1, C0 21 0 0, C0 22 1 0, E6 23 2, C6 24 v32, H1 55 y6, (56, .c (I (List.length y6 : Int))), C6 57 v20] [K9 y3, (1, A0 y4), (2, .map false (F4 v33))] 3)) (fun v32 v33 h => ?_) (fun j22 Aj22 hj22 h => ?_)
 refine bB ?_
 refine zb ?_
 exact eZ (zv [(0, 0), (1, 1), (2, 2)] [19, 21, 22, 23, 24, 55, 56, 57] 3) (⟨_, _, _, h, rfl⟩)
 refine aK ?_
 refine zx fun _ => ?_
 obtain ⟨e23, he, h⟩ := aB h
 refine zd aH he ?_
 clear he
 refine zk 2 ?_
 refine ze [19, 21, 22, 23, 24, 26, 55, 56, 57] ?_
 refine zx fun _ => ?_
 refine zk 3 ?_
 obtain ⟨y24, he, h⟩ := aB h
 refine zw (v := .tup [B4 y24.1, B2 y24.2]) [] (cT (kf := (A9)) (enc := aE) (l := y3.nodes) (k := e23) (ok := true) (kk := .int .i64) (j := ⟨.st [(3, 0, 1), (3, 1, 1), (3, 2, 1), (9, 3, 1), (55, 4, 1), (56, 5, 1), (22, 6, 1)], 7, 112, [.int .i64 0, .int .i64 0, .int .i64 0, .string ⟨#[]⟩, .slice none 0 0, .slice none 0 0, .slice none 0 0]⟩) (p := y24) (v := .agg [I y24.1.ID, I y24.1.Parent, I y24.1.Kind, Sx y24.1.Key, C7 y24.1.Attrs, C9 y24.1.Actions, C1 y24.1.Kids]) he (by kernel_rfl) eE (by kernel_rfl) (by kernel_rfl) (by kernel_rfl)) ?_
 clear he
 refine zn (L2 := [L5 19 y1.1, C0 21 0 0, C0 22 1 0, E6 23 2, C6 24 v19, H1 55 y6, (56, .c (I (List.length y6 : Int))), C6 57 v20, C6 26 e23, C0 62 0 0, (63, M8 y3.nodes), C6 64 e23, (65, .tup [B4 y24.1, B2 y24.2])]) (G2 := [K9 y3, (1, A0 y4), (2, .map false (F4 v21))]) (X2 := []) ?_
 refine zk 6 ?_
 refine ze [19, 21, 22, 23, 24, 26, 27, 28, 55, 56, 57] ?_
 refine zx fun _ => ?_
 refine zk 3 ?_
 obtain ⟨y25, he, h⟩ := aB h
 refine zw (v := .agg [I y25.1.ID, I y25.1.Parent, I y25.1.Kind, Sx y25.1.Key, C7 y25.1.Attrs, C9 y25.1.Actions, C1 y25.1.Kids]) [] (cT (kf := (A9)) (enc := aE) (l := y4.nodes) (k := e23) (ok := false) (kk := .int .i64) (j := ⟨.st [(3, 0, 1), (3, 1, 1), (3, 2, 1), (9, 3, 1), (55, 4, 1), (56, 5, 1), (22, 6, 1)], 7, 112, [.int .i64 0, .int .i64 0, .int .i64 0, .string ⟨#[]⟩, .slice none 0 0, .slice none 0 0, .slice none 0 0]⟩) (p := y25) (v := .agg [I y25.1.ID, I y25.1.Parent, I y25.1.Kind, Sx y25.1.Key, C7 y25.1.Attrs, C9 y25.1.Actions, C1 y25.1.Kids]) he (by kernel_rfl) eE (by kernel_rfl) (by kernel_rfl) (by kernel_rfl)) ?_
 clear he
 refine zk 2 ?_
 refine ze [19, 21, 22, 23, 24, 26, 27, 28, 29, 55, 56, 57] ?_
 refine zx fun _ => ?_
 refine zk 2 ?_
 refine zE (A1 14 2) ?_
 refine zn (L2 := [L5 19 y1.1, C0 21 0 0, C0 22 1 0, E6 23 2, C6 24 v19, H1 55 y6, (56, .c (I (List.length y6 : Int))), C6 57 v20, C6 26 e23, C0 27 14 0, K2 28 y24.2, C0 29 21 0, K2 72 y24.2, K2 73 y24.2, L9 74 y24.2 14 2]) (G2 := [K9 y3, (1, A0 y4), (2, .map false (F4 v21)), (14, A4 y24.1), (21, A4 y25.1)]) (X2 := []) ?_
 refine zE (A6 y24.1.Kind) ?_
 refine zE (A1 21 2) ?_
 refine zE (A6 y25.1.Kind) ?_
 refine zE (B2 (y24.1.Kind == y25.1.Kind)) ?_
 refine zP (.bool (y24.2 && (y24.1.Kind == y25.1.Kind))) ?_
 refine zn (L2 := [L5 19 y1.1, C0 21 0 0, C0 22 1 0, E6 23 2, C6 24 v19, H1 55 y6, (56, .c (I (List.length y6 : Int))), C6 57 v20, C6 26 e23, C0 27 14 0, K2 28 y24.2, C0 29 21 0, K2 72 y24.2, K2 73 y24.2, L9 74 y24.2 14 2, M3 75 y24.2 y24.1.Kind, L9 76 y24.2 21 2, M3 77 y24.2 y25.1.Kind, (78, .cnd [y24.2] (B2 (y24.1.Kind == y25.1.Kind))), (79, B2 (y24.2 && (y24.1.Kind == y25.1.Kind)))]) (G2 := [K9 y3, (1, A0 y4), (2, .map false (F4 v21)), (14, A4 y24.1), (21, A4 y25.1)]) (X2 := []) ?_
 refine zk 1 ?_
 refine zE (A1 0 1) ?_
 refine zE (.c (C4 y3.class_)) ?_
 refine zE (A6 e23) ?_
 obtain ⟨y26, he, h⟩ := aB h
 refine uH (e := [y24.2 && (y24.1.Kind == y25.1.Kind)]) [(82, .c (C4 y3.class_), some 1), (83, A6 e23, some 1)] (v := .c (Sx y26.1)) (foot := []) (by kernel_rfl) (by kernel_rfl) (by kernel_rfl) (fun hg => cT (kf := (A9)) (enc := eS) (l := y3.class_) (k := e23) (ok := false) (kk := .int .i64) (j := ⟨.str, 1, 16, [.string ⟨#[]⟩]⟩) (p := y26) (v := .c (Sx y26.1)) (cD he hg) (by kernel_rfl) eE (by kernel_rfl) (by kernel_rfl) (by kernel_rfl)) rfl rfl ?_
 clear he
 refine zn (L2 := [L5 19 y1.1, C0 21 0 0, C0 22 1 0, E6 23 2, C6 24 v19, H1 55 y6, (56, .c (I (List.length y6 : Int))), C6 57 v20, C6 26 e23, C0 27 14 0, K2 28 y24.2, C0 29 21 0, K2 72 y24.2, K2 73 y24.2, L9 74 y24.2 14 2, M3 75 y24.2 y24.1.Kind, L9 76 y24.2 21 2, M3 77 y24.2 y25.1.Kind, (78, .cnd [y24.2] (B2 (y24.1.Kind == y25.1.Kind))), (79, B2 (y24.2 && (y24.1.Kind == y25.1.Kind))), (80, B2 (y24.2 && (y24.1.Kind == y25.1.Kind))), (81, .cnd [y24.2 && (y24.1.Kind == y25.1.Kind)] (A1 0 1)), (82, .cnd [y24.2 && (y24.1.Kind == y25.1.Kind)] (.c (C4 y3.class_))), (83, .cnd [y24.2 && (y24.1.Kind == y25.1.Kind)] (A6 e23)), (84, .cnd [y24.2 && (y24.1.Kind == y25.1.Kind)] (F1 y26.1))]) (G2 := [K9 y3, (1, A0 y4), (2, .map false (F4 v21)), (14, A4 y24.1), (21, A4 y25.1)]) (X2 := []) ?_
 refine zE (A1 1 1) ?_
 refine zE (.c (C4 y4.class_)) ?_
 refine zE (A6 e23) ?_
 obtain ⟨y27, he, h⟩ := aB h
 refine uH (e := [y24.2 && (y24.1.Kind == y25.1.Kind)]) [(86, .c (C4 y4.class_), some 1), (87, A6 e23, some 1)] (v := .c (Sx y27.1)) (foot := []) (by kernel_rfl) (by kernel_rfl) (by kernel_rfl) (fun hg => cT (kf := (A9)) (enc := eS) (l := y4.class_) (k := e23) (ok := false) (kk := .int .i64) (j := ⟨.str, 1, 16, [.string ⟨#[]⟩]⟩) (p := y27) (v := .c (Sx y27.1)) (cD he hg) (by kernel_rfl) eE (by kernel_rfl) (by kernel_rfl) (by kernel_rfl)) rfl rfl ?_
 clear he
 refine zE (B2 (bV y26.1 y27.1)) ?_
 refine zn (L2 := [L5 19 y1.1, C0 21 0 0, C0 22 1 0, E6 23 2, C6 24 v19, H1 55 y6, (56, .c (I (List.length y6 : Int))), C6 57 v20, C6 26 e23, C0 27 14 0, K2 28 y24.2, C0 29 21 0, K2 72 y24.2, K2 73 y24.2, L9 74 y24.2 14 2, M3 75 y24.2 y24.1.Kind, L9 76 y24.2 21 2, M3 77 y24.2 y25.1.Kind, (78, .cnd [y24.2] (B2 (y24.1.Kind == y25.1.Kind))), (79, B2 (y24.2 && (y24.1.Kind == y25.1.Kind))), (80, B2 (y24.2 && (y24.1.Kind == y25.1.Kind))), (81, .cnd [y24.2 && (y24.1.Kind == y25.1.Kind)] (A1 0 1)), (82, .cnd [y24.2 && (y24.1.Kind == y25.1.Kind)] (.c (C4 y3.class_))), (83, .cnd [y24.2 && (y24.1.Kind == y25.1.Kind)] (A6 e23)), (84, .cnd [y24.2 && (y24.1.Kind == y25.1.Kind)] (F1 y26.1)), (85, .cnd [y24.2 && (y24.1.Kind == y25.1.Kind)] (A1 1 1)), (86, .cnd [y24.2 && (y24.1.Kind == y25.1.Kind)] (.c (C4 y4.class_))), (87, .cnd [y24.2 && (y24.1.Kind == y25.1.Kind)] (A6 e23)), (88, .cnd [y24.2 && (y24.1.Kind == y25.1.Kind)] (F1 y27.1)), (89, .cnd [y24.2 && (y24.1.Kind == y25.1.Kind)] (B2 (bV y26.1 y27.1)))]) (G2 := [K9 y3, (1, A0 y4), (2, .map false (F4 v21)), (14, A4 y24.1), (21, A4 y25.1)]) (X2 := []) ?_
 refine zP (.bool ((y24.2 && (y24.1.Kind == y25.1.Kind)) && (bV y26.1 y27.1))) ?_
 refine zk 1 ?_
 refine zE (A1 0 2) ?_
 refine zE (.c (D6 y3.states)) ?_
 refine zE (A6 e23) ?_
 refine zn (L2 := [L5 19 y1.1, C0 21 0 0, C0 22 1 0, E6 23 2, C6 24 v19, H1 55 y6, (56, .c (I (List.length y6 : Int))), C6 57 v20, C6 26 e23, C0 27 14 0, K2 28 y24.2, C0 29 21 0, K2 72 y24.2, K2 73 y24.2, L9 74 y24.2 14 2, M3 75 y24.2 y24.1.Kind, L9 76 y24.2 21 2, M3 77 y24.2 y25.1.Kind, (78, .cnd [y24.2] (B2 (y24.1.Kind == y25.1.Kind))), (79, B2 (y24.2 && (y24.1.Kind == y25.1.Kind))), (80, B2 (y24.2 && (y24.1.Kind == y25.1.Kind))), (81, .cnd [y24.2 && (y24.1.Kind == y25.1.Kind)] (A1 0 1)), (82, .cnd [y24.2 && (y24.1.Kind == y25.1.Kind)] (.c (C4 y3.class_))), (83, .cnd [y24.2 && (y24.1.Kind == y25.1.Kind)] (A6 e23)), (84, .cnd [y24.2 && (y24.1.Kind == y25.1.Kind)] (F1 y26.1)), (85, .cnd [y24.2 && (y24.1.Kind == y25.1.Kind)] (A1 1 1)), (86, .cnd [y24.2 && (y24.1.Kind == y25.1.Kind)] (.c (C4 y4.class_))), (87, .cnd [y24.2 && (y24.1.Kind == y25.1.Kind)] (A6 e23)), (88, .cnd [y24.2 && (y24.1.Kind == y25.1.Kind)] (F1 y27.1)), (89, .cnd [y24.2 && (y24.1.Kind == y25.1.Kind)] (B2 (bV y26.1 y27.1))), (90, B2 ((y24.2 && (y24.1.Kind == y25.1.Kind)) && (bV y26.1 y27.1))), (91, B2 ((y24.2 && (y24.1.Kind == y25.1.Kind)) && (bV y26.1 y27.1))), (92, .cnd [(y24.2 && (y24.1.Kind == y25.1.Kind)) && (bV y26.1 y27.1)] (A1 0 2)), (93, .cnd [(y24.2 && (y24.1.Kind == y25.1.Kind)) && (bV y26.1 y27.1)] (.c (D6 y3.states))), (94, .cnd [(y24.2 && (y24.1.Kind == y25.1.Kind)) && (bV y26.1 y27.1)] (A6 e23))]) (G2 := [K9 y3, (1, A0 y4), (2, .map false (F4 v21)), (14, A4 y24.1), (21, A4 y25.1)]) (X2 := []) ?_
 obtain ⟨y28, he, h⟩ := aB h
 refine uH (e := [(y24.2 && (y24.1.Kind == y25.1.Kind)) && (bV y26.1 y27.1)]) [(93, .c (D6 y3.states), some 1), (94, A6 e23, some 1)] (v := .c (I y28.1)) (foot := []) (by kernel_rfl) (by kernel_rfl) (by kernel_rfl) (fun hg => cT (kf := (A9)) (enc := aH) (l := y3.states) (k := e23) (ok := false) (kk := .int .i64) (j := ⟨.int .i64, 1, 8, [.int .i64 0]⟩) (p := y28) (v := .c (I y28.1)) (cD he hg) (by kernel_rfl) eE (by kernel_rfl) (by kernel_rfl) (by kernel_rfl)) rfl rfl ?_
 clear he
 refine zE (A1 1 2) ?_
 refine zE (.c (D6 y4.states)) ?_
 refine zE (A6 e23) ?_
 obtain ⟨y29, he, h⟩ := aB h
 refine uH (e := [(y24.2 && (y24.1.Kind == y25.1.Kind)) && (bV y26.1 y27.1)]) [(97, .c (D6 y4.states), some 1), (98, A6 e23, some 1)] (v := .c (I y29.1)) (foot := []) (by kernel_rfl) (by kernel_rfl) (by kernel_rfl) (fun hg => cT (kf := (A9)) (enc := aH) (l := y4.states) (k := e23) (ok := false) (kk := .int .i64) (j := ⟨.int .i64, 1, 8, [.int .i64 0]⟩) (p := y29) (v := .c (I y29.1)) (cD he hg) (by kernel_rfl) eE (by kernel_rfl) (by kernel_rfl) (by kernel_rfl)) rfl rfl ?_
 clear he
 refine zn (L2 := [L5 19 y1.1, C0 21 0 0, C0 22 1 0, E6 23 2, C6 24 v19, H1 55 y6, (56, .c (I (List.length y6 : Int))), C6 57 v20, C6 26 e23, C0 27 14 0, K2 28 y24.2, C0 29 21 0, K2 72 y24.2, K2 73 y24.2, L9 74 y24.2 14 2, M3 75 y24.2 y24.1.Kind, L9 76 y24.2 21 2, M3 77 y24.2 y25.1.Kind, (78, .cnd [y24.2] (B2 (y24.1.Kind == y25.1.Kind))), (79, B2 (y24.2 && (y24.1.Kind == y25.1.Kind))), (80, B2 (y24.2 && (y24.1.Kind == y25.1.Kind))), (81, .cnd [y24.2 && (y24.1.Kind == y25.1.Kind)] (A1 0 1)), (82, .cnd [y24.2 && (y24.1.Kind == y25.1.Kind)] (.c (C4 y3.class_))), (83, .cnd [y24.2 && (y24.1.Kind == y25.1.Kind)] (A6 e23)), (84, .cnd [y24.2 && (y24.1.Kind == y25.1.Kind)] (F1 y26.1)), (85, .cnd [y24.2 && (y24.1.Kind == y25.1.Kind)] (A1 1 1)), (86, .cnd [y24.2 && (y24.1.Kind == y25.1.Kind)] (.c (C4 y4.class_))), (87, .cnd [y24.2 && (y24.1.Kind == y25.1.Kind)] (A6 e23)), (88, .cnd [y24.2 && (y24.1.Kind == y25.1.Kind)] (F1 y27.1)), (89, .cnd [y24.2 && (y24.1.Kind == y25.1.Kind)] (B2 (bV y26.1 y27.1))), (90, B2 ((y24.2 && (y24.1.Kind == y25.1.Kind)) && (bV y26.1 y27.1))), (91, B2 ((y24.2 && (y24.1.Kind == y25.1.Kind)) && (bV y26.1 y27.1))), (92, .cnd [(y24.2 && (y24.1.Kind == y25.1.Kind)) && (bV y26.1 y27.1)] (A1 0 2)), (93, .cnd [(y24.2 && (y24.1.Kind == y25.1.Kind)) && (bV y26.1 y27.1)] (.c (D6 y3.states))), (94, .cnd [(y24.2 && (y24.1.Kind == y25.1.Kind)) && (bV y26.1 y27.1)] (A6 e23)), (95, .cnd [(y24.2 && (y24.1.Kind == y25.1.Kind)) && (bV y26.1 y27.1)] (A6 y28.1)), (96, .cnd [(y24.2 && (y24.1.Kind == y25.1.Kind)) && (bV y26.1 y27.1)] (A1 1 2)), (97, .cnd [(y24.2 && (y24.1.Kind == y25.1.Kind)) && (bV y26.1 y27.1)] (.c (D6 y4.states))), (98, .cnd [(y24.2 && (y24.1.Kind == y25.1.Kind)) && (bV y26.1 y27.1)] (A6 e23)), (99, .cnd [(y24.2 && (y24.1.Kind == y25.1.Kind)) && (bV y26.1 y27.1)] (A6 y29.1))]) (G2 := [K9 y3, (1, A0 y4), (2, .map false (F4 v21)), (14, A4 y24.1), (21, A4 y25.1)]) (X2 := []) ?_
 refine zE (B2 (y28.1 == y29.1)) ?_
 refine zP (.bool (((y24.2 && (y24.1.Kind == y25.1.Kind)) && (bV y26.1 y27.1)) && (y28.1 == y29.1))) ?_
 refine zk 1 ?_
 refine zE (A1 14 1) ?_
 refine zE (A6 y24.1.Parent) ?_
 refine zn (L2 := [L5 19 y1.1, C0 21 0 0, C0 22 1 0, E6 23 2, C6 24 v19, H1 55 y6, (56, .c (I (List.length y6 : Int))), C6 57 v20, C6 26 e23, C0 27 14 0, K2 28 y24.2, C0 29 21 0, K2 72 y24.2, K2 73 y24.2, L9 74 y24.2 14 2, M3 75 y24.2 y24.1.Kind, L9 76 y24.2 21 2, M3 77 y24.2 y25.1.Kind, (78, .cnd [y24.2] (B2 (y24.1.Kind == y25.1.Kind))), (79, B2 (y24.2 && (y24.1.Kind == y25.1.Kind))), (80, B2 (y24.2 && (y24.1.Kind == y25.1.Kind))), (81, .cnd [y24.2 && (y24.1.Kind == y25.1.Kind)] (A1 0 1)), (82, .cnd [y24.2 && (y24.1.Kind == y25.1.Kind)] (.c (C4 y3.class_))), (83, .cnd [y24.2 && (y24.1.Kind == y25.1.Kind)] (A6 e23)), (84, .cnd [y24.2 && (y24.1.Kind == y25.1.Kind)] (F1 y26.1)), (85, .cnd [y24.2 && (y24.1.Kind == y25.1.Kind)] (A1 1 1)), (86, .cnd [y24.2 && (y24.1.Kind == y25.1.Kind)] (.c (C4 y4.class_))), (87, .cnd [y24.2 && (y24.1.Kind == y25.1.Kind)] (A6 e23)), (88, .cnd [y24.2 && (y24.1.Kind == y25.1.Kind)] (F1 y27.1)), (89, .cnd [y24.2 && (y24.1.Kind == y25.1.Kind)] (B2 (bV y26.1 y27.1))), (90, B2 ((y24.2 && (y24.1.Kind == y25.1.Kind)) && (bV y26.1 y27.1))), (91, B2 ((y24.2 && (y24.1.Kind == y25.1.Kind)) && (bV y26.1 y27.1))), (92, .cnd [(y24.2 && (y24.1.Kind == y25.1.Kind)) && (bV y26.1 y27.1)] (A1 0 2)), (93, .cnd [(y24.2 && (y24.1.Kind == y25.1.Kind)) && (bV y26.1 y27.1)] (.c (D6 y3.states))), (94, .cnd [(y24.2 && (y24.1.Kind == y25.1.Kind)) && (bV y26.1 y27.1)] (A6 e23)), (95, .cnd [(y24.2 && (y24.1.Kind == y25.1.Kind)) && (bV y26.1 y27.1)] (A6 y28.1)), (96, .cnd [(y24.2 && (y24.1.Kind == y25.1.Kind)) && (bV y26.1 y27.1)] (A1 1 2)), (97, .cnd [(y24.2 && (y24.1.Kind == y25.1.Kind)) && (bV y26.1 y27.1)] (.c (D6 y4.states))), (98, .cnd [(y24.2 && (y24.1.Kind == y25.1.Kind)) && (bV y26.1 y27.1)] (A6 e23)), (99, .cnd [(y24.2 && (y24.1.Kind == y25.1.Kind)) && (bV y26.1 y27.1)] (A6 y29.1)), (100, .cnd [(y24.2 && (y24.1.Kind == y25.1.Kind)) && (bV y26.1 y27.1)] (B2 (y28.1 == y29.1))), (101, B2 (((y24.2 && (y24.1.Kind == y25.1.Kind)) && (bV y26.1 y27.1)) && (y28.1 == y29.1))), (102, B2 (((y24.2 && (y24.1.Kind == y25.1.Kind)) && (bV y26.1 y27.1)) && (y28.1 == y29.1))), (103, .cnd [((y24.2 && (y24.1.Kind == y25.1.Kind)) && (bV y26.1 y27.1)) && (y28.1 == y29.1)] (A1 14 1)), (104, .cnd [((y24.2 && (y24.1.Kind == y25.1.Kind)) && (bV y26.1 y27.1)) && (y28.1 == y29.1)] (A6 y24.1.Parent))]) (G2 := [K9 y3, (1, A0 y4), (2, .map false (F4 v21)), (14, A4 y24.1), (21, A4 y25.1)]) (X2 := []) ?_
 refine zE (A1 21 1) ?_
 refine zE (A6 y25.1.Parent) ?_
 refine zE (B2 (y24.1.Parent == y25.1.Parent)) ?_
 refine zP (.bool ((((y24.2 && (y24.1.Kind == y25.1.Kind)) && (bV y26.1 y27.1)) && (y28.1 == y29.1)) && (y24.1.Parent == y25.1.Parent))) ?_
 refine zk 1 ?_
 refine ze [19, 21, 22, 23, 24, 26, 29, 30, 55, 56, 57] ?_
 refine zx fun _ => ?_
 refine Zd 4 (L' := [L5 19 y1.1, C0 21 0 0, C0 22 1 0, E6 23 2, C6 24 v19, H1 55 y6, (56, .c (I (List.length y6 : Int))), C6 57 v20, C6 26 e23, C0 29 21 0, (30, B2 ((((y24.2 && (y24.1.Kind == y25.1.Kind)) && (bV y26.1 y27.1)) && (y28.1 == y29.1)) && (y24.1.Parent == y25.1.Parent))), E6 109 2, C6 110 e23, (111, B2 ((((y24.2 && (y24.1.Kind == y25.1.Kind)) && (bV y26.1 y27.1)) && (y28.1 == y29.1)) && (y24.1.Parent == y25.1.Parent))), (112, B2 ((((y24.2 && (y24.1.Kind == y25.1.Kind)) && (bV y26.1 y27.1)) && (y28.1 == y29.1)) && (y24.1.Parent == y25.1.Parent)))]) (G' := [K9 y3, (1, A0 y4), (2, .map false (F4 v21)), (14, A4 y24.1), (21, A4 y25.1)]) (X' := []) ?_
 refine zE (A1 21 1) ?_
 refine zE (A6 y25.1.Parent) ?_
 refine zE (B2 (y25.1.Parent == 0)) ?_
 refine zF [(((y24.2 && (y24.1.Kind == y25.1.Kind)) && (bV y26.1 y27.1)) && (y28.1 == y29.1)) && (y24.1.Parent == y25.1.Parent)] (B2 (y25.1.Parent == 0)) ?_
 refine zE (.c (.mapr 2)) ?_
 refine zn (L2 := [L5 19 y1.1, C0 21 0 0, C0 22 1 0, E6 23 2, C6 24 v19, H1 55 y6, (56, .c (I (List.length y6 : Int))), C6 57 v20, C6 26 e23, C0 29 21 0, (30, B2 ((((y24.2 && (y24.1.Kind == y25.1.Kind)) && (bV y26.1 y27.1)) && (y28.1 == y29.1)) && (y24.1.Parent == y25.1.Parent))), E6 109 2, C6 110 e23, (111, B2 ((((y24.2 && (y24.1.Kind == y25.1.Kind)) && (bV y26.1 y27.1)) && (y28.1 == y29.1)) && (y24.1.Parent == y25.1.Parent))), (112, B2 ((((y24.2 && (y24.1.Kind == y25.1.Kind)) && (bV y26.1 y27.1)) && (y28.1 == y29.1)) && (y24.1.Parent == y25.1.Parent))), (113, .cnd [(((y24.2 && (y24.1.Kind == y25.1.Kind)) && (bV y26.1 y27.1)) && (y28.1 == y29.1)) && (y24.1.Parent == y25.1.Parent)] (A1 21 1)), (114, .cnd [(((y24.2 && (y24.1.Kind == y25.1.Kind)) && (bV y26.1 y27.1)) && (y28.1 == y29.1)) && (y24.1.Parent == y25.1.Parent)] (A6 y25.1.Parent)), (115, .cnd [(((y24.2 && (y24.1.Kind == y25.1.Kind)) && (bV y26.1 y27.1)) && (y28.1 == y29.1)) && (y24.1.Parent == y25.1.Parent)] (B2 (y25.1.Parent == 0))), (116, .cnd [(((y24.2 && (y24.1.Kind == y25.1.Kind)) && (bV y26.1 y27.1)) && (y28.1 == y29.1)) && (y24.1.Parent == y25.1.Parent)] (B2 (y25.1.Parent == 0))), (117, .cnd [(((y24.2 && (y24.1.Kind == y25.1.Kind)) && (bV y26.1 y27.1)) && (y28.1 == y29.1)) && (y24.1.Parent == y25.1.Parent), !(y25.1.Parent == 0)] (.c (.mapr 2)))]) (G2 := [K9 y3, (1, A0 y4), (2, .map false (F4 v21)), (14, A4 y24.1), (21, A4 y25.1)]) (X2 := []) ?_
 refine zE (A1 21 1) ?_
 refine zE (A6 y25.1.Parent) ?_
 obtain ⟨y30, he, h⟩ := aB h
 refine uH (e := [(((y24.2 && (y24.1.Kind == y25.1.Kind)) && (bV y26.1 y27.1)) && (y28.1 == y29.1)) && (y24.1.Parent == y25.1.Parent), !(y25.1.Parent == 0)]) [(117, .c (.mapr 2), some 2), (119, A6 y25.1.Parent, some 2)] (v := .c (Bo y30.1)) (foot := [2]) (by kernel_rfl) (by kernel_rfl) (by kernel_rfl) (fun hg => cT (kf := (A9)) (enc := eB) (l := v21) (k := y25.1.Parent) (ok := false) (kk := .int .i64) (j := ⟨.boo, 1, 1, [.bool false]⟩) (p := y30) (v := .c (Bo y30.1)) (cD he hg) (by kernel_rfl) eE (by kernel_rfl) (by kernel_rfl) (by kernel_rfl)) rfl rfl ?_
 clear he
 refine zP (.bool ((y25.1.Parent == 0) || y30.1)) ?_
 refine zP (.bool (((((y24.2 && (y24.1.Kind == y25.1.Kind)) && (bV y26.1 y27.1)) && (y28.1 == y29.1)) && (y24.1.Parent == y25.1.Parent)) && ((y25.1.Parent == 0) || y30.1))) ?_
 refine zn (L2 := [L5 19 y1.1, C0 21 0 0, C0 22 1 0, E6 23 2, C6 24 v19, H1 55 y6, (56, .c (I (List.length y6 : Int))), C6 57 v20, C6 26 e23, C0 29 21 0, (30, B2 ((((y24.2 && (y24.1.Kind == y25.1.Kind)) && (bV y26.1 y27.1)) && (y28.1 == y29.1)) && (y24.1.Parent == y25.1.Parent))), E6 109 2, C6 110 e23, (111, B2 ((((y24.2 && (y24.1.Kind == y25.1.Kind)) && (bV y26.1 y27.1)) && (y28.1 == y29.1)) && (y24.1.Parent == y25.1.Parent))), (112, B2 ((((y24.2 && (y24.1.Kind == y25.1.Kind)) && (bV y26.1 y27.1)) && (y28.1 == y29.1)) && (y24.1.Parent == y25.1.Parent))), (113, .cnd [(((y24.2 && (y24.1.Kind == y25.1.Kind)) && (bV y26.1 y27.1)) && (y28.1 == y29.1)) && (y24.1.Parent == y25.1.Parent)] (A1 21 1)), (114, .cnd [(((y24.2 && (y24.1.Kind == y25.1.Kind)) && (bV y26.1 y27.1)) && (y28.1 == y29.1)) && (y24.1.Parent == y25.1.Parent)] (A6 y25.1.Parent)), (115, .cnd [(((y24.2 && (y24.1.Kind == y25.1.Kind)) && (bV y26.1 y27.1)) && (y28.1 == y29.1)) && (y24.1.Parent == y25.1.Parent)] (B2 (y25.1.Parent == 0))), (116, .cnd [(((y24.2 && (y24.1.Kind == y25.1.Kind)) && (bV y26.1 y27.1)) && (y28.1 == y29.1)) && (y24.1.Parent == y25.1.Parent)] (B2 (y25.1.Parent == 0))), (117, .cnd [(((y24.2 && (y24.1.Kind == y25.1.Kind)) && (bV y26.1 y27.1)) && (y28.1 == y29.1)) && (y24.1.Parent == y25.1.Parent), !(y25.1.Parent == 0)] (.c (.mapr 2))), (118, .cnd [(((y24.2 && (y24.1.Kind == y25.1.Kind)) && (bV y26.1 y27.1)) && (y28.1 == y29.1)) && (y24.1.Parent == y25.1.Parent), !(y25.1.Parent == 0)] (A1 21 1)), (119, .cnd [(((y24.2 && (y24.1.Kind == y25.1.Kind)) && (bV y26.1 y27.1)) && (y28.1 == y29.1)) && (y24.1.Parent == y25.1.Parent), !(y25.1.Parent == 0)] (A6 y25.1.Parent)), (120, .cnd [(((y24.2 && (y24.1.Kind == y25.1.Kind)) && (bV y26.1 y27.1)) && (y28.1 == y29.1)) && (y24.1.Parent == y25.1.Parent), !(y25.1.Parent == 0)] (B2 y30.1)), (121, .cnd [(((y24.2 && (y24.1.Kind == y25.1.Kind)) && (bV y26.1 y27.1)) && (y28.1 == y29.1)) && (y24.1.Parent == y25.1.Parent)] (B2 ((y25.1.Parent == 0) || y30.1))), (122, B2 (((((y24.2 && (y24.1.Kind == y25.1.Kind)) && (bV y26.1 y27.1)) && (y28.1 == y29.1)) && (y24.1.Parent == y25.1.Parent)) && ((y25.1.Parent == 0) || y30.1)))]) (G2 := [K9 y3, (1, A0 y4), (2, .map false (F4 v21)), (14, A4 y24.1), (21, A4 y25.1)]) (X2 := []) ?_
 refine jM (kf := (A9)) (enc := eB) (l := v21) (k := e23) (v := (((((y24.2 && (y24.1.Kind == y25.1.Kind)) && (bV y26.1 y27.1)) && (y28.1 == y29.1)) && (y24.1.Parent == y25.1.Parent)) && ((y25.1.Parent == 0) || y30.1))) (n := 2) (ag := false) (kk := .int .i64) (by kernel_rfl) eE (by kernel_rfl) (by kernel_rfl) rfl rfl ?_
 refine ze [19, 21, 22, 23, 24, 26, 55, 56, 57] ?_
 refine zx fun _ => ?_
 refine zk 2 ?_
 obtain ⟨y31, he, h⟩ := aB h
 refine zw (v := .c (Bo y31.1)) [2] (cT (kf := (A9)) (enc := eB) (l := (fY e23 (((((y24.2 && (y24.1.Kind == y25.1.Kind)) && (bV y26.1 y27.1)) && (y28.1 == y29.1)) && (y24.1.Parent == y25.1.Parent)) && ((y25.1.Parent == 0) || y30.1)) v21)) (k := e23) (ok := false) (kk := .int .i64) (j := ⟨.boo, 1, 1, [.bool false]⟩) (p := y31) (v := .c (Bo y31.1)) he (by kernel_rfl) eE (by kernel_rfl) (by kernel_rfl) (by kernel_rfl)) ?_
 clear he
 refine zk 1 ?_
 refine ze [19, 21, 22, 23, 24, 55, 56, 57, 126] ?_
 refine zi h (fun h => ?_) fun h => ?_
 refine bB ?_
 refine zb ?_
 exact eZ (zv [(0, 0), (1, 1), (2, 2)] [19, 21, 22, 23, 24, 55, 56, 57] 3) (hj22 _ _ h)
 exact aL (zv [(0, 0), (1, 1), (2, 2)] [19, 21, 22, 23, 24, 55, 56, 57] 3) (aC (hj22 _ _ h))
 exact aL (zv [] [19, 24] 0) (bK (hj5 _ h))
end Go.Proofs.YtojkihhnioeggaaGreatDoor.S
