import Derived.Test.YtojkihhnioeggaaGreatDoorQCGM10
set_option linter.unusedVariables false
set_option linter.unusedSimpArgs false
set_option maxRecDepth 100000
set_option maxHeartbeats 4000000
namespace Go.Proofs.YtojkihhnioeggaaGreatDoor.S
open Go Go.Bm
def eY (p1 : bB) (p0 : bZ) (j4 : Unit → Option Bool) : Nat → Int → Int → Int → ByteArray → List bF → List cR → List Int → Option Bool
 | 0, _, _, _, _, _, _, _ => none
 | n + 1, v7, v8, v9, v10, v11, v12, v13 => (if (v8 != 0) = true then (iQ n p1 v8).bind fun (y14 : aR) => (gd [((p0.UnderKind == 0) || (p0.UnderKind == y14.Kind)), (!(bQ p0.UnderClass (⟨#[]⟩ : ByteArray)))] (nJ n y14)).bind fun (y15 : ByteArray) => (if (((p0.UnderKind == 0) || (p0.UnderKind == y14.Kind)) && ((bQ p0.UnderClass (⟨#[]⟩ : ByteArray)) || (bQ p0.UnderClass y15))) = true then some true else eY p1 p0 j4 n y14.ID y14.Parent y14.Kind y14.Key y14.Attrs y14.Actions y14.Kids) else j4 ())
def jH  (n : Nat) (p0 : bZ) (p1 : bB) (p2 : (List aT)) (p3 : Int) : Option Bool := (iQ n p1 p3).bind fun (y1 : aR) => (gd [(!((p0.Kind != 0) && (p0.Kind != y1.Kind))), (!(bQ p0.Class (⟨#[]⟩ : ByteArray)))] (nJ n y1)).bind fun (y2 : ByteArray) => (gd [(!(((p0.Kind != 0) && (p0.Kind != y1.Kind)) || ((!(bQ p0.Class (⟨#[]⟩ : ByteArray))) && (!(bQ p0.Class y2)))))] (nS n p2 p3)).bind fun (y3 : Int) => (if ((((p0.Kind != 0) && (p0.Kind != y1.Kind)) || ((!(bQ p0.Class (⟨#[]⟩ : ByteArray))) && (!(bQ p0.Class y2)))) || ((jW .i64 y3 p0.States) != p0.States)) = true then some false else (if ((p0.UnderKind == 0) && (bQ p0.UnderClass (⟨#[]⟩ : ByteArray))) = true then some true else (aS (fun (_ : Unit) => some false) (fun (j4 : Unit → Option Bool) => eY p1 p0 j4 n y1.ID y1.Parent y1.Kind y1.Key y1.Attrs y1.Actions y1.Kids))))
theorem Ap  (n : Nat) (p0 : bZ) (p1 : bB) (p2 : (List aT)) (p3 : Int) (r : Bool) (h : jH n p0 p1 p2 p3 = some r) : cW E 54 0 [D7 p0, C0 p1, D6 p2, B7 p3] [] (B3 r) [] := by
 refine eV Tryz.func54 rfl ?_
 unfold jH at h
 refine za [2, 3, 4, 5] ?_
 refine zx fun _ => ?_
 refine zk 2 ?_
 obtain ⟨y1, he, h⟩ := aC h
 refine zc Mg (mZ n _ _ y1 he) ?_
 clear he
 refine zk 2 ?_
 refine ze [2, 3, 4, 5, 9] ?_
 refine aI ?_
 refine xI [[], [0], [1, 0], [2, 1, 0], [3, 2, 1, 0], [4, 3, 2, 1, 0], [3, 2, 1, 0], [6, 3, 2, 1, 0], [5, 7, 3, 4, 2, 1, 0, 6], [3, 8, 2, 1, 0, 5, 7, 4, 6], [9, 3, 8, 2, 1, 0, 5, 7, 4, 6], [10, 9, 3, 8, 2, 1, 0, 5, 7, 4, 6], [11, 10, 9, 3, 8, 2, 1, 0, 5, 7, 4, 6], [12, 10, 11, 9, 3, 8, 2, 1, 0, 5, 7, 4, 6], [13, 10, 12, 11, 9, 3, 8, 2, 1, 0, 5, 7, 4, 6], [14, 13, 10, 12, 11, 9, 3, 8, 2, 1, 0, 5, 7, 4, 6], [15, 14, 13, 10, 12, 11, 9, 3, 8, 2, 1, 0, 5, 7, 4, 6], [14, 13, 10, 12, 11, 9, 3, 8, 2, 1, 0, 5, 7, 4, 6], [17, 14, 13, 10, 12, 11, 9, 3, 8, 2, 1, 0, 5, 7, 4, 6], [16, 18, 14, 15, 13, 10, 12, 11, 9, 3, 8, 2, 1, 0, 5, 7, 4, 6, 17], [14, 19, 10, 13, 12, 11, 9, 3, 8, 2, 1, 0, 5, 7, 4, 6, 16, 18, 15, 17], [10, 20, 9, 3, 8, 2, 1, 0, 5, 7, 4, 6, 14, 19, 13, 12, 11, 16, 18, 15, 17], [21, 18, 10, 20, 9, 3, 8, 2, 1, 0, 5, 7, 4, 6, 14, 19, 13, 12, 11, 16, 15, 17], [22, 21, 18, 10, 20, 9, 3, 8, 2, 1, 0, 5, 7, 4, 6, 14, 19, 13, 12, 11, 16, 15, 17], [22, 21, 18, 10, 20, 9, 3, 8, 2, 1, 0, 5, 7, 4, 6, 14, 19, 13, 12, 11, 16, 15, 17], [23, 24, 22, 21, 18, 10, 20, 9, 3, 8, 2, 1, 0, 5, 7, 4, 6, 14, 19, 13, 12, 11, 16, 15, 17], [22, 21, 18, 10, 20, 9, 3, 8, 2, 1, 0, 5, 7, 4, 6, 14, 19, 13, 12, 11, 16, 15, 17], [26, 22, 21, 18, 10, 20, 9, 3, 8, 2, 1, 0, 5, 7, 4, 6, 14, 19, 13, 12, 11, 16, 15, 17], [25, 27, 22, 23, 24, 21, 18, 10, 20, 9, 3, 8, 2, 1, 0, 5, 7, 4, 6, 14, 19, 13, 12, 11, 16, 15, 17, 26], [22, 21, 18, 10, 20, 9, 3, 8, 2, 1, 0, 5, 7, 4, 6, 14, 19, 13, 12, 11, 16, 15, 17], [29, 22, 21, 18, 10, 20, 9, 3, 8, 2, 1, 0, 5, 7, 4, 6, 14, 19, 13, 12, 11, 16, 15, 17], [28, 30, 22, 25, 27, 23, 24, 21, 18, 10, 20, 9, 3, 8, 2, 1, 0, 5, 7, 4, 6, 14, 19, 13, 12, 11, 16, 15, 17, 26, 29], [22, 31, 21, 18, 10, 20, 9, 3, 8, 2, 1, 0, 5, 7, 4, 6, 14, 19, 13, 12, 11, 16, 15, 17, 28, 30, 25, 27, 23, 24, 26, 29]] fun _ => ?_
 refine zk 4 ?_
 refine zE (B9 0 0) ?_
 refine zn (L2 := [(2, D6 p2), A6 3 p3, I7, O3, A1 9 6 0, A1 13 0 0, A6 14 p0.Kind, (15, B3 (p0.Kind != 0)), (16, B3 (p0.Kind != 0)), (17, .cnd [p0.Kind != 0] (B9 0 0))]) (G2 := [K5 0 p0, I1 1 p1, (6, A9 y1)]) (X2 := [(0, ⟨[], []⟩), (1, ⟨[0], []⟩), (2, ⟨[], []⟩), (3, ⟨[], []⟩), (4, ⟨[], []⟩)]) ?_
 refine zE (B7 p0.Kind) ?_
 refine zE (B9 6 2) ?_
 refine zE (B7 y1.Kind) ?_
 refine zE (B3 (p0.Kind != y1.Kind)) ?_
 refine zP (.bool ((p0.Kind != 0) && (p0.Kind != y1.Kind))) ?_
 refine zn (L2 := [(2, D6 p2), A6 3 p3, I7, O3, A1 9 6 0, A1 13 0 0, A6 14 p0.Kind, (15, B3 (p0.Kind != 0)), (16, B3 (p0.Kind != 0)), (17, .cnd [p0.Kind != 0] (B9 0 0)), (18, .cnd [p0.Kind != 0] (B7 p0.Kind)), (19, .cnd [p0.Kind != 0] (B9 6 2)), (20, .cnd [p0.Kind != 0] (B7 y1.Kind)), (21, .cnd [p0.Kind != 0] (B3 (p0.Kind != y1.Kind))), (22, B3 ((p0.Kind != 0) && (p0.Kind != y1.Kind)))]) (G2 := [K5 0 p0, I1 1 p1, (6, A9 y1)]) (X2 := [(0, ⟨[], []⟩), (1, ⟨[0], []⟩), (2, ⟨[], []⟩), (3, ⟨[], []⟩), (4, ⟨[], []⟩), (5, ⟨[0], []⟩), (6, ⟨[], []⟩), (7, ⟨[6], []⟩), (8, ⟨[], []⟩), (9, ⟨[], []⟩)]) ?_
 refine zk 1 ?_
 refine zE (B9 0 1) ?_
 refine zE (F0 p0.Class) ?_
 refine zE (.c (Bo (!(bQ p0.Class (⟨#[]⟩ : ByteArray))))) ?_
 refine zF [!((p0.Kind != 0) && (p0.Kind != y1.Kind))] (.c (Bo (!(bQ p0.Class (⟨#[]⟩ : ByteArray))))) ?_
 refine zn (L2 := [(2, D6 p2), A6 3 p3, I7, O3, A1 9 6 0, A1 13 0 0, A6 14 p0.Kind, (15, B3 (p0.Kind != 0)), (16, B3 (p0.Kind != 0)), (17, .cnd [p0.Kind != 0] (B9 0 0)), (18, .cnd [p0.Kind != 0] (B7 p0.Kind)), (19, .cnd [p0.Kind != 0] (B9 6 2)), (20, .cnd [p0.Kind != 0] (B7 y1.Kind)), (21, .cnd [p0.Kind != 0] (B3 (p0.Kind != y1.Kind))), (22, B3 ((p0.Kind != 0) && (p0.Kind != y1.Kind))), (23, B3 ((p0.Kind != 0) && (p0.Kind != y1.Kind))), (24, .cnd [!((p0.Kind != 0) && (p0.Kind != y1.Kind))] (B9 0 1)), (25, .cnd [!((p0.Kind != 0) && (p0.Kind != y1.Kind))] (F0 p0.Class)), (26, .cnd [!((p0.Kind != 0) && (p0.Kind != y1.Kind))] (.c (Bo (!(bQ p0.Class (⟨#[]⟩ : ByteArray)))))), (27, .cnd [!((p0.Kind != 0) && (p0.Kind != y1.Kind))] (.c (Bo (!(bQ p0.Class (⟨#[]⟩ : ByteArray))))))]) (G2 := [K5 0 p0, I1 1 p1, (6, A9 y1)]) (X2 := [(0, ⟨[], []⟩), (1, ⟨[0], []⟩), (2, ⟨[], []⟩), (3, ⟨[], []⟩), (4, ⟨[], []⟩), (5, ⟨[0], []⟩), (6, ⟨[], []⟩), (7, ⟨[6], []⟩), (8, ⟨[], []⟩), (9, ⟨[], []⟩), (10, ⟨[], []⟩), (11, ⟨[], []⟩), (12, ⟨[0], []⟩), (13, ⟨[], []⟩), (14, ⟨[], []⟩)]) ?_
 refine zE (B9 0 1) ?_
 refine zE (F0 p0.Class) ?_
 refine zE (B5 y1) ?_
 obtain ⟨y2, he, h⟩ := aC h
 refine An [!((p0.Kind != 0) && (p0.Kind != y1.Kind)), (!(bQ p0.Class (⟨#[]⟩ : ByteArray)))] fok89 (fun hg => vZ n _ y2 (bR he hg)) ?_
 clear he
 refine zE (B3 (!(bQ p0.Class y2))) ?_
 refine zn (L2 := [(2, D6 p2), A6 3 p3, I7, O3, A1 9 6 0, A1 13 0 0, A6 14 p0.Kind, (15, B3 (p0.Kind != 0)), (16, B3 (p0.Kind != 0)), (17, .cnd [p0.Kind != 0] (B9 0 0)), (18, .cnd [p0.Kind != 0] (B7 p0.Kind)), (19, .cnd [p0.Kind != 0] (B9 6 2)), (20, .cnd [p0.Kind != 0] (B7 y1.Kind)), (21, .cnd [p0.Kind != 0] (B3 (p0.Kind != y1.Kind))), (22, B3 ((p0.Kind != 0) && (p0.Kind != y1.Kind))), (23, B3 ((p0.Kind != 0) && (p0.Kind != y1.Kind))), (24, .cnd [!((p0.Kind != 0) && (p0.Kind != y1.Kind))] (B9 0 1)), (25, .cnd [!((p0.Kind != 0) && (p0.Kind != y1.Kind))] (F0 p0.Class)), (26, .cnd [!((p0.Kind != 0) && (p0.Kind != y1.Kind))] (.c (Bo (!(bQ p0.Class (⟨#[]⟩ : ByteArray)))))), (27, .cnd [!((p0.Kind != 0) && (p0.Kind != y1.Kind))] (.c (Bo (!(bQ p0.Class (⟨#[]⟩ : ByteArray)))))), (28, .cnd [!((p0.Kind != 0) && (p0.Kind != y1.Kind)), (!(bQ p0.Class (⟨#[]⟩ : ByteArray)))] (B9 0 1)), (29, .cnd [!((p0.Kind != 0) && (p0.Kind != y1.Kind)), (!(bQ p0.Class (⟨#[]⟩ : ByteArray)))] (F0 p0.Class)), (30, .cnd [!((p0.Kind != 0) && (p0.Kind != y1.Kind)), (!(bQ p0.Class (⟨#[]⟩ : ByteArray)))] (B5 y1)), (31, .cnd [!((p0.Kind != 0) && (p0.Kind != y1.Kind)), (!(bQ p0.Class (⟨#[]⟩ : ByteArray)))] (F0 y2)), (32, .cnd [!((p0.Kind != 0) && (p0.Kind != y1.Kind)), (!(bQ p0.Class (⟨#[]⟩ : ByteArray)))] (B3 (!(bQ p0.Class y2))))]) (G2 := [K5 0 p0, I1 1 p1, (6, A9 y1)]) (X2 := [(0, ⟨[], []⟩), (1, ⟨[0], []⟩), (2, ⟨[], []⟩), (3, ⟨[], []⟩), (4, ⟨[], []⟩), (5, ⟨[0], []⟩), (6, ⟨[], []⟩), (7, ⟨[6], []⟩), (8, ⟨[], []⟩), (9, ⟨[], []⟩), (10, ⟨[], []⟩), (11, ⟨[], []⟩), (12, ⟨[0], []⟩), (13, ⟨[], []⟩), (14, ⟨[], []⟩), (15, ⟨[], []⟩), (16, ⟨[0], []⟩), (17, ⟨[6], []⟩), (18, ⟨[], []⟩), (19, ⟨[], []⟩)]) ?_
 refine zP (.bool ((!(bQ p0.Class (⟨#[]⟩ : ByteArray))) && (!(bQ p0.Class y2)))) ?_
 refine zP (.bool (((p0.Kind != 0) && (p0.Kind != y1.Kind)) || ((!(bQ p0.Class (⟨#[]⟩ : ByteArray))) && (!(bQ p0.Class y2))))) ?_
 refine zk 1 ?_
 refine zE (D6 p2) ?_
 refine zE (B7 p3) ?_
 refine zn (L2 := [(2, D6 p2), A6 3 p3, I7, O3, A1 9 6 0, A1 13 0 0, A6 14 p0.Kind, (15, B3 (p0.Kind != 0)), (16, B3 (p0.Kind != 0)), (17, .cnd [p0.Kind != 0] (B9 0 0)), (18, .cnd [p0.Kind != 0] (B7 p0.Kind)), (19, .cnd [p0.Kind != 0] (B9 6 2)), (20, .cnd [p0.Kind != 0] (B7 y1.Kind)), (21, .cnd [p0.Kind != 0] (B3 (p0.Kind != y1.Kind))), (22, B3 ((p0.Kind != 0) && (p0.Kind != y1.Kind))), (23, B3 ((p0.Kind != 0) && (p0.Kind != y1.Kind))), (24, .cnd [!((p0.Kind != 0) && (p0.Kind != y1.Kind))] (B9 0 1)), (25, .cnd [!((p0.Kind != 0) && (p0.Kind != y1.Kind))] (F0 p0.Class)), (26, .cnd [!((p0.Kind != 0) && (p0.Kind != y1.Kind))] (.c (Bo (!(bQ p0.Class (⟨#[]⟩ : ByteArray)))))), (27, .cnd [!((p0.Kind != 0) && (p0.Kind != y1.Kind))] (.c (Bo (!(bQ p0.Class (⟨#[]⟩ : ByteArray)))))), (28, .cnd [!((p0.Kind != 0) && (p0.Kind != y1.Kind)), (!(bQ p0.Class (⟨#[]⟩ : ByteArray)))] (B9 0 1)), (29, .cnd [!((p0.Kind != 0) && (p0.Kind != y1.Kind)), (!(bQ p0.Class (⟨#[]⟩ : ByteArray)))] (F0 p0.Class)), (30, .cnd [!((p0.Kind != 0) && (p0.Kind != y1.Kind)), (!(bQ p0.Class (⟨#[]⟩ : ByteArray)))] (B5 y1)), (31, .cnd [!((p0.Kind != 0) && (p0.Kind != y1.Kind)), (!(bQ p0.Class (⟨#[]⟩ : ByteArray)))] (F0 y2)), (32, .cnd [!((p0.Kind != 0) && (p0.Kind != y1.Kind)), (!(bQ p0.Class (⟨#[]⟩ : ByteArray)))] (B3 (!(bQ p0.Class y2)))), (33, .cnd [!((p0.Kind != 0) && (p0.Kind != y1.Kind))] (.c (Bo ((!(bQ p0.Class (⟨#[]⟩ : ByteArray))) && (!(bQ p0.Class y2)))))), (34, .c (Bo (((p0.Kind != 0) && (p0.Kind != y1.Kind)) || ((!(bQ p0.Class (⟨#[]⟩ : ByteArray))) && (!(bQ p0.Class y2)))))), (35, .c (Bo (((p0.Kind != 0) && (p0.Kind != y1.Kind)) || ((!(bQ p0.Class (⟨#[]⟩ : ByteArray))) && (!(bQ p0.Class y2)))))), (36, .cnd [(!(((p0.Kind != 0) && (p0.Kind != y1.Kind)) || ((!(bQ p0.Class (⟨#[]⟩ : ByteArray))) && (!(bQ p0.Class y2)))))] (D6 p2)), (37, .cnd [(!(((p0.Kind != 0) && (p0.Kind != y1.Kind)) || ((!(bQ p0.Class (⟨#[]⟩ : ByteArray))) && (!(bQ p0.Class y2)))))] (B7 p3))]) (G2 := [K5 0 p0, I1 1 p1, (6, A9 y1)]) (X2 := [(0, ⟨[], []⟩), (1, ⟨[0], []⟩), (2, ⟨[], []⟩), (3, ⟨[], []⟩), (4, ⟨[], []⟩), (5, ⟨[0], []⟩), (6, ⟨[], []⟩), (7, ⟨[6], []⟩), (8, ⟨[], []⟩), (9, ⟨[], []⟩), (10, ⟨[], []⟩), (11, ⟨[], []⟩), (12, ⟨[0], []⟩), (13, ⟨[], []⟩), (14, ⟨[], []⟩), (15, ⟨[], []⟩), (16, ⟨[0], []⟩), (17, ⟨[6], []⟩), (18, ⟨[], []⟩), (19, ⟨[], []⟩), (20, ⟨[], []⟩), (21, ⟨[], []⟩), (22, ⟨[], []⟩), (23, ⟨[], []⟩), (24, ⟨[], []⟩)]) ?_
 obtain ⟨y3, he, h⟩ := aC h
 refine An [(!(((p0.Kind != 0) && (p0.Kind != y1.Kind)) || ((!(bQ p0.Class (⟨#[]⟩ : ByteArray))) && (!(bQ p0.Class y2)))))] fok90 (fun hg => Cx n _ _ y3 (bR he hg)) ?_
 clear he
 refine zE (B9 0 2) ?_
 refine zE (B7 p0.States) ?_
 refine zE (B7 (O4 y3 p0.States)) ?_
 refine zE (B9 0 2) ?_
 refine zn (L2 := [(2, D6 p2), A6 3 p3, I7, O3, A1 9 6 0, A1 13 0 0, A6 14 p0.Kind, (15, B3 (p0.Kind != 0)), (16, B3 (p0.Kind != 0)), (17, .cnd [p0.Kind != 0] (B9 0 0)), (18, .cnd [p0.Kind != 0] (B7 p0.Kind)), (19, .cnd [p0.Kind != 0] (B9 6 2)), (20, .cnd [p0.Kind != 0] (B7 y1.Kind)), (21, .cnd [p0.Kind != 0] (B3 (p0.Kind != y1.Kind))), (22, B3 ((p0.Kind != 0) && (p0.Kind != y1.Kind))), (23, B3 ((p0.Kind != 0) && (p0.Kind != y1.Kind))), (24, .cnd [!((p0.Kind != 0) && (p0.Kind != y1.Kind))] (B9 0 1)), (25, .cnd [!((p0.Kind != 0) && (p0.Kind != y1.Kind))] (F0 p0.Class)), (26, .cnd [!((p0.Kind != 0) && (p0.Kind != y1.Kind))] (.c (Bo (!(bQ p0.Class (⟨#[]⟩ : ByteArray)))))), (27, .cnd [!((p0.Kind != 0) && (p0.Kind != y1.Kind))] (.c (Bo (!(bQ p0.Class (⟨#[]⟩ : ByteArray)))))), (28, .cnd [!((p0.Kind != 0) && (p0.Kind != y1.Kind)), (!(bQ p0.Class (⟨#[]⟩ : ByteArray)))] (B9 0 1)), (29, .cnd [!((p0.Kind != 0) && (p0.Kind != y1.Kind)), (!(bQ p0.Class (⟨#[]⟩ : ByteArray)))] (F0 p0.Class)), (30, .cnd [!((p0.Kind != 0) && (p0.Kind != y1.Kind)), (!(bQ p0.Class (⟨#[]⟩ : ByteArray)))] (B5 y1)), (31, .cnd [!((p0.Kind != 0) && (p0.Kind != y1.Kind)), (!(bQ p0.Class (⟨#[]⟩ : ByteArray)))] (F0 y2)), (32, .cnd [!((p0.Kind != 0) && (p0.Kind != y1.Kind)), (!(bQ p0.Class (⟨#[]⟩ : ByteArray)))] (B3 (!(bQ p0.Class y2)))), (33, .cnd [!((p0.Kind != 0) && (p0.Kind != y1.Kind))] (.c (Bo ((!(bQ p0.Class (⟨#[]⟩ : ByteArray))) && (!(bQ p0.Class y2)))))), (34, .c (Bo (((p0.Kind != 0) && (p0.Kind != y1.Kind)) || ((!(bQ p0.Class (⟨#[]⟩ : ByteArray))) && (!(bQ p0.Class y2)))))), (35, .c (Bo (((p0.Kind != 0) && (p0.Kind != y1.Kind)) || ((!(bQ p0.Class (⟨#[]⟩ : ByteArray))) && (!(bQ p0.Class y2)))))), (36, .cnd [(!(((p0.Kind != 0) && (p0.Kind != y1.Kind)) || ((!(bQ p0.Class (⟨#[]⟩ : ByteArray))) && (!(bQ p0.Class y2)))))] (D6 p2)), (37, .cnd [(!(((p0.Kind != 0) && (p0.Kind != y1.Kind)) || ((!(bQ p0.Class (⟨#[]⟩ : ByteArray))) && (!(bQ p0.Class y2)))))] (B7 p3)), (38, .cnd [(!(((p0.Kind != 0) && (p0.Kind != y1.Kind)) || ((!(bQ p0.Class (⟨#[]⟩ : ByteArray))) && (!(bQ p0.Class y2)))))] (B7 y3)), (39, .cnd [(!(((p0.Kind != 0) && (p0.Kind != y1.Kind)) || ((!(bQ p0.Class (⟨#[]⟩ : ByteArray))) && (!(bQ p0.Class y2)))))] (B9 0 2)), (40, .cnd [(!(((p0.Kind != 0) && (p0.Kind != y1.Kind)) || ((!(bQ p0.Class (⟨#[]⟩ : ByteArray))) && (!(bQ p0.Class y2)))))] (B7 p0.States)), (41, .cnd [(!(((p0.Kind != 0) && (p0.Kind != y1.Kind)) || ((!(bQ p0.Class (⟨#[]⟩ : ByteArray))) && (!(bQ p0.Class y2)))))] (B7 (O4 y3 p0.States))), (42, .cnd [(!(((p0.Kind != 0) && (p0.Kind != y1.Kind)) || ((!(bQ p0.Class (⟨#[]⟩ : ByteArray))) && (!(bQ p0.Class y2)))))] (B9 0 2))]) (G2 := [K5 0 p0, I1 1 p1, (6, A9 y1)]) (X2 := [(0, ⟨[], []⟩), (1, ⟨[0], []⟩), (2, ⟨[], []⟩), (3, ⟨[], []⟩), (4, ⟨[], []⟩), (5, ⟨[0], []⟩), (6, ⟨[], []⟩), (7, ⟨[6], []⟩), (8, ⟨[], []⟩), (9, ⟨[], []⟩), (10, ⟨[], []⟩), (11, ⟨[], []⟩), (12, ⟨[0], []⟩), (13, ⟨[], []⟩), (14, ⟨[], []⟩), (15, ⟨[], []⟩), (16, ⟨[0], []⟩), (17, ⟨[6], []⟩), (18, ⟨[], []⟩), (19, ⟨[], []⟩), (20, ⟨[], []⟩), (21, ⟨[], []⟩), (22, ⟨[], []⟩), (23, ⟨[], []⟩), (24, ⟨[], []⟩), (25, ⟨[], []⟩), (26, ⟨[], []⟩), (27, ⟨[0], []⟩), (28, ⟨[], []⟩), (29, ⟨[], []⟩)]) ?_
 refine zE (B7 p0.States) ?_
 refine zE (B3 ((O4 y3 p0.States) != p0.States)) ?_
 refine zP (.bool ((((p0.Kind != 0) && (p0.Kind != y1.Kind)) || ((!(bQ p0.Class (⟨#[]⟩ : ByteArray))) && (!(bQ p0.Class y2)))) || ((O4 y3 p0.States) != p0.States))) ?_
 refine ze [4, 5, 9, 45] ?_
 refine zi h (fun h => ?_) fun h => ?_
 refine za [8] ?_
 cases h
 exact aD zr
 refine aB ?_
 refine aI ?_
 refine zx fun _ => ?_
 refine zk 4 ?_
 refine zE (B9 0 4) ?_
 refine zn (L2 := [I7, O3, A1 9 6 0, (45, .c (Bo ((((p0.Kind != 0) && (p0.Kind != y1.Kind)) || ((!(bQ p0.Class (⟨#[]⟩ : ByteArray))) && (!(bQ p0.Class y2)))) || ((O4 y3 p0.States) != p0.States)))), A1 46 0 3, A6 47 p0.UnderKind, (48, B3 (p0.UnderKind == 0)), (49, B3 (p0.UnderKind == 0)), (50, .cnd [p0.UnderKind == 0] (B9 0 4))]) (G2 := [K5 0 p0, I1 1 p1, (6, A9 y1)]) (X2 := []) ?_
 refine zE (F0 p0.UnderClass) ?_
 refine zE (.c (Bo (bQ p0.UnderClass (⟨#[]⟩ : ByteArray)))) ?_
 refine zP (.bool ((p0.UnderKind == 0) && (bQ p0.UnderClass (⟨#[]⟩ : ByteArray)))) ?_
 refine ze [4, 5, 9, 53] ?_
 refine zi h (fun h => ?_) fun h => ?_
 refine za [8] ?_
 cases h
 exact aD zr
 refine aB ?_
 refine aQ h (fun A j => ∀ u, j u = some r → A (N7)) (fun u h => ?_) (fun j4 Aj4 hj4 h => ?_)
 refine za [8] ?_
 cases h
 exact aD zr
 refine aG ?_
 refine bA (fun n s => ∃ v7 v8 v9 v10 v11 v12 v13, eY p1 p0 j4 n v7 v8 v9 v10 v11 v12 v13 = some r ∧ s = mk [I7, O3, A1 9 2 0] [K5 0 p0, I1 1 p1, (2, K0 v7 v8 v9 v10 v11 v12 v13)] 3) n _ (zv [(0, 0), (1, 1), (6, 2)] [4, 5, 9] 3) ⟨_, _, _, _, _, _, _, h, rfl⟩ (fun s ⟨v7, v8, v9, v10, v11, v12, v13, h, _⟩ => nomatch h) ?_
 rintro n s ⟨v7, v8, v9, v10, v11, v12, v13, h, rfl⟩
 rw [eY] at h
 refine aI ?_
 refine za [4, 5, 9, 56] ?_
 refine zi h (fun h => ?_) fun h => ?_
 refine aB ?_
 refine aG ?_
 refine zx fun _ => ?_
 refine zk 3 ?_
 obtain ⟨y14, he, h⟩ := aC h
 refine zc Mg (mZ n _ _ y14 he) ?_
 clear he
 refine zk 1 ?_
 refine ze [4, 5, 9] ?_
 refine xI [[], [0], [1, 0], [2, 1, 0], [3, 2, 1, 0], [4, 3, 2, 1, 0], [3, 2, 1, 0], [6, 3, 2, 1, 0], [5, 7, 3, 4, 2, 1, 0, 6], [3, 8, 2, 1, 0, 5, 7, 4, 6], [9, 3, 8, 2, 1, 0, 5, 7, 4, 6], [10, 9, 3, 8, 2, 1, 0, 5, 7, 4, 6], [11, 10, 9, 3, 8, 2, 1, 0, 5, 7, 4, 6], [12, 10, 11, 9, 3, 8, 2, 1, 0, 5, 7, 4, 6], [13, 10, 12, 11, 9, 3, 8, 2, 1, 0, 5, 7, 4, 6], [14, 13, 10, 12, 11, 9, 3, 8, 2, 1, 0, 5, 7, 4, 6], [15, 14, 13, 10, 12, 11, 9, 3, 8, 2, 1, 0, 5, 7, 4, 6], [14, 13, 10, 12, 11, 9, 3, 8, 2, 1, 0, 5, 7, 4, 6], [17, 14, 13, 10, 12, 11, 9, 3, 8, 2, 1, 0, 5, 7, 4, 6], [16, 18, 14, 15, 13, 10, 12, 11, 9, 3, 8, 2, 1, 0, 5, 7, 4, 6, 17], [14, 19, 10, 13, 12, 11, 9, 3, 8, 2, 1, 0, 5, 7, 4, 6, 16, 18, 15, 17], [10, 20, 9, 3, 8, 2, 1, 0, 5, 7, 4, 6, 14, 19, 13, 12, 11, 16, 18, 15, 17]] fun _ => ?_
 refine zk 4 ?_
 refine zE (B9 0 3) ?_
 refine zn (L2 := [I7, O3, A1 9 2 0, A1 61 0 3, A6 62 p0.UnderKind, (63, B3 (p0.UnderKind == 0)), (64, B3 (p0.UnderKind == 0)), (65, .cnd [!(p0.UnderKind == 0)] (B9 0 3))]) (G2 := [K5 0 p0, I1 1 p1, (2, A9 y14)]) (X2 := [(0, ⟨[], []⟩), (1, ⟨[0], []⟩), (2, ⟨[], []⟩), (3, ⟨[], []⟩), (4, ⟨[], []⟩)]) ?_
 refine zE (B7 p0.UnderKind) ?_
 refine zE (B9 2 2) ?_
 refine zE (B7 y14.Kind) ?_
 refine zE (B3 (p0.UnderKind == y14.Kind)) ?_
 refine zP (.bool ((p0.UnderKind == 0) || (p0.UnderKind == y14.Kind))) ?_
 refine zn (L2 := [I7, O3, A1 9 2 0, A1 61 0 3, A6 62 p0.UnderKind, (63, B3 (p0.UnderKind == 0)), (64, B3 (p0.UnderKind == 0)), (65, .cnd [!(p0.UnderKind == 0)] (B9 0 3)), (66, .cnd [!(p0.UnderKind == 0)] (B7 p0.UnderKind)), (67, .cnd [!(p0.UnderKind == 0)] (B9 2 2)), (68, .cnd [!(p0.UnderKind == 0)] (B7 y14.Kind)), (69, .cnd [!(p0.UnderKind == 0)] (B3 (p0.UnderKind == y14.Kind))), (70, B3 ((p0.UnderKind == 0) || (p0.UnderKind == y14.Kind)))]) (G2 := [K5 0 p0, I1 1 p1, (2, A9 y14)]) (X2 := [(0, ⟨[], []⟩), (1, ⟨[0], []⟩), (2, ⟨[], []⟩), (3, ⟨[], []⟩), (4, ⟨[], []⟩), (5, ⟨[0], []⟩), (6, ⟨[], []⟩), (7, ⟨[2], []⟩), (8, ⟨[], []⟩), (9, ⟨[], []⟩)]) ?_
 refine zk 1 ?_
 refine zE (B9 0 4) ?_
 refine zE (F0 p0.UnderClass) ?_
 refine zE (.c (Bo (bQ p0.UnderClass (⟨#[]⟩ : ByteArray)))) ?_
 refine zF [(p0.UnderKind == 0) || (p0.UnderKind == y14.Kind)] (.c (Bo (bQ p0.UnderClass (⟨#[]⟩ : ByteArray)))) ?_
 refine zn (L2 := [I7, O3, A1 9 2 0, A1 61 0 3, A6 62 p0.UnderKind, (63, B3 (p0.UnderKind == 0)), (64, B3 (p0.UnderKind == 0)), (65, .cnd [!(p0.UnderKind == 0)] (B9 0 3)), (66, .cnd [!(p0.UnderKind == 0)] (B7 p0.UnderKind)), (67, .cnd [!(p0.UnderKind == 0)] (B9 2 2)), (68, .cnd [!(p0.UnderKind == 0)] (B7 y14.Kind)), (69, .cnd [!(p0.UnderKind == 0)] (B3 (p0.UnderKind == y14.Kind))), (70, B3 ((p0.UnderKind == 0) || (p0.UnderKind == y14.Kind))), (71, B3 ((p0.UnderKind == 0) || (p0.UnderKind == y14.Kind))), (72, .cnd [(p0.UnderKind == 0) || (p0.UnderKind == y14.Kind)] (B9 0 4)), (73, .cnd [(p0.UnderKind == 0) || (p0.UnderKind == y14.Kind)] (F0 p0.UnderClass)), (74, .cnd [(p0.UnderKind == 0) || (p0.UnderKind == y14.Kind)] (.c (Bo (bQ p0.UnderClass (⟨#[]⟩ : ByteArray))))), (75, .cnd [(p0.UnderKind == 0) || (p0.UnderKind == y14.Kind)] (.c (Bo (bQ p0.UnderClass (⟨#[]⟩ : ByteArray)))))]) (G2 := [K5 0 p0, I1 1 p1, (2, A9 y14)]) (X2 := [(0, ⟨[], []⟩), (1, ⟨[0], []⟩), (2, ⟨[], []⟩), (3, ⟨[], []⟩), (4, ⟨[], []⟩), (5, ⟨[0], []⟩), (6, ⟨[], []⟩), (7, ⟨[2], []⟩), (8, ⟨[], []⟩), (9, ⟨[], []⟩), (10, ⟨[], []⟩), (11, ⟨[], []⟩), (12, ⟨[0], []⟩), (13, ⟨[], []⟩), (14, ⟨[], []⟩)]) ?_
 refine zE (B9 0 4) ?_
 refine zE (F0 p0.UnderClass) ?_
 refine zE (B5 y14) ?_
 obtain ⟨y15, he, h⟩ := aC h
 refine An [(p0.UnderKind == 0) || (p0.UnderKind == y14.Kind), (!(bQ p0.UnderClass (⟨#[]⟩ : ByteArray)))] fok89 (fun hg => vZ n _ y15 (bR he hg)) ?_
 clear he
 refine zE (B3 (bQ p0.UnderClass y15)) ?_
 refine zn (L2 := [I7, O3, A1 9 2 0, A1 61 0 3, A6 62 p0.UnderKind, (63, B3 (p0.UnderKind == 0)), (64, B3 (p0.UnderKind == 0)), (65, .cnd [!(p0.UnderKind == 0)] (B9 0 3)), (66, .cnd [!(p0.UnderKind == 0)] (B7 p0.UnderKind)), (67, .cnd [!(p0.UnderKind == 0)] (B9 2 2)), (68, .cnd [!(p0.UnderKind == 0)] (B7 y14.Kind)), (69, .cnd [!(p0.UnderKind == 0)] (B3 (p0.UnderKind == y14.Kind))), (70, B3 ((p0.UnderKind == 0) || (p0.UnderKind == y14.Kind))), (71, B3 ((p0.UnderKind == 0) || (p0.UnderKind == y14.Kind))), (72, .cnd [(p0.UnderKind == 0) || (p0.UnderKind == y14.Kind)] (B9 0 4)), (73, .cnd [(p0.UnderKind == 0) || (p0.UnderKind == y14.Kind)] (F0 p0.UnderClass)), (74, .cnd [(p0.UnderKind == 0) || (p0.UnderKind == y14.Kind)] (.c (Bo (bQ p0.UnderClass (⟨#[]⟩ : ByteArray))))), (75, .cnd [(p0.UnderKind == 0) || (p0.UnderKind == y14.Kind)] (.c (Bo (bQ p0.UnderClass (⟨#[]⟩ : ByteArray))))), (76, .cnd [(p0.UnderKind == 0) || (p0.UnderKind == y14.Kind), (!(bQ p0.UnderClass (⟨#[]⟩ : ByteArray)))] (B9 0 4)), (77, .cnd [(p0.UnderKind == 0) || (p0.UnderKind == y14.Kind), (!(bQ p0.UnderClass (⟨#[]⟩ : ByteArray)))] (F0 p0.UnderClass)), (78, .cnd [(p0.UnderKind == 0) || (p0.UnderKind == y14.Kind), (!(bQ p0.UnderClass (⟨#[]⟩ : ByteArray)))] (B5 y14)), (79, .cnd [(p0.UnderKind == 0) || (p0.UnderKind == y14.Kind), (!(bQ p0.UnderClass (⟨#[]⟩ : ByteArray)))] (F0 y15)), (80, .cnd [(p0.UnderKind == 0) || (p0.UnderKind == y14.Kind), (!(bQ p0.UnderClass (⟨#[]⟩ : ByteArray)))] (B3 (bQ p0.UnderClass y15)))]) (G2 := [K5 0 p0, I1 1 p1, (2, A9 y14)]) (X2 := [(0, ⟨[], []⟩), (1, ⟨[0], []⟩), (2, ⟨[], []⟩), (3, ⟨[], []⟩), (4, ⟨[], []⟩), (5, ⟨[0], []⟩), (6, ⟨[], []⟩), (7, ⟨[2], []⟩), (8, ⟨[], []⟩), (9, ⟨[], []⟩), (10, ⟨[], []⟩), (11, ⟨[], []⟩), (12, ⟨[0], []⟩), (13, ⟨[], []⟩), (14, ⟨[], []⟩), (15, ⟨[], []⟩), (16, ⟨[0], []⟩), (17, ⟨[2], []⟩), (18, ⟨[], []⟩), (19, ⟨[], []⟩)]) ?_
 refine zP (.bool ((bQ p0.UnderClass (⟨#[]⟩ : ByteArray)) || (bQ p0.UnderClass y15))) ?_
 refine zP (.bool (((p0.UnderKind == 0) || (p0.UnderKind == y14.Kind)) && ((bQ p0.UnderClass (⟨#[]⟩ : ByteArray)) || (bQ p0.UnderClass y15)))) ?_
 refine ze [4, 5, 9, 82] ?_
 refine zi h (fun h => ?_) fun h => ?_
 refine za [8] ?_
 cases h
 exact aD zr
 exact aH (zv [(0, 0), (1, 1), (2, 2)] [4, 5, 9] 3) (aB (⟨_, _, _, _, _, _, _, h, rfl⟩))
 exact aH (zv [] [] 0) (bG (hj4 _ h))
def hO (p0 : bS) (p2 : ByteArray) (p1 : cQ) (j1 : Unit → Option (Int × Bool)) : Nat → Int → Option (Int × Bool)
 | 0, _ => none
 | n + 1, v3 => (if (decide (v3 < (List.length p0.Tokens : Int))) = true then (idx p0.Tokens v3).bind fun (e4 : dL) => (if (!(bQ e4.Name p2)) = true then hO p0 p2 p1 j1 n (IntKind.wrap .i64 (v3 + 1)) else (if (p1.High && p1.Dark) = true then some (e4.HighDark, true) else (if p1.High = true then some (e4.HighLight, true) else (if p1.Dark = true then some (e4.Dark, true) else some (e4.Light, true))))) else j1 ())
def oA  (n : Nat) (p0 : bS) (p1 : cQ) (p2 : ByteArray) : Option (Int × Bool) := (aS (fun (_ : Unit) => some (0, false)) (fun (j1 : Unit → Option (Int × Bool)) => hO p0 p2 p1 j1 n 0))
theorem Da  (n : Nat) (p0 : bS) (p1 : cQ) (p2 : ByteArray) (r : (Int × Bool)) (h : oA n p0 p1 p2 = some r) : cW E 84 0 [.agg [F8 p0.Tokens], F9 p1, F0 p2] [] (.tup [B7 r.1, B3 r.2]) [] := by
 refine eV Tryz.func84 rfl ?_
 unfold oA at h
 refine za [2, 3, 4] ?_
 refine aQ h (fun A j => ∀ u, j u = some r → A (N7)) (fun u h => ?_) (fun j1 Aj1 hj1 h => ?_)
 refine za [6, 7] ?_
 cases h
 exact aD zr
 refine za [2, 3, 4, 8] ?_
 refine aG ?_
 refine bA (fun n s => ∃ v3, hO p0 p2 p1 j1 n v3 = some r ∧ s = mk [(2, F0 p2), I6, H8, A6 8 v3] [(0, D8 p0.Tokens), (1, C6 p1)] 2) n _ (zv [(0, 0), (1, 1)] [2, 3, 4, 8] 2) ⟨_, h, rfl⟩ (fun s ⟨v3, h, _⟩ => nomatch h) ?_
 rintro n s ⟨v3, h, rfl⟩
 rw [hO] at h
 refine aI ?_
 refine zx fun _ => ?_
 refine zk 3 ?_
 refine zl bH p0.Tokens ?_
 refine zk 1 ?_
 refine ze [2, 3, 4, 8, 14] ?_
 refine zi h (fun h => ?_) fun h => ?_
 refine aB ?_
 refine aI ?_
 refine aG ?_
 refine zx fun _ => ?_
 refine zk 3 ?_
 obtain ⟨e4, he, h⟩ := aC h
 refine zd bH he ?_
 clear he
 refine zk 3 ?_
 refine ze [2, 3, 4, 8, 9] ?_
 refine aI ?_
 refine za [2, 3, 4, 8, 9, 25] ?_
 refine zi h (fun h => ?_) fun h => ?_
 refine bG ?_
 refine aW ?_
 refine zb ?_
 exact dF (zv [(0, 0), (1, 1)] [2, 3, 4, 8] 2) (⟨_, h, rfl⟩)
 refine aB ?_
 refine aI ?_
 refine aG ?_
 refine zx fun _ => ?_
 refine zk 3 ?_
 refine zE (B9 1 0) ?_
 refine zE (B3 p1.Dark) ?_
 refine zP (.bool (p1.High && p1.Dark)) ?_
 refine zk 1 ?_
 refine jY [4, 9, 26] (L2 := [H8, A1 9 12 0, (26, B3 (p1.High && p1.Dark))]) (G2 := [(0, D8 p0.Tokens), (1, C6 p1), (12, H4 e4)]) 25 ?_
 refine zi h (fun h => ?_) fun h => ?_
 refine za [6, 7] ?_
 cases h
 exact aD zr
 refine za [4, 9, 35] ?_
 refine zi h (fun h => ?_) fun h => ?_
 refine za [6, 7] ?_
 cases h
 exact aD zr
 refine za [9, 40] ?_
 refine zi h (fun h => ?_) fun h => ?_
 refine za [6, 7] ?_
 cases h
 exact aD zr
 refine aB ?_
 refine za [6, 7] ?_
 cases h
 exact aD zr
 exact aH (zv [] [] 0) (bG (hj1 _ h))
def kC  (n : Nat) (p0 : Int) (p1 : Int) (p2 : Int) : Option Int := (if ((decide (p0 < p1)) || (decide (p2 < p1))) = true then some p1 else (if (decide (p0 > p2)) = true then some p2 else some p0))
theorem wI  (n : Nat) (p0 : Int) (p1 : Int) (p2 : Int) (r : Int) (h : kC n p0 p1 p2 = some r) : cW E 111 0 [B7 p0, B7 p1, B7 p2] [] (B7 r) [] := by
 refine eV Tryz.func111 rfl ?_
 unfold kC at h
 refine za [0, 1, 2] ?_
 refine aI ?_
 refine zx fun _ => ?_
 refine zk 4 ?_
 refine zE (B7 p2) ?_
 refine zE (B7 p1) ?_
 refine zE (H9 p2 p1) ?_
 refine zP (.bool ((C1 p0 p1) || (C1 p2 p1))) ?_
 refine ze [0, 1, 2, 14] ?_
 refine zi h (fun h => ?_) fun h => ?_
 refine za [6] ?_
 cases h
 exact aD zr
 refine aB ?_
 refine aI ?_
 refine za [0, 2, 18] ?_
 refine zi h (fun h => ?_) fun h => ?_
 refine za [6] ?_
 cases h
 exact aD zr
 refine aB ?_
 refine za [6] ?_
 cases h
 exact aD zr
def rS  (n : Nat) (p0 : Int) (p1 : Int) : Option Int := (if (((((p1 == 0) || (decide (p0 < (-1152921504606846976 : Int)))) || (decide (p0 > 1152921504606846976))) || (decide (p1 < (-1152921504606846976 : Int)))) || (decide (p1 > 1152921504606846976))) = true then some 0 else (aS (fun (v2 : Int) (v3 : Int) => (nz v3).bind fun (d4 : Int) => (nz v3).bind fun (d5 : Int) => (aS (fun (v7 : Int) (v8 : Int) => (aS (fun (v10 : Int) => some v10) (fun (j9 : Int → Option Int) => (if (decide (v8 ≥ (IntKind.wrap .i64 (v3 - v8)))) = true then j9 (IntKind.wrap .i64 (v7 + 1)) else j9 v7)))) (fun (j6 : Int → Int → Option Int) => (if (decide ((Int.tmod v2 v3) < 0)) = true then j6 (IntKind.wrap .i64 ((IntKind.wrap .i64 (Int.tdiv v2 v3)) - 1)) (IntKind.wrap .i64 ((Int.tmod v2 v3) + v3)) else j6 (IntKind.wrap .i64 (Int.tdiv v2 v3)) (Int.tmod v2 v3))))) (fun (j1 : Int → Int → Option Int) => (if (decide (p1 < 0)) = true then j1 (IntKind.wrap .i64 (0 - p0)) (IntKind.wrap .i64 (0 - p1)) else j1 p0 p1))))
theorem Fu  (n : Nat) (p0 : Int) (p1 : Int) (r : Int) (h : rS n p0 p1 = some r) : cW E 128 0 [B7 p0, B7 p1] [] (B7 r) [] := by
 refine eV Tryz.func128 rfl ?_
 unfold rS at h
 refine za [0, 1] ?_
 refine aI ?_
 refine zx fun _ => ?_
 refine zk 3 ?_
 refine zE (B7 p0) ?_
 refine zE (.c (Bo (decide (p0 < (-1152921504606846976 : Int))))) ?_
 refine zP (.bool ((p1 == 0) || (decide (p0 < (-1152921504606846976 : Int))))) ?_
 refine zk 1 ?_
 refine zE (B7 p0) ?_
 refine zE (J5 p0 1152921504606846976) ?_
 refine zP (.bool (((p1 == 0) || (decide (p0 < (-1152921504606846976 : Int)))) || (P1 p0))) ?_
 refine zk 1 ?_
 refine zE (B7 p1) ?_
 refine zE (.c (Bo (decide (p1 < (-1152921504606846976 : Int))))) ?_
 refine zP (.bool ((((p1 == 0) || (decide (p0 < (-1152921504606846976 : Int)))) || (P1 p0)) || (decide (p1 < (-1152921504606846976 : Int))))) ?_
 refine zk 1 ?_
 refine zE (B7 p1) ?_
 refine zE (J5 p1 1152921504606846976) ?_
 refine zP (.bool (((((p1 == 0) || (decide (p0 < (-1152921504606846976 : Int)))) || (P1 p0)) || (decide (p1 < (-1152921504606846976 : Int)))) || (P1 p1))) ?_
 refine jY [0, 1, 24] (L2 := [A6 0 p0, A6 1 p1, (24, .c (Bo (((((p1 == 0) || (decide (p0 < (-1152921504606846976 : Int)))) || (P1 p0)) || (decide (p1 < (-1152921504606846976 : Int)))) || (P1 p1))))]) (G2 := []) 19 ?_
 refine zi h (fun h => ?_) fun h => ?_
 refine za [4] ?_
 cases h
 exact aD zr
 refine aB ?_
 refine aQ h (fun A j => ∀ v2 v3, j v2 v3 = some r → A (mk [A6 0 v2, A6 1 v3] [] 0)) (fun v2 v3 h => ?_) (fun j1 Aj1 hj1 h => ?_)
 refine zx fun _ => ?_
 refine zk 2 ?_
 obtain ⟨d4, he, h⟩ := aC h
 refine cZ (v := .c (I (IntKind.wrap .i64 (Int.tdiv v2 v3)))) (foot := []) (Zj (k := .i64) (x := v2) (y := v3) he (by kernel_rfl)) (by kernel_rfl) rfl rfl ?_
 clear he
 refine zk 1 ?_
 refine ze [0, 1, 5] ?_
 refine zx fun _ => ?_
 refine zk 2 ?_
 obtain ⟨d5, he, h⟩ := aC h
 refine cZ (v := .c (I (Int.tmod v2 v3))) (foot := []) (Qj (k := .i64) (x := v2) (y := v3) he (by kernel_rfl)) (by kernel_rfl) rfl rfl ?_
 clear he
 refine zk 1 ?_
 refine ze [1, 5, 6] ?_
 refine aQ h (fun A j => ∀ v7 v8, j v7 v8 = some r → A (mk [A6 1 v3, A6 5 v7, A6 6 v8] [] 0)) (fun v7 v8 h => ?_) (fun j6 Aj6 hj6 h => ?_)
 refine aQ h (fun A j => ∀ v10, j v10 = some r → A (mk [A6 5 v10] [] 0)) (fun v10 h => ?_) (fun j9 Aj9 hj9 h => ?_)
 refine za [4] ?_
 cases h
 exact aD zr
 refine za [5, 48] ?_
 refine zi h (fun h => ?_) fun h => ?_
 refine aW ?_
 refine zb ?_
 exact dF (zv [] [5] 0) (hj9 _ h)
 exact aH (zv [] [5] 0) (aB (hj9 _ h))
 refine za [1, 5, 6, 38] ?_
 refine zi h (fun h => ?_) fun h => ?_
 refine aW ?_
 refine zb ?_
 exact dF (zv [] [1, 5, 6] 0) (hj6 _ _ h)
 exact aH (zv [] [1, 5, 6] 0) (aB (hj6 _ _ h))
 refine za [0, 1, 26] ?_
 refine zi h (fun h => ?_) fun h => ?_
 refine aW ?_
 refine zb ?_
 exact dF (zv [] [0, 1] 0) (hj1 _ _ h)
 exact aH (zv [] [0, 1] 0) (aB (hj1 _ _ h))
def pI  (n : Nat) (p0 : Int) (p1 : Int) (p2 : Int) : Option (Int × Int) := (if ((((((decide (p0 < (-1099511627776 : Int))) || (decide (p0 > 1099511627776))) || (decide (p1 < 0))) || (decide (p1 > 65536))) || (decide (p2 < 1))) || (decide (p2 > 65536))) = true then some (0, 1) else (rS n (IntKind.wrap .i64 (p0 * p1)) p2).bind fun (y1 : Int) => some (y1, 0))
theorem Fw  (n : Nat) (p0 : Int) (p1 : Int) (p2 : Int) (r : (O6)) (h : pI n p0 p1 p2 = some r) : cW E 112 0 [B7 p0, B7 p1, B7 p2] [] (.tup [B7 r.1, B7 r.2]) [] := by
 refine eV Tryz.func112 rfl ?_
 unfold pI at h
 refine za [0, 1, 2] ?_
 refine aI ?_
 refine zx fun _ => ?_
 refine zk 3 ?_
 refine zE (B7 p0) ?_
 refine zE (B3 (G5 p0)) ?_
 refine zP (.bool ((decide (p0 < (-1099511627776 : Int))) || (G5 p0))) ?_
 refine zk 1 ?_
 refine zE (B7 p1) ?_
 refine zE (H9 p1 0) ?_
 refine zP (.bool (((decide (p0 < (-1099511627776 : Int))) || (G5 p0)) || (C1 p1 0))) ?_
 refine zk 1 ?_
 refine zE (B7 p1) ?_
 refine zE (J5 p1 65536) ?_
 refine zP (.bool ((((decide (p0 < (-1099511627776 : Int))) || (G5 p0)) || (C1 p1 0)) || (D5 p1 65536))) ?_
 refine zk 1 ?_
 refine zE (B7 p2) ?_
 refine zE (H9 p2 1) ?_
 refine zP (.bool (((((decide (p0 < (-1099511627776 : Int))) || (G5 p0)) || (C1 p1 0)) || (D5 p1 65536)) || (C1 p2 1))) ?_
 refine zk 1 ?_
 refine zE (B7 p2) ?_
 refine zE (J5 p2 65536) ?_
 refine zP (.bool ((((((decide (p0 < (-1099511627776 : Int))) || (G5 p0)) || (C1 p1 0)) || (D5 p1 65536)) || (C1 p2 1)) || (D5 p2 65536))) ?_
 refine jY [0, 1, 2, 29] (L2 := [A6 0 p0, A6 1 p1, A6 2 p2, (29, .c (Bo ((((((decide (p0 < (-1099511627776 : Int))) || (G5 p0)) || (C1 p1 0)) || (D5 p1 65536)) || (C1 p2 1)) || (D5 p2 65536))))]) (G2 := []) 24 ?_
 refine zi h (fun h => ?_) fun h => ?_
 refine za [6, 7] ?_
 cases h
 exact aD zr
 refine aB ?_
 refine zx fun _ => ?_
 refine zk 4 ?_
 obtain ⟨y1, he, h⟩ := aC h
 refine zc fok128 (Fu n _ _ y1 he) ?_
 clear he
 refine zk 2 ?_
 refine ze [6, 7] ?_
 cases h
 exact aD zr
def nD  (n : Nat) (p0 : cQ) (p1 : Int) : Option Int := (if ((((decide (p0.Scale < 50)) || (decide (p0.Scale > 400))) || (decide (p1 < 1))) || (decide (p1 > 1000))) = true then (kC n p1 1 1000).bind fun (y1 : Int) => some y1 else (pI n p1 p0.Scale 100).bind fun (y2 : (Int × Int)) => (kC n y2.1 1 1000).bind fun (y3 : Int) => some y3)
theorem Ht  (n : Nat) (p0 : cQ) (p1 : Int) (r : Int) (h : nD n p0 p1 = some r) : cW E 85 0 [F9 p0, B7 p1] [] (B7 r) [] := by
 refine eV Tryz.func85 rfl ?_
 unfold nD at h
 refine za [1, 2] ?_
 refine aI ?_
 refine zx fun _ => ?_
 refine zk 4 ?_
 refine zE (B9 0 2) ?_
 refine zE (B7 p0.Scale) ?_
 refine zE (J5 p0.Scale 400) ?_
 refine zP (.bool (A3 p0.Scale 50 400)) ?_
 refine zk 1 ?_
 refine zE (B7 p1) ?_
 refine zE (H9 p1 1) ?_
 refine zP (.bool ((A3 p0.Scale 50 400) || (C1 p1 1))) ?_
 refine zk 1 ?_
 refine zE (B7 p1) ?_
 refine zE (J5 p1 1000) ?_
 refine zP (.bool (((A3 p0.Scale 50 400) || (C1 p1 1)) || (D5 p1 1000))) ?_
 refine jY [1, 2, 22] (L2 := [A6 1 p1, J0, (22, B3 (((A3 p0.Scale 50 400) || (C1 p1 1)) || (D5 p1 1000)))]) (G2 := [(0, C6 p0)]) 18 ?_
 refine zi h (fun h => ?_) fun h => ?_
 refine zx fun _ => ?_
 refine zk 1 ?_
 obtain ⟨y1, he, h⟩ := aC h
 refine zc Zd (wI n _ _ _ y1 he) ?_
 clear he
 refine zk 1 ?_
 refine ze [4] ?_
 cases h
 exact aD zr
 refine aB ?_
 refine zx fun _ => ?_
 refine zk 3 ?_
 obtain ⟨y2, he, h⟩ := aC h
 refine zc fok112 (Fw n _ _ _ y2 he) ?_
 clear he
 refine zk 5 ?_
 refine ze [5] ?_
 refine zx fun _ => ?_
 refine zk 1 ?_
 obtain ⟨y3, he, h⟩ := aC h
 refine zc Zd (wI n _ _ _ y3 he) ?_
 clear he
 refine zk 1 ?_
 refine ze [4] ?_
 cases h
 exact aD zr
end Go.Proofs.YtojkihhnioeggaaGreatDoor.S
