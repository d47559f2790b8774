import Derived.Test.YtojkihhnioeggaaGreatDoorQMGJ7
set_option linter.unusedVariables false
set_option linter.unusedSimpArgs false
set_option maxRecDepth 100000
set_option maxHeartbeats 4000000
namespace Go.Proofs.YtojkihhnioeggaaGreatDoor.S
open Go Go.Bm
def kB  (n : Nat) (p0 : iN) (p1 : cC) (p2 : Int) : Option Bool := (gd [(p1.Kind != 0)] (some (gN p2 p0.nodes, jF p2 p0.nodes))).bind fun (y1 : (aR × Bool)) => (gd [(!((p1.Kind != 0) && (p1.Kind != y1.1.Kind))), (!(cG p1.Class (⟨#[]⟩ : ByteArray)))] (some (gN p2 p0.class_, jF p2 p0.class_))).bind fun (y2 : (ByteArray × Bool)) => (if (((p1.Kind != 0) && (p1.Kind != y1.1.Kind)) || ((!(cG p1.Class (⟨#[]⟩ : ByteArray))) && (!(cG p1.Class y2.1)))) = true then some false else (some (gN p2 p0.states, jF p2 p0.states)).bind fun (y3 : (Int × Bool)) => (gd [((lQ .i64 y3.1 p1.States) == p1.States)] (mH n p0 p1 p2)).bind fun (y4 : Bool) => some (((lQ .i64 y3.1 p1.States) == p1.States) && y4))
theorem rY  (n : Nat) (p0 : iN) (p1 : cC) (p2 : Int) (r : Bool) (h : kB n p0 p1 p2 = some r) : cN E 51 0 [.agg [.lmap true (List.map (eM (Value.int .i64) aE) p0.nodes), .lmap false (List.map (eM (Value.int .i64) eS) p0.class_), .lmap false (List.map (eM (Value.int .i64) aJ) p0.states)], .agg [I p1.Kind, Sx p1.Class, I p1.States, I p1.UnderKind, Sx p1.UnderClass, .lit (List.map bK p1.Decls)], .c (I p2)] [] (.c (Bo r)) [] := by
 refine fW Tryz.func51 rfl ?_
 unfold kB at h
 refine za [2, 3, 4] ?_
 refine aK ?_
 refine zx fun _ => ?_
 refine zk 4 ?_
 refine zE (.c (.ptr 1 0)) ?_
 refine zE (.c (I p1.Kind)) ?_
 refine zE (.c (.ptr 0 0)) ?_
 refine zn (L2 := [(2, .c (I p2)), (3, .c (.ptr 0 0)), (4, .c (.ptr 1 0)), (7, .c (.ptr 1 0)), (8, .c (I p1.Kind)), (9, .c (Bo (p1.Kind != 0))), (10, .c (Bo (p1.Kind != 0))), (11, .cnd [(p1.Kind != 0)] (.c (.ptr 1 0))), (12, .cnd [(p1.Kind != 0)] (.c (I p1.Kind))), (13, .cnd [(p1.Kind != 0)] (.c (.ptr 0 0)))]) (G2 := [(0, .blk 92 [.lmap true (List.map (eM (Value.int .i64) aE) p0.nodes), .lmap false (List.map (eM (Value.int .i64) eS) p0.class_), .lmap false (List.map (eM (Value.int .i64) aJ) p0.states)]), (1, .blk 63 [I p1.Kind, Sx p1.Class, I p1.States, I p1.UnderKind, Sx p1.UnderClass, .lit (List.map bK p1.Decls)])]) (X2 := []) ?_
 refine zE (.c (.lmap true (List.map (eM (Value.int .i64) aE) p0.nodes))) ?_
 refine zE (.c (I p2)) ?_
 obtain ⟨y1, he, h⟩ := aB h
 refine Da (e := [(p1.Kind != 0)]) [(14, .c (.lmap true (List.map (eM (Value.int .i64) aE) p0.nodes)), some 1), (15, .c (I p2), some 1)] (v := .agg [I y1.1.ID, I y1.1.Parent, I y1.1.Kind, Sx y1.1.Key, .lit (List.map aM y1.1.Attrs), .lit (List.map aD y1.1.Actions), .lit (List.map aJ y1.1.Kids)]) (foot := []) (by kernel_rfl) (by kernel_rfl) (by kernel_rfl) (fun hg => cZ (kf := (Value.int .i64)) (enc := aE) (l := p0.nodes) (k := p2) (ok := false) (kk := .int .i64) (j := ⟨.st [(3, 0, 1), (3, 1, 1), (3, 2, 1), (9, 3, 1), (55, 4, 1), (56, 5, 1), (22, 6, 1)], 7, 112, [.int .i64 0, .int .i64 0, .int .i64 0, .string ⟨#[]⟩, .slice none 0 0, .slice none 0 0, .slice none 0 0]⟩) (p := y1) (v := .agg [I y1.1.ID, I y1.1.Parent, I y1.1.Kind, Sx y1.1.Key, .lit (List.map aM y1.1.Attrs), .lit (List.map aD y1.1.Actions), .lit (List.map aJ y1.1.Kids)]) (bT he hg) (by kernel_rfl) gH (by kernel_rfl) (by kernel_rfl) (by kernel_rfl)) rfl rfl ?_
 clear he
 refine zE (.c (I y1.1.Kind)) ?_
 refine zE (.c (Bo (p1.Kind != y1.1.Kind))) ?_
 refine zn (L2 := [(2, .c (I p2)), (3, .c (.ptr 0 0)), (4, .c (.ptr 1 0)), (7, .c (.ptr 1 0)), (8, .c (I p1.Kind)), (9, .c (Bo (p1.Kind != 0))), (10, .c (Bo (p1.Kind != 0))), (11, .cnd [(p1.Kind != 0)] (.c (.ptr 1 0))), (12, .cnd [(p1.Kind != 0)] (.c (I p1.Kind))), (13, .cnd [(p1.Kind != 0)] (.c (.ptr 0 0))), (14, .cnd [(p1.Kind != 0)] (.c (.lmap true (List.map (eM (Value.int .i64) aE) p0.nodes)))), (15, .cnd [(p1.Kind != 0)] (.c (I p2))), (16, .cnd [(p1.Kind != 0)] (.agg [I y1.1.ID, I y1.1.Parent, I y1.1.Kind, Sx y1.1.Key, .lit (List.map aM y1.1.Attrs), .lit (List.map aD y1.1.Actions), .lit (List.map aJ y1.1.Kids)])), (17, .cnd [(p1.Kind != 0)] (.c (I y1.1.Kind))), (18, .cnd [(p1.Kind != 0)] (.c (Bo (p1.Kind != y1.1.Kind))))]) (G2 := [(0, .blk 92 [.lmap true (List.map (eM (Value.int .i64) aE) p0.nodes), .lmap false (List.map (eM (Value.int .i64) eS) p0.class_), .lmap false (List.map (eM (Value.int .i64) aJ) p0.states)]), (1, .blk 63 [I p1.Kind, Sx p1.Class, I p1.States, I p1.UnderKind, Sx p1.UnderClass, .lit (List.map bK p1.Decls)])]) (X2 := []) ?_
 refine zP (.bool ((p1.Kind != 0) && (p1.Kind != y1.1.Kind))) ?_
 refine zk 1 ?_
 refine zE (.c (.ptr 1 1)) ?_
 refine zE (.c (Sx p1.Class)) ?_
 refine zE (.c (Bo (!(cG p1.Class (⟨#[]⟩ : ByteArray))))) ?_
 refine zn (L2 := [(2, .c (I p2)), (3, .c (.ptr 0 0)), (4, .c (.ptr 1 0)), (7, .c (.ptr 1 0)), (8, .c (I p1.Kind)), (9, .c (Bo (p1.Kind != 0))), (10, .c (Bo (p1.Kind != 0))), (11, .cnd [(p1.Kind != 0)] (.c (.ptr 1 0))), (12, .cnd [(p1.Kind != 0)] (.c (I p1.Kind))), (13, .cnd [(p1.Kind != 0)] (.c (.ptr 0 0))), (14, .cnd [(p1.Kind != 0)] (.c (.lmap true (List.map (eM (Value.int .i64) aE) p0.nodes)))), (15, .cnd [(p1.Kind != 0)] (.c (I p2))), (16, .cnd [(p1.Kind != 0)] (.agg [I y1.1.ID, I y1.1.Parent, I y1.1.Kind, Sx y1.1.Key, .lit (List.map aM y1.1.Attrs), .lit (List.map aD y1.1.Actions), .lit (List.map aJ y1.1.Kids)])), (17, .cnd [(p1.Kind != 0)] (.c (I y1.1.Kind))), (18, .cnd [(p1.Kind != 0)] (.c (Bo (p1.Kind != y1.1.Kind)))), (19, .c (Bo ((p1.Kind != 0) && (p1.Kind != y1.1.Kind)))), (20, .c (Bo ((p1.Kind != 0) && (p1.Kind != y1.1.Kind)))), (21, .cnd [(!((p1.Kind != 0) && (p1.Kind != y1.1.Kind)))] (.c (.ptr 1 1))), (22, .cnd [(!((p1.Kind != 0) && (p1.Kind != y1.1.Kind)))] (.c (Sx p1.Class))), (23, .cnd [(!((p1.Kind != 0) && (p1.Kind != y1.1.Kind)))] (.c (Bo (!(cG p1.Class (⟨#[]⟩ : ByteArray))))))]) (G2 := [(0, .blk 92 [.lmap true (List.map (eM (Value.int .i64) aE) p0.nodes), .lmap false (List.map (eM (Value.int .i64) eS) p0.class_), .lmap false (List.map (eM (Value.int .i64) aJ) p0.states)]), (1, .blk 63 [I p1.Kind, Sx p1.Class, I p1.States, I p1.UnderKind, Sx p1.UnderClass, .lit (List.map bK p1.Decls)])]) (X2 := []) ?_
 refine zF [(!((p1.Kind != 0) && (p1.Kind != y1.1.Kind)))] (.c (Bo (!(cG p1.Class (⟨#[]⟩ : ByteArray))))) ?_
 refine zE (.c (.ptr 1 1)) ?_
 refine zE (.c (Sx p1.Class)) ?_
 refine zE (.c (.ptr 0 1)) ?_
 refine zE (.c (.lmap false (List.map (eM (Value.int .i64) eS) p0.class_))) ?_
 refine zn (L2 := [(2, .c (I p2)), (3, .c (.ptr 0 0)), (4, .c (.ptr 1 0)), (7, .c (.ptr 1 0)), (8, .c (I p1.Kind)), (9, .c (Bo (p1.Kind != 0))), (10, .c (Bo (p1.Kind != 0))), (11, .cnd [(p1.Kind != 0)] (.c (.ptr 1 0))), (12, .cnd [(p1.Kind != 0)] (.c (I p1.Kind))), (13, .cnd [(p1.Kind != 0)] (.c (.ptr 0 0))), (14, .cnd [(p1.Kind != 0)] (.c (.lmap true (List.map (eM (Value.int .i64) aE) p0.nodes)))), (15, .cnd [(p1.Kind != 0)] (.c (I p2))), (16, .cnd [(p1.Kind != 0)] (.agg [I y1.1.ID, I y1.1.Parent, I y1.1.Kind, Sx y1.1.Key, .lit (List.map aM y1.1.Attrs), .lit (List.map aD y1.1.Actions), .lit (List.map aJ y1.1.Kids)])), (17, .cnd [(p1.Kind != 0)] (.c (I y1.1.Kind))), (18, .cnd [(p1.Kind != 0)] (.c (Bo (p1.Kind != y1.1.Kind)))), (19, .c (Bo ((p1.Kind != 0) && (p1.Kind != y1.1.Kind)))), (20, .c (Bo ((p1.Kind != 0) && (p1.Kind != y1.1.Kind)))), (21, .cnd [(!((p1.Kind != 0) && (p1.Kind != y1.1.Kind)))] (.c (.ptr 1 1))), (22, .cnd [(!((p1.Kind != 0) && (p1.Kind != y1.1.Kind)))] (.c (Sx p1.Class))), (23, .cnd [(!((p1.Kind != 0) && (p1.Kind != y1.1.Kind)))] (.c (Bo (!(cG p1.Class (⟨#[]⟩ : ByteArray)))))), (24, .cnd [(!((p1.Kind != 0) && (p1.Kind != y1.1.Kind)))] (.c (Bo (!(cG p1.Class (⟨#[]⟩ : ByteArray)))))), (25, .cnd [(!((p1.Kind != 0) && (p1.Kind != y1.1.Kind))), (!(cG p1.Class (⟨#[]⟩ : ByteArray)))] (.c (.ptr 1 1))), (26, .cnd [(!((p1.Kind != 0) && (p1.Kind != y1.1.Kind))), (!(cG p1.Class (⟨#[]⟩ : ByteArray)))] (.c (Sx p1.Class))), (27, .cnd [(!((p1.Kind != 0) && (p1.Kind != y1.1.Kind))), (!(cG p1.Class (⟨#[]⟩ : ByteArray)))] (.c (.ptr 0 1))), (28, .cnd [(!((p1.Kind != 0) && (p1.Kind != y1.1.Kind))), (!(cG p1.Class (⟨#[]⟩ : ByteArray)))] (.c (.lmap false (List.map (eM (Value.int .i64) eS) p0.class_))))]) (G2 := [(0, .blk 92 [.lmap true (List.map (eM (Value.int .i64) aE) p0.nodes), .lmap false (List.map (eM (Value.int .i64) eS) p0.class_), .lmap false (List.map (eM (Value.int .i64) aJ) p0.states)]), (1, .blk 63 [I p1.Kind, Sx p1.Class, I p1.States, I p1.UnderKind, Sx p1.UnderClass, .lit (List.map bK p1.Decls)])]) (X2 := []) ?_
 refine zE (.c (I p2)) ?_
 obtain ⟨y2, he, h⟩ := aB h
 refine Da (e := [(!((p1.Kind != 0) && (p1.Kind != y1.1.Kind))), (!(cG p1.Class (⟨#[]⟩ : ByteArray)))]) [(28, .c (.lmap false (List.map (eM (Value.int .i64) eS) p0.class_)), some 2), (29, .c (I p2), some 2)] (v := .c (Sx y2.1)) (foot := []) (by kernel_rfl) (by kernel_rfl) (by kernel_rfl) (fun hg => cZ (kf := (Value.int .i64)) (enc := eS) (l := p0.class_) (k := p2) (ok := false) (kk := .int .i64) (j := ⟨.str, 1, 16, [.string ⟨#[]⟩]⟩) (p := y2) (v := .c (Sx y2.1)) (bT he hg) (by kernel_rfl) gH (by kernel_rfl) (by kernel_rfl) (by kernel_rfl)) rfl rfl ?_
 clear he
 refine zE (.c (Bo (!(cG p1.Class y2.1)))) ?_
 refine zP (.bool ((!(cG p1.Class (⟨#[]⟩ : ByteArray))) && (!(cG p1.Class y2.1)))) ?_
 refine zP (.bool (((p1.Kind != 0) && (p1.Kind != y1.1.Kind)) || ((!(cG p1.Class (⟨#[]⟩ : ByteArray))) && (!(cG p1.Class y2.1))))) ?_
 refine ze [2, 3, 4, 33] ?_
 refine zi h (fun h => ?_) fun h => ?_
 refine za [6] ?_
 cases h
 exact aG zr
 refine aC ?_
 refine zx fun _ => ?_
 refine Ym 3 (L' := [(2, .c (I p2)), (3, .c (.ptr 0 0)), (4, .c (.ptr 1 0)), (33, .c (Bo (((p1.Kind != 0) && (p1.Kind != y1.1.Kind)) || ((!(cG p1.Class (⟨#[]⟩ : ByteArray))) && (!(cG p1.Class y2.1)))))), (34, .c (.ptr 0 2)), (35, .c (.lmap false (List.map (eM (Value.int .i64) aJ) p0.states))), (36, .c (I p2))]) (G' := [(0, .blk 92 [.lmap true (List.map (eM (Value.int .i64) aE) p0.nodes), .lmap false (List.map (eM (Value.int .i64) eS) p0.class_), .lmap false (List.map (eM (Value.int .i64) aJ) p0.states)]), (1, .blk 63 [I p1.Kind, Sx p1.Class, I p1.States, I p1.UnderKind, Sx p1.UnderClass, .lit (List.map bK p1.Decls)])]) (X' := []) ?_
 obtain ⟨y3, he, h⟩ := aB h
 refine zw (v := .c (I y3.1)) [] (cZ (kf := (Value.int .i64)) (enc := aJ) (l := p0.states) (k := p2) (ok := false) (kk := .int .i64) (j := ⟨.int .i64, 1, 8, [.int .i64 0]⟩) (p := y3) (v := .c (I y3.1)) he (by kernel_rfl) gH (by kernel_rfl) (by kernel_rfl) (by kernel_rfl)) ?_
 clear he
 refine zk 7 ?_
 refine zE (.agg [.lmap true (List.map (eM (Value.int .i64) aE) p0.nodes), .lmap false (List.map (eM (Value.int .i64) eS) p0.class_), .lmap false (List.map (eM (Value.int .i64) aJ) p0.states)]) ?_
 refine zE (.agg [I p1.Kind, Sx p1.Class, I p1.States, I p1.UnderKind, Sx p1.UnderClass, .lit (List.map bK p1.Decls)]) ?_
 refine zE (.c (I p2)) ?_
 refine zn (L2 := [(2, .c (I p2)), (3, .c (.ptr 0 0)), (4, .c (.ptr 1 0)), (33, .c (Bo (((p1.Kind != 0) && (p1.Kind != y1.1.Kind)) || ((!(cG p1.Class (⟨#[]⟩ : ByteArray))) && (!(cG p1.Class y2.1)))))), (34, .c (.ptr 0 2)), (35, .c (.lmap false (List.map (eM (Value.int .i64) aJ) p0.states))), (36, .c (I p2)), (37, .c (I y3.1)), (38, .c (.ptr 1 2)), (39, .c (I p1.States)), (40, .c (I (lQ .i64 y3.1 p1.States))), (41, .c (.ptr 1 2)), (42, .c (I p1.States)), (43, .c (Bo ((lQ .i64 y3.1 p1.States) == p1.States))), (44, .c (Bo ((lQ .i64 y3.1 p1.States) == p1.States))), (45, .cnd [((lQ .i64 y3.1 p1.States) == p1.States)] (.agg [.lmap true (List.map (eM (Value.int .i64) aE) p0.nodes), .lmap false (List.map (eM (Value.int .i64) eS) p0.class_), .lmap false (List.map (eM (Value.int .i64) aJ) p0.states)])), (46, .cnd [((lQ .i64 y3.1 p1.States) == p1.States)] (.agg [I p1.Kind, Sx p1.Class, I p1.States, I p1.UnderKind, Sx p1.UnderClass, .lit (List.map bK p1.Decls)])), (47, .cnd [((lQ .i64 y3.1 p1.States) == p1.States)] (.c (I p2)))]) (G2 := [(0, .blk 92 [.lmap true (List.map (eM (Value.int .i64) aE) p0.nodes), .lmap false (List.map (eM (Value.int .i64) eS) p0.class_), .lmap false (List.map (eM (Value.int .i64) aJ) p0.states)]), (1, .blk 63 [I p1.Kind, Sx p1.Class, I p1.States, I p1.UnderKind, Sx p1.UnderClass, .lit (List.map bK p1.Decls)])]) (X2 := []) ?_
 obtain ⟨y4, he, h⟩ := aB h
 refine Ho [((lQ .i64 y3.1 p1.States) == p1.States)] fok86 (fun hg => Cr n _ _ _ y4 (bT he hg)) ?_
 clear he
 refine zP (.bool (((lQ .i64 y3.1 p1.States) == p1.States) && y4)) ?_
 refine zk 1 ?_
 refine ze [6] ?_
 cases h
 exact aG zr
def lU (p0 : mY) (p2 : ByteArray) (p1 : tC) (j1 : Unit → Option (Int × Bool)) : Nat → Int → Option (Int × Bool)
 | 0, _ => none
 | n + 1, v3 => (if (decide (v3 < (List.length p0.Tokens : Int))) = true then (idx p0.Tokens v3).bind fun (e4 : wQ) => (if (!(cG e4.Name p2)) = true then lU p0 p2 p1 j1 n (IntKind.wrap .i64 (v3 + 1)) else (if (p1.High && p1.Dark) = true then some (e4.HighDark, true) else (if p1.High = true then some (e4.HighLight, true) else (if p1.Dark = true then some (e4.Dark, true) else some (e4.Light, true))))) else j1 ())
def sV  (n : Nat) (p0 : mY) (p1 : tC) (p2 : ByteArray) : Option (Int × Bool) := (aV (fun (_ : Unit) => some (0, false)) (fun (j1 : Unit → Option (Int × Bool)) => lU p0 p2 p1 j1 n 0))
theorem Ak  (n : Nat) (p0 : mY) (p1 : tC) (p2 : ByteArray) (r : (Int × Bool)) (h : sV n p0 p1 p2 = some r) : cN E 105 0 [.agg [.lit (List.map cK p0.Tokens)], .agg [Bo p1.Dark, Bo p1.High, I p1.Scale], .c (Sx p2)] [] (.tup [.c (I r.1), .c (Bo r.2)]) [] := by
 refine fW Tryz.func105 rfl ?_
 unfold sV at h
 refine za [2, 3, 4] ?_
 refine aQ h (fun A j => ∀ u, j u = some r → A (mk [] [] 0)) (fun u h => ?_) (fun j1 Aj1 hj1 h => ?_)
 refine za [6, 7] ?_
 cases h
 exact aG zr
 refine zx fun _ => ?_
 refine zk 2 ?_
 refine zl cK p0.Tokens ?_
 refine zk 1 ?_
 refine ze [2, 4, 11, 12, 13] ?_
 refine aF ?_
 refine bA (fun n s => ∃ v3, lU p0 p2 p1 j1 n v3 = some r ∧ s = mk [(2, .c (Sx p2)), (4, .c (.ptr 0 0)), (11, .c (.lit (List.map cK p0.Tokens))), (12, .c (I (List.length p0.Tokens : Int))), (13, .c (I v3))] [(0, .blk 38 [Bo p1.Dark, Bo p1.High, I p1.Scale])] 1) n _ (zv [(1, 0)] [2, 4, 11, 12, 13] 1) ⟨_, h, rfl⟩ (fun s ⟨v3, h, _⟩ => nomatch h) ?_
 rintro n s ⟨v3, h, rfl⟩
 rw [lU] at h
 refine za [2, 4, 11, 12, 13, 14] ?_
 refine aK ?_
 refine zi h (fun h => ?_) fun h => ?_
 refine aC ?_
 refine aK ?_
 refine aF ?_
 refine zx fun _ => ?_
 obtain ⟨e4, he, h⟩ := aB h
 refine zd cK he ?_
 clear he
 refine zk 3 ?_
 refine ze [2, 4, 9, 11, 12, 13] ?_
 refine aK ?_
 refine za [2, 4, 9, 11, 12, 13, 20] ?_
 refine zi h (fun h => ?_) fun h => ?_
 refine bD ?_
 refine aT ?_
 refine zb ?_
 exact dI (zv [(0, 0)] [2, 4, 11, 12, 13] 1) (⟨_, h, rfl⟩)
 refine aC ?_
 refine aK ?_
 refine aF ?_
 refine zx fun _ => ?_
 refine zk 3 ?_
 refine zE (.c (.ptr 0 0)) ?_
 refine zE (.c (Bo p1.Dark)) ?_
 refine zP (.bool (p1.High && p1.Dark)) ?_
 refine zk 1 ?_
 refine ze [4, 9, 21] ?_
 refine zi h (fun h => ?_) fun h => ?_
 refine za [6, 7] ?_
 cases h
 exact aG zr
 refine za [4, 9, 30] ?_
 refine zi h (fun h => ?_) fun h => ?_
 refine za [6, 7] ?_
 cases h
 exact aG zr
 refine za [9, 35] ?_
 refine zi h (fun h => ?_) fun h => ?_
 refine za [6, 7] ?_
 cases h
 exact aG zr
 refine aC ?_
 refine za [6, 7] ?_
 cases h
 exact aG zr
 exact aI (zv [] [] 0) (bD (hj1 _ h))
def kE (e32 : cC) (p0 : mT) (j28 : List (Int × cI) → Option (List (Int × cI))) (p1 : Int) (v26 : Int) : Nat → Int → List (Int × cI) → Option (List (Int × cI))
 | 0, _, _ => none
 | n + 1, v40, v41 => (if (decide (v40 < (List.length e32.Decls : Int))) = true then (aV (fun (v48 : List (Int × cI)) => kE e32 p0 j28 p1 v26 n (IntKind.wrap .i64 (v40 + 1)) v48) (fun (j42 : List (Int × cI) → Option (List (Int × cI))) => (idx e32.Decls v40).bind fun (e43 : cI) => (aV (fun (v47 : Int) => j42 (iP e43.Prop_ (cI.mk e43.Prop_ e43.Source v47 e43.Token) v41)) (fun (j44 : Int → Option (List (Int × cI))) => (if (e43.Source == 1) = true then (sV n p0.th p0.m e43.Token).bind fun (y45 : (Int × Bool)) => (gd [(!(!y45.2))] (dE n e43.Prop_ y45.1)).bind fun (y46 : Bool) => (if ((!y45.2) || (!y46)) = true then j42 v41 else j44 y45.1) else j44 e43.N))))) else j28 v41)
def kD (p0 : mT) (p1 : Int) (j1 : List (Int × cI) → Option (List (Int × cI))) : Nat → Int → List (Int × cI) → Option (List (Int × cI))
 | 0, _, _ => none
 | n + 1, v26, v27 => (if (decide (v26 < (List.length p0.order : Int))) = true then (aV (fun (v51 : List (Int × cI)) => kD p0 p1 j1 n (IntKind.wrap .i64 (v26 + 1)) v51) (fun (j28 : List (Int × cI) → Option (List (Int × cI))) => (idx p0.order v26).bind fun (e29 : Int) => (idx p0.rules e29).bind fun (e30 : cC) => (kB n p0.shape e30 p1).bind fun (y31 : Bool) => (if (!y31) = true then j28 v27 else (idx p0.rules e29).bind fun (e32 : cC) => kE e32 p0 j28 p1 v26 n 0 v27))) else j1 v27)
def pN  (n : Nat) (p0 : mT) (p1 : Int) : Option (List (Int × cI)) := (aV (fun (v54 : List (Int × cI)) => some v54) (fun (j1 : List (Int × cI) → Option (List (Int × cI))) => kD p0 p1 j1 n 0 ([] : List (Int × cI))))
theorem xE  (n : Nat) (p0 : mT) (p1 : Int) (r : (List (Int × cI))) (h : pN n p0 p1 = some r) : cN E 75 0 [.agg [.lmap true (List.map (eM (Value.int .i64) aE) p0.shape.nodes), .lmap false (List.map (eM (Value.int .i64) eS) p0.shape.class_), .lmap false (List.map (eM (Value.int .i64) aJ) p0.shape.states), .lit (List.map aW p0.rules), .lit (List.map aJ p0.order), .lit (List.map cK p0.th.Tokens), Bo p0.m.Dark, Bo p0.m.High, I p0.m.Scale], .c (I p1)] [] (.c (.lmap true (List.map (eM (Value.int .i64) bK) r))) [] := by
 refine fW Tryz.func75 rfl ?_
 unfold pN at h
 refine za [1, 2] ?_
 refine za [1, 2, 5] ?_
 refine aQ h (fun A j => ∀ v54, j v54 = some r → A (mk [(5, .c (.mapr 0))] [(0, .map true (List.map (eM (Value.int .i64) bK) v54))] 1)) (fun v54 h => ?_) (fun j1 Aj1 hj1 h => ?_)
 refine za [4] ?_
 refine aI (rD 0 (ag := true) (l := List.map (eM (Value.int .i64) bK) v54) (L2 := [(4, .c (.lmap true (List.map (eM (Value.int .i64) bK) v54)))]) (G2 := []) (by kernel_rfl) (by kernel_rfl) (by kernel_rfl)) ?_
 cases h
 exact aG zr
 refine zx fun _ => ?_
 refine zk 2 ?_
 refine zl aJ p0.order ?_
 refine zk 1 ?_
 refine ze [1, 2, 5, 14, 15, 16] ?_
 refine aF ?_
 refine bA (fun n s => ∃ v26 v27, kD p0 p1 j1 n v26 v27 = some r ∧ s = mk [(1, .c (I p1)), (2, .c (.ptr 0 0)), (5, .c (.mapr 1)), (14, .c (.lit (List.map aJ p0.order))), (15, .c (I (List.length p0.order : Int))), (16, .c (I v26))] [(0, .blk 95 [.lmap true (List.map (eM (Value.int .i64) aE) p0.shape.nodes), .lmap false (List.map (eM (Value.int .i64) eS) p0.shape.class_), .lmap false (List.map (eM (Value.int .i64) aJ) p0.shape.states), .lit (List.map aW p0.rules), .lit (List.map aJ p0.order), .lit (List.map cK p0.th.Tokens), Bo p0.m.Dark, Bo p0.m.High, I p0.m.Scale]), (1, .map true (List.map (eM (Value.int .i64) bK) v27))] 2) n _ (zv [(0, 0), (2, 1)] [1, 2, 5, 14, 15, 16] 2) ⟨_, _, h, rfl⟩ (fun s ⟨v26, v27, h, _⟩ => nomatch h) ?_
 rintro n s ⟨v26, v27, h, rfl⟩
 rw [kD] at h
 refine za [1, 2, 5, 14, 15, 16, 17] ?_
 refine aK ?_
 refine zi h (fun h => ?_) fun h => ?_
 refine aC ?_
 refine aQ h (fun A j => ∀ v51, j v51 = some r → A (mk [(1, .c (I p1)), (2, .c (.ptr 0 0)), (5, .c (.mapr 1)), (14, .c (.lit (List.map aJ p0.order))), (15, .c (I (List.length p0.order : Int))), (16, .c (I v26))] [(0, .blk 95 [.lmap true (List.map (eM (Value.int .i64) aE) p0.shape.nodes), .lmap false (List.map (eM (Value.int .i64) eS) p0.shape.class_), .lmap false (List.map (eM (Value.int .i64) aJ) p0.shape.states), .lit (List.map aW p0.rules), .lit (List.map aJ p0.order), .lit (List.map cK p0.th.Tokens), Bo p0.m.Dark, Bo p0.m.High, I p0.m.Scale]), (1, .map true (List.map (eM (Value.int .i64) bK) v51))] 2)) (fun v51 h => ?_) (fun j28 Aj28 hj28 h => ?_)
 refine aT ?_
 refine zb ?_
 exact dI (zv [(0, 0), (1, 1)] [1, 2, 5, 14, 15, 16] 2) (⟨_, _, h, rfl⟩)
 refine aF ?_
 refine zx fun _ => ?_
 obtain ⟨e29, he, h⟩ := aB h
 refine zd aJ he ?_
 clear he
 refine zk 2 ?_
 refine ze [1, 2, 5, 7, 14, 15, 16] ?_
 refine aK ?_
 refine wP [[], [0], [], [2], [], [3, 4, 2], [5, 3, 4, 2], [], [1, 6, 7, 0, 5, 3, 4, 2], [8, 1, 6, 7, 0, 5, 3, 4, 2]] fun _ => ?_
 refine zk 5 ?_
 obtain ⟨e30, he, h⟩ := aB h
 refine zd aW he ?_
 clear he
 refine zk 2 ?_
 obtain ⟨y31, he, h⟩ := aB h
 refine zc Wq (rY n _ _ _ y31 he) ?_
 clear he
 refine zk 1 ?_
 refine ze [1, 2, 5, 7, 14, 15, 16, 29] ?_
 refine zi h (fun h => ?_) fun h => ?_
 exact aI (zv [(0, 0), (1, 1)] [1, 2, 5, 14, 15, 16] 2) (bD (hj28 _ h))
 refine aC ?_
 refine zx fun _ => ?_
 refine zk 3 ?_
 obtain ⟨e32, he, h⟩ := aB h
 refine zd aW he ?_
 clear he
 refine zk 2 ?_
 refine zl bK e32.Decls ?_
 refine zk 1 ?_
 refine jV [1, 2, 5, 14, 15, 16, 35, 36, 37] (L2 := [(1, .c (I p1)), (2, .c (.ptr 0 0)), (5, .c (.mapr 1)), (14, .c (.lit (List.map aJ p0.order))), (15, .c (I (List.length p0.order : Int))), (16, .c (I v26)), (35, .c (.lit (List.map bK e32.Decls))), (36, .c (I (List.length e32.Decls : Int))), (37, .c (I 0))]) (G2 := [(0, .blk 95 [.lmap true (List.map (eM (Value.int .i64) aE) p0.shape.nodes), .lmap false (List.map (eM (Value.int .i64) eS) p0.shape.class_), .lmap false (List.map (eM (Value.int .i64) aJ) p0.shape.states), .lit (List.map aW p0.rules), .lit (List.map aJ p0.order), .lit (List.map cK p0.th.Tokens), Bo p0.m.Dark, Bo p0.m.High, I p0.m.Scale]), (1, .map true (List.map (eM (Value.int .i64) bK) v27))]) 24 ?_
 refine aF ?_
 refine bA (fun n s => ∃ v40 v41, kE e32 p0 j28 p1 v26 n v40 v41 = some r ∧ s = mk [(1, .c (I p1)), (2, .c (.ptr 0 0)), (5, .c (.mapr 1)), (14, .c (.lit (List.map aJ p0.order))), (15, .c (I (List.length p0.order : Int))), (16, .c (I v26)), (35, .c (.lit (List.map bK e32.Decls))), (36, .c (I (List.length e32.Decls : Int))), (37, .c (I v40))] [(0, .blk 95 [.lmap true (List.map (eM (Value.int .i64) aE) p0.shape.nodes), .lmap false (List.map (eM (Value.int .i64) eS) p0.shape.class_), .lmap false (List.map (eM (Value.int .i64) aJ) p0.shape.states), .lit (List.map aW p0.rules), .lit (List.map aJ p0.order), .lit (List.map cK p0.th.Tokens), Bo p0.m.Dark, Bo p0.m.High, I p0.m.Scale]), (1, .map true (List.map (eM (Value.int .i64) bK) v41))] 2) n _ (zv [(0, 0), (1, 1)] [1, 2, 5, 14, 15, 16, 35, 36, 37] 2) ⟨_, _, h, rfl⟩ (fun s ⟨v40, v41, h, _⟩ => nomatch h) ?_
 rintro n s ⟨v40, v41, h, rfl⟩
 rw [kE] at h
 refine za [1, 2, 5, 14, 15, 16, 35, 36, 37, 38] ?_
 refine aK ?_
 refine zi h (fun h => ?_) fun h => ?_
 refine aC ?_
 refine aQ h (fun A j => ∀ v48, j v48 = some r → A (mk [(1, .c (I p1)), (2, .c (.ptr 0 0)), (5, .c (.mapr 1)), (14, .c (.lit (List.map aJ p0.order))), (15, .c (I (List.length p0.order : Int))), (16, .c (I v26)), (35, .c (.lit (List.map bK e32.Decls))), (36, .c (I (List.length e32.Decls : Int))), (37, .c (I v40))] [(0, .blk 95 [.lmap true (List.map (eM (Value.int .i64) aE) p0.shape.nodes), .lmap false (List.map (eM (Value.int .i64) eS) p0.shape.class_), .lmap false (List.map (eM (Value.int .i64) aJ) p0.shape.states), .lit (List.map aW p0.rules), .lit (List.map aJ p0.order), .lit (List.map cK p0.th.Tokens), Bo p0.m.Dark, Bo p0.m.High, I p0.m.Scale]), (1, .map true (List.map (eM (Value.int .i64) bK) v48))] 2)) (fun v48 h => ?_) (fun j42 Aj42 hj42 h => ?_)
 refine aT ?_
 refine zb ?_
 exact dI (zv [(0, 0), (1, 1)] [1, 2, 5, 14, 15, 16, 35, 36, 37] 2) (⟨_, _, h, rfl⟩)
 refine aF ?_
 refine zx fun _ => ?_
 obtain ⟨e43, he, h⟩ := aB h
 refine zd bK he ?_
 clear he
 refine zk 3 ?_
 refine ze [1, 2, 5, 9, 14, 15, 16, 35, 36, 37] ?_
 refine aQ h (fun A j => ∀ v47, j v47 = some r → A (mk [(1, .c (I p1)), (2, .c (.ptr 0 0)), (5, .c (.mapr 1)), (14, .c (.lit (List.map aJ p0.order))), (15, .c (I (List.length p0.order : Int))), (16, .c (I v26)), (35, .c (.lit (List.map bK e32.Decls))), (36, .c (I (List.length e32.Decls : Int))), (37, .c (I v40)), (9, .c (.ptr 2 0))] [(0, .blk 95 [.lmap true (List.map (eM (Value.int .i64) aE) p0.shape.nodes), .lmap false (List.map (eM (Value.int .i64) eS) p0.shape.class_), .lmap false (List.map (eM (Value.int .i64) aJ) p0.shape.states), .lit (List.map aW p0.rules), .lit (List.map aJ p0.order), .lit (List.map cK p0.th.Tokens), Bo p0.m.Dark, Bo p0.m.High, I p0.m.Scale]), (1, .map true (List.map (eM (Value.int .i64) bK) v41)), (2, .blk 81 [I e43.Prop_, I e43.Source, I v47, Sx e43.Token])] 3)) (fun v47 h => ?_) (fun j44 Aj44 hj44 h => ?_)
 refine aT ?_
 refine zy fun _ => ?_
 refine zk 4 ?_
 refine kA (kf := (Value.int .i64)) (enc := bK) (l := v41) (k := e43.Prop_) (v := (cI.mk e43.Prop_ e43.Source v47 e43.Token)) (n := 1) (ag := true) (kk := .int .i64) (by kernel_rfl) gH (by kernel_rfl) (by kernel_rfl) rfl rfl ?_
 refine bL ?_
 exact dI (zv [(0, 0), (1, 1)] [1, 2, 5, 14, 15, 16, 35, 36, 37] 2) (hj42 _ h)
 refine za [1, 2, 5, 9, 14, 15, 16, 35, 36, 37, 43] ?_
 refine zi h (fun h => ?_) fun h => ?_
 refine zx fun _ => ?_
 refine zk 6 ?_
 obtain ⟨y45, he, h⟩ := aB h
 refine zc Xy (Ak n _ _ _ y45 he) ?_
 clear he
 refine zk 5 ?_
 refine ze [1, 2, 5, 9, 10, 11, 14, 15, 16, 35, 36, 37] ?_
 refine aK ?_
 refine zx fun _ => ?_
 refine zk 3 ?_
 refine zE (.c (.ptr 5 0)) ?_
 refine zE (.c (I e43.Prop_)) ?_
 refine zE (.c (I y45.1)) ?_
 obtain ⟨y46, he, h⟩ := aB h
 refine Ho [(!(!y45.2))] Xn (fun hg => sB n _ _ y46 (bT he hg)) ?_
 clear he
 refine zE (.c (Bo (!y46))) ?_
 refine zP (.bool ((!y45.2) || (!y46))) ?_
 refine jV [1, 2, 5, 9, 10, 14, 15, 16, 35, 36, 37, 62] (L2 := [(1, .c (I p1)), (2, .c (.ptr 0 0)), (5, .c (.mapr 1)), (14, .c (.lit (List.map aJ p0.order))), (15, .c (I (List.length p0.order : Int))), (16, .c (I v26)), (35, .c (.lit (List.map bK e32.Decls))), (36, .c (I (List.length e32.Decls : Int))), (37, .c (I v40)), (9, .c (.ptr 5 0)), (10, .c (I y45.1)), (62, .c (Bo ((!y45.2) || (!y46))))]) (G2 := [(0, .blk 95 [.lmap true (List.map (eM (Value.int .i64) aE) p0.shape.nodes), .lmap false (List.map (eM (Value.int .i64) eS) p0.shape.class_), .lmap false (List.map (eM (Value.int .i64) aJ) p0.shape.states), .lit (List.map aW p0.rules), .lit (List.map aJ p0.order), .lit (List.map cK p0.th.Tokens), Bo p0.m.Dark, Bo p0.m.High, I p0.m.Scale]), (1, .map true (List.map (eM (Value.int .i64) bK) v41)), (5, .blk 81 [I e43.Prop_, I e43.Source, I e43.N, Sx e43.Token])]) 31 ?_
 refine zi h (fun h => ?_) fun h => ?_
 exact aI (zv [(0, 0), (1, 1)] [1, 2, 5, 14, 15, 16, 35, 36, 37] 2) (bD (hj42 _ h))
 refine aC ?_
 refine aT ?_
 refine zb ?_
 exact dI (zv [(0, 0), (1, 1), (5, 2)] [1, 2, 5, 14, 15, 16, 35, 36, 37, 9] 3) (hj44 _ h)
 exact aI (zv [(0, 0), (1, 1), (5, 2)] [1, 2, 5, 14, 15, 16, 35, 36, 37, 9] 3) (aC (hj44 _ h))
 exact aI (zv [(0, 0), (1, 1)] [1, 2, 5, 14, 15, 16] 2) (bD (hj28 _ h))
 exact aI (zv [(1, 0)] [5] 1) (bD (hj1 _ h))
def oH  (n : Nat) (p0 : Int) : Option Bool := (iJ n p0).bind fun (y1 : Bool) => (gd [y1] (idx bE p0)).bind fun (e2 : bR) => some (y1 && e2.inherited)
theorem vZ  (n : Nat) (p0 : Int) (r : Bool) (h : oH n p0 = some r) : cN E 76 0 [.c (I p0)] [] (.c (Bo r)) [] := by
 refine fW Tryz.func76 rfl ?_
 unfold oH at h
 refine za [0] ?_
 refine zx fun _ => ?_
 refine zk 1 ?_
 obtain ⟨y1, he, h⟩ := aB h
 refine zc Ta (oI n _ y1 he) ?_
 clear he
 refine zk 1 ?_
 refine zE (.c (I p0)) ?_
 obtain ⟨e2, he, h⟩ := aB h
 refine Cx (es := [y1]) [(6, .c (I p0), some 1)] (enc := iM) (xs := bE) (ix := p0) (e := e2) (c := [Bo e2.inherited, I e2.low, I e2.high, I e2.start]) (len := 22) (sz := 4) (fun hg => bT he hg) (by kernel_rfl) (by kernel_rfl) (by kernel_rfl) (by kernel_rfl) (by kernel_rfl) (by kernel_rfl) (fun x => by kernel_rfl) rfl rfl ?_
 clear he
 refine zE (.c (.imm [Bo e2.inherited, I e2.low, I e2.high, I e2.start])) ?_
 refine zE (.c (Bo e2.inherited)) ?_
 refine zP (.bool (y1 && e2.inherited)) ?_
 refine zk 1 ?_
 refine jV [2] (L2 := [(2, .c (Bo (y1 && e2.inherited)))]) (G2 := []) 10 ?_
 cases h
 exact aG zr
def Bx  (n : Nat) (p0 : Int) (p1 : Int) : Option Bool := some (((((p1 != 0) && (decide (p0 ≥ (-1152921504606846976 : Int)))) && (decide (p0 ≤ 1152921504606846976))) && (decide (p1 ≥ (-1152921504606846976 : Int)))) && (decide (p1 ≤ 1152921504606846976)))
theorem Je  (n : Nat) (p0 : Int) (p1 : Int) (r : Bool) (h : Bx n p0 p1 = some r) : cN E 137 0 [.c (I p0), .c (I p1)] [] (.c (Bo r)) [] := by
 refine fW Tryz.func137 rfl ?_
 unfold Bx at h
 refine za [0, 1] ?_
 refine zx fun _ => ?_
 refine zk 3 ?_
 refine zE (.c (I p0)) ?_
 refine zE (.c (Bo (decide (p0 ≥ (-1152921504606846976 : Int))))) ?_
 refine zP (.bool ((p1 != 0) && (decide (p0 ≥ (-1152921504606846976 : Int))))) ?_
 refine zk 1 ?_
 refine zE (.c (I p0)) ?_
 refine zE (.c (Bo (decide (p0 ≤ 1152921504606846976)))) ?_
 refine zP (.bool (((p1 != 0) && (decide (p0 ≥ (-1152921504606846976 : Int)))) && (decide (p0 ≤ 1152921504606846976)))) ?_
 refine zk 1 ?_
 refine zE (.c (I p1)) ?_
 refine zE (.c (Bo (decide (p1 ≥ (-1152921504606846976 : Int))))) ?_
 refine zP (.bool ((((p1 != 0) && (decide (p0 ≥ (-1152921504606846976 : Int)))) && (decide (p0 ≤ 1152921504606846976))) && (decide (p1 ≥ (-1152921504606846976 : Int))))) ?_
 refine zk 1 ?_
 refine zE (.c (I p1)) ?_
 refine zE (.c (Bo (decide (p1 ≤ 1152921504606846976)))) ?_
 refine zP (.bool (((((p1 != 0) && (decide (p0 ≥ (-1152921504606846976 : Int)))) && (decide (p0 ≤ 1152921504606846976))) && (decide (p1 ≥ (-1152921504606846976 : Int)))) && (decide (p1 ≤ 1152921504606846976)))) ?_
 refine zk 1 ?_
 refine jV [4] (L2 := [(4, .c (Bo (((((p1 != 0) && (decide (p0 ≥ (-1152921504606846976 : Int)))) && (decide (p0 ≤ 1152921504606846976))) && (decide (p1 ≥ (-1152921504606846976 : Int)))) && (decide (p1 ≤ 1152921504606846976)))))]) (G2 := []) 20 ?_
 cases h
 exact aG zr
def uA  (n : Nat) (p0 : Int) (p1 : Int) : Option Int := (nz p1).bind fun (d1 : Int) => (aV (fun (v4 : Int) => some v4) (fun (j2 : Int → Option Int) => (nz p1).bind fun (d3 : Int) => (if (decide ((Int.tmod p0 p1) < 0)) = true then j2 (IntKind.wrap .i64 ((IntKind.wrap .i64 (Int.tdiv p0 p1)) - 1)) else j2 (IntKind.wrap .i64 (Int.tdiv p0 p1)))))
theorem Cl  (n : Nat) (p0 : Int) (p1 : Int) (r : Int) (h : uA n p0 p1 = some r) : cN E 138 0 [.c (I p0), .c (I p1)] [] (.c (I r)) [] := by
 refine fW Tryz.func138 rfl ?_
 unfold uA at h
 refine za [0, 1] ?_
 refine zx fun _ => ?_
 refine zk 2 ?_
 obtain ⟨d1, he, h⟩ := aB h
 refine cF (v := .c (I (IntKind.wrap .i64 (Int.tdiv p0 p1)))) (foot := []) (Xz (k := .i64) (x := p0) (y := p1) he (by kernel_rfl)) (by kernel_rfl) rfl rfl ?_
 clear he
 refine zk 1 ?_
 refine ze [0, 1, 5] ?_
 refine aQ h (fun A j => ∀ v4, j v4 = some r → A (mk [(5, .c (I v4))] [] 0)) (fun v4 h => ?_) (fun j2 Aj2 hj2 h => ?_)
 refine za [4] ?_
 cases h
 exact aG zr
 refine zx fun _ => ?_
 refine zk 2 ?_
 obtain ⟨d3, he, h⟩ := aB h
 refine cF (v := .c (I (Int.tmod p0 p1))) (foot := []) (Sr (k := .i64) (x := p0) (y := p1) he (by kernel_rfl)) (by kernel_rfl) rfl rfl ?_
 clear he
 refine zk 1 ?_
 refine ze [5, 12] ?_
 refine zi h (fun h => ?_) fun h => ?_
 refine aT ?_
 refine zb ?_
 exact dI (zv [] [5] 0) (hj2 _ h)
 exact aI (zv [] [5] 0) (aC (hj2 _ h))
def uX  (n : Nat) (p0 : Int) (p1 : Int) : Option Int := (Bx n p0 p1).bind fun (y1 : Bool) => (if (!y1) = true then some 0 else (aV (fun (v3 : Int) (v4 : Int) => (uA n (IntKind.wrap .i64 ((IntKind.wrap .i64 (2 * v3)) + v4)) (IntKind.wrap .i64 (2 * v4))).bind fun (y5 : Int) => some y5) (fun (j2 : Int → Int → Option Int) => (if (decide (p1 < 0)) = true then j2 (IntKind.wrap .i64 (0 - p0)) (IntKind.wrap .i64 (0 - p1)) else j2 p0 p1))))
theorem Dh  (n : Nat) (p0 : Int) (p1 : Int) (r : Int) (h : uX n p0 p1 = some r) : cN E 126 0 [.c (I p0), .c (I p1)] [] (.c (I r)) [] := by
 refine fW Tryz.func126 rfl ?_
 unfold uX at h
 refine za [0, 1] ?_
 refine aK ?_
 refine zx fun _ => ?_
 refine zk 2 ?_
 obtain ⟨y1, he, h⟩ := aB h
 refine zc Yf (Je n _ _ y1 he) ?_
 clear he
 refine zk 1 ?_
 refine ze [0, 1, 8] ?_
 refine zi h (fun h => ?_) fun h => ?_
 refine za [4] ?_
 cases h
 exact aG zr
 refine aC ?_
 refine aQ h (fun A j => ∀ v3 v4, j v3 v4 = some r → A (mk [(0, .c (I v3)), (1, .c (I v4))] [] 0)) (fun v3 v4 h => ?_) (fun j2 Aj2 hj2 h => ?_)
 refine zx fun _ => ?_
 refine zk 6 ?_
 obtain ⟨y5, he, h⟩ := aB h
 refine zc Xx (Cl n _ _ y5 he) ?_
 clear he
 refine zk 1 ?_
 refine ze [4] ?_
 cases h
 exact aG zr
 refine za [0, 1, 10] ?_
 refine zi h (fun h => ?_) fun h => ?_
 refine aT ?_
 refine zb ?_
 exact dI (zv [] [0, 1] 0) (hj2 _ _ h)
 exact aI (zv [] [0, 1] 0) (aC (hj2 _ _ h))
def tX  (n : Nat) (p0 : Int) (p1 : Int) (p2 : Int) : Option (Int × Int) := (if ((((((decide (p0 < (-1099511627776 : Int))) || (decide (p0 > 1099511627776))) || (decide (p1 < 0))) || (decide (p1 > 65536))) || (decide (p2 < 1))) || (decide (p2 > 65536))) = true then some (0, 1) else (uX n (IntKind.wrap .i64 (p0 * p1)) p2).bind fun (y1 : Int) => some (y1, 0))
theorem Bt  (n : Nat) (p0 : Int) (p1 : Int) (p2 : Int) (r : (Int × Int)) (h : tX n p0 p1 p2 = some r) : cN E 106 0 [.c (I p0), .c (I p1), .c (I p2)] [] (.tup [.c (I r.1), .c (I r.2)]) [] := by
 refine fW Tryz.func106 rfl ?_
 unfold tX at h
 refine za [0, 1, 2] ?_
 refine aK ?_
 refine zx fun _ => ?_
 refine zk 3 ?_
 refine zE (.c (I p0)) ?_
 refine zE (.c (Bo (decide (p0 > 1099511627776)))) ?_
 refine zP (.bool ((decide (p0 < (-1099511627776 : Int))) || (decide (p0 > 1099511627776)))) ?_
 refine zk 1 ?_
 refine zE (.c (I p1)) ?_
 refine zE (.c (Bo (decide (p1 < 0)))) ?_
 refine zP (.bool (((decide (p0 < (-1099511627776 : Int))) || (decide (p0 > 1099511627776))) || (decide (p1 < 0)))) ?_
 refine zk 1 ?_
 refine zE (.c (I p1)) ?_
 refine zE (.c (Bo (decide (p1 > 65536)))) ?_
 refine zP (.bool ((((decide (p0 < (-1099511627776 : Int))) || (decide (p0 > 1099511627776))) || (decide (p1 < 0))) || (decide (p1 > 65536)))) ?_
 refine zk 1 ?_
 refine zE (.c (I p2)) ?_
 refine zE (.c (Bo (decide (p2 < 1)))) ?_
 refine zP (.bool (((((decide (p0 < (-1099511627776 : Int))) || (decide (p0 > 1099511627776))) || (decide (p1 < 0))) || (decide (p1 > 65536))) || (decide (p2 < 1)))) ?_
 refine zk 1 ?_
 refine zE (.c (I p2)) ?_
 refine zE (.c (Bo (decide (p2 > 65536)))) ?_
 refine zP (.bool ((((((decide (p0 < (-1099511627776 : Int))) || (decide (p0 > 1099511627776))) || (decide (p1 < 0))) || (decide (p1 > 65536))) || (decide (p2 < 1))) || (decide (p2 > 65536)))) ?_
 refine jV [0, 1, 2, 29] (L2 := [(0, .c (I p0)), (1, .c (I p1)), (2, .c (I p2)), (29, .c (Bo ((((((decide (p0 < (-1099511627776 : Int))) || (decide (p0 > 1099511627776))) || (decide (p1 < 0))) || (decide (p1 > 65536))) || (decide (p2 < 1))) || (decide (p2 > 65536)))))]) (G2 := []) 24 ?_
 refine zi h (fun h => ?_) fun h => ?_
 refine za [6, 7] ?_
 cases h
 exact aG zr
 refine aC ?_
 refine zx fun _ => ?_
 refine zk 4 ?_
 obtain ⟨y1, he, h⟩ := aB h
 refine zc Yg (Dh n _ _ y1 he) ?_
 clear he
 refine zk 2 ?_
 refine ze [6, 7] ?_
 cases h
 exact aG zr
def tR  (n : Nat) (p0 : Int) (p1 : Int) (p2 : Int) : Option Int := (if ((decide (p0 < p1)) || (decide (p2 < p1))) = true then some p1 else (if (decide (p0 > p2)) = true then some p2 else some p0))
theorem Dn  (n : Nat) (p0 : Int) (p1 : Int) (p2 : Int) (r : Int) (h : tR n p0 p1 p2 = some r) : cN E 107 0 [.c (I p0), .c (I p1), .c (I p2)] [] (.c (I r)) [] := by
 refine fW Tryz.func107 rfl ?_
 unfold tR at h
 refine za [0, 1, 2] ?_
 refine aK ?_
 refine aF ?_
 refine zx fun _ => ?_
 refine zk 4 ?_
 refine zE (.c (I p2)) ?_
 refine zE (.c (I p1)) ?_
 refine zE (.c (Bo (decide (p2 < p1)))) ?_
 refine zP (.bool ((decide (p0 < p1)) || (decide (p2 < p1)))) ?_
 refine zk 1 ?_
 refine ze [0, 1, 2, 7] ?_
 refine zi h (fun h => ?_) fun h => ?_
 refine za [6] ?_
 cases h
 exact aG zr
 refine za [0, 2, 17] ?_
 refine zi h (fun h => ?_) fun h => ?_
 refine za [6] ?_
 cases h
 exact aG zr
 refine aC ?_
 refine za [6] ?_
 cases h
 exact aG zr
def wB  (n : Nat) (p0 : tC) (p1 : Int) : Option Int := (aV (fun (v3 : Int) => (tR n v3 1 1000).bind fun (y4 : Int) => some y4) (fun (j1 : Int → Option Int) => (if ((((decide (p0.Scale ≥ 50)) && (decide (p0.Scale ≤ 400))) && (decide (p1 ≥ 1))) && (decide (p1 ≤ 1000))) = true then (tX n p1 p0.Scale 100).bind fun (y2 : (Int × Int)) => j1 y2.1 else j1 p1)))
theorem Et  (n : Nat) (p0 : tC) (p1 : Int) (r : Int) (h : wB n p0 p1 = some r) : cN E 77 0 [.agg [Bo p0.Dark, Bo p0.High, I p0.Scale], .c (I p1)] [] (.c (I r)) [] := by
 refine fW Tryz.func77 rfl ?_
 unfold wB at h
 refine za [1, 2] ?_
 refine aQ h (fun A j => ∀ v3, j v3 = some r → A (mk [(1, .c (I v3))] [] 0)) (fun v3 h => ?_) (fun j1 Aj1 hj1 h => ?_)
 refine zx fun _ => ?_
 refine zk 1 ?_
 obtain ⟨y4, he, h⟩ := aB h
 refine zc Yc (Dn n _ _ _ y4 he) ?_
 clear he
 refine zk 1 ?_
 refine ze [4] ?_
 cases h
 exact aG zr
 refine zx fun _ => ?_
 refine zk 4 ?_
 refine zE (.c (.ptr 0 2)) ?_
 refine zE (.c (I p0.Scale)) ?_
 refine zE (.c (Bo (decide (p0.Scale ≤ 400)))) ?_
 refine zP (.bool ((decide (p0.Scale ≥ 50)) && (decide (p0.Scale ≤ 400)))) ?_
 refine zk 1 ?_
 refine zE (.c (I p1)) ?_
 refine zE (.c (Bo (decide (p1 ≥ 1)))) ?_
 refine zP (.bool (((decide (p0.Scale ≥ 50)) && (decide (p0.Scale ≤ 400))) && (decide (p1 ≥ 1)))) ?_
 refine zk 1 ?_
 refine zE (.c (I p1)) ?_
 refine zE (.c (Bo (decide (p1 ≤ 1000)))) ?_
 refine zP (.bool ((((decide (p0.Scale ≥ 50)) && (decide (p0.Scale ≤ 400))) && (decide (p1 ≥ 1))) && (decide (p1 ≤ 1000)))) ?_
 refine jV [1, 2, 20] (L2 := [(1, .c (I p1)), (2, .c (.ptr 0 0)), (20, .c (Bo ((((decide (p0.Scale ≥ 50)) && (decide (p0.Scale ≤ 400))) && (decide (p1 ≥ 1))) && (decide (p1 ≤ 1000)))))]) (G2 := [(0, .blk 38 [Bo p0.Dark, Bo p0.High, I p0.Scale])]) 18 ?_
 refine zi h (fun h => ?_) fun h => ?_
 refine aT ?_
 refine zy fun _ => ?_
 refine zk 3 ?_
 obtain ⟨y2, he, h⟩ := aB h
 refine zc Xv (Bt n _ _ _ y2 he) ?_
 clear he
 refine zk 4 ?_
 refine bL ?_
 exact dI (zv [] [1] 0) (hj1 _ h)
 exact aI (zv [] [1] 0) (aC (hj1 _ h))
end Go.Proofs.YtojkihhnioeggaaGreatDoor.S
