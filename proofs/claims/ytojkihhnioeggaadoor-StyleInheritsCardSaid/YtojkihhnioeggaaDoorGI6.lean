/- Functions, and that the program's are they. Printed by ext.py. -/
import Derived.Test.YtojkihhnioeggaaDoorGI5
set_option linter.unusedVariables false
set_option linter.unusedSimpArgs false
set_option maxRecDepth 100000
set_option maxHeartbeats 4000000
namespace Go.Proofs.YtojkihhnioeggaaDoor.S
open Go Go.Bm
def shape_matches  (n : Nat) (p0 : Gshape) (p1 : GRule) (p2 : Int) : Option Bool := (gd [(p1.Kind != 0)] (some (mget p2 p0.nodes, mhas p2 p0.nodes))).bind fun (y1 : (GNode × Bool)) => (gd [(!((p1.Kind != 0) && (p1.Kind != y1.1.Kind))), (!(sEq p1.Class (⟨#[]⟩ : ByteArray)))] (some (mget p2 p0.class_, mhas p2 p0.class_))).bind fun (y2 : (ByteArray × Bool)) => (if (((p1.Kind != 0) && (p1.Kind != y1.1.Kind)) || ((!(sEq p1.Class (⟨#[]⟩ : ByteArray))) && (!(sEq p1.Class y2.1)))) = true then some false else (some (mget p2 p0.states, mhas p2 p0.states)).bind fun (y3 : (Int × Bool)) => (gd [((bAnd .i64 y3.1 p1.States) == p1.States)] (shape_under n p0 p1 p2)).bind fun (y4 : Bool) => some (((bAnd .i64 y3.1 p1.States) == p1.States) && y4))
theorem shape_matches_ok  (n : Nat) (p0 : Gshape) (p1 : GRule) (p2 : Int) (r : Bool) (h : shape_matches n p0 p1 p2 = some r) : FnD E 72 0 [.agg [.lmap true (List.map (eM (Value.int .i64) eGNode) p0.nodes), .lmap false (List.map (eM (Value.int .i64) eS) p0.class_), .lmap false (List.map (eM (Value.int .i64) eI64) p0.states)], .agg [I p1.Kind, Sx p1.Class, I p1.States, I p1.UnderKind, Sx p1.UnderClass, .lit (List.map eGDecl p1.Decls)], .c (I p2)] [] (.c (Bo r)) [] := by
  refine zfn Tryd.func72 rfl ?_
  unfold shape_matches at h
  refine za [2, 3, 4] ?_
  refine aw_seq ?_
  refine zx fun _ => ?_
  refine zk 4 ?_
  refine zE (.c (.ptr 1 0)) ?_
  refine zE (.c (I p1.Kind)) ?_
  refine zE (.c (.ptr 0 0)) ?_
  refine zn (L2 := [(2, .c (I p2)), (3, .c (.ptr 0 0)), (4, .c (.ptr 1 0)), (7, .c (.ptr 1 0)), (8, .c (I p1.Kind)), (9, .c (Bo (p1.Kind != 0))), (10, .c (Bo (p1.Kind != 0))), (11, .cnd [(p1.Kind != 0)] (.c (.ptr 1 0))), (12, .cnd [(p1.Kind != 0)] (.c (I p1.Kind))), (13, .cnd [(p1.Kind != 0)] (.c (.ptr 0 0)))]) (G2 := [(0, .blk 100 [.lmap true (List.map (eM (Value.int .i64) eGNode) p0.nodes), .lmap false (List.map (eM (Value.int .i64) eS) p0.class_), .lmap false (List.map (eM (Value.int .i64) eI64) p0.states)]), (1, .blk 33 [I p1.Kind, Sx p1.Class, I p1.States, I p1.UnderKind, Sx p1.UnderClass, .lit (List.map eGDecl p1.Decls)])]) (X2 := []) ?_
  refine zE (.c (.lmap true (List.map (eM (Value.int .i64) eGNode) p0.nodes))) ?_
  refine zE (.c (I p2)) ?_
  obtain ⟨y1, he, h⟩ := bindE h
  refine rx_EW (e := [(p1.Kind != 0)]) [(14, .c (.lmap true (List.map (eM (Value.int .i64) eGNode) p0.nodes)), some 1), (15, .c (I p2), some 1)] (v := .agg [I y1.1.ID, I y1.1.Parent, I y1.1.Kind, Sx y1.1.Key, .lit (List.map eGAttr y1.1.Attrs), .lit (List.map eGAction y1.1.Actions), .lit (List.map eI64 y1.1.Kids)]) (foot := []) (by kernel_rfl) (by kernel_rfl) (by kernel_rfl) (fun hg => rdW_lookup (kf := (Value.int .i64)) (enc := eGNode) (l := p0.nodes) (k := p2) (ok := false) (kk := .int .i64) (j := ⟨.st [(3, 0, 1), (3, 1, 1), (3, 2, 1), (9, 3, 1), (61, 4, 1), (62, 5, 1), (37, 6, 1)], 7, 112, [.int .i64 0, .int .i64 0, .int .i64 0, .string ⟨#[]⟩, .slice none 0 0, .slice none 0 0, .slice none 0 0]⟩) (p := y1) (v := .agg [I y1.1.ID, I y1.1.Parent, I y1.1.Kind, Sx y1.1.Key, .lit (List.map eGAttr y1.1.Attrs), .lit (List.map eGAction y1.1.Actions), .lit (List.map eI64 y1.1.Kids)]) (gd_spec he hg) (by kernel_rfl) keyInt (by kernel_rfl) (by kernel_rfl) (by kernel_rfl)) rfl rfl ?_
  clear he
  refine zE (.c (I y1.1.Kind)) ?_
  refine zE (.c (Bo (p1.Kind != y1.1.Kind))) ?_
  refine zn (L2 := [(2, .c (I p2)), (3, .c (.ptr 0 0)), (4, .c (.ptr 1 0)), (7, .c (.ptr 1 0)), (8, .c (I p1.Kind)), (9, .c (Bo (p1.Kind != 0))), (10, .c (Bo (p1.Kind != 0))), (11, .cnd [(p1.Kind != 0)] (.c (.ptr 1 0))), (12, .cnd [(p1.Kind != 0)] (.c (I p1.Kind))), (13, .cnd [(p1.Kind != 0)] (.c (.ptr 0 0))), (14, .cnd [(p1.Kind != 0)] (.c (.lmap true (List.map (eM (Value.int .i64) eGNode) p0.nodes)))), (15, .cnd [(p1.Kind != 0)] (.c (I p2))), (16, .cnd [(p1.Kind != 0)] (.agg [I y1.1.ID, I y1.1.Parent, I y1.1.Kind, Sx y1.1.Key, .lit (List.map eGAttr y1.1.Attrs), .lit (List.map eGAction y1.1.Actions), .lit (List.map eI64 y1.1.Kids)])), (17, .cnd [(p1.Kind != 0)] (.c (I y1.1.Kind))), (18, .cnd [(p1.Kind != 0)] (.c (Bo (p1.Kind != y1.1.Kind))))]) (G2 := [(0, .blk 100 [.lmap true (List.map (eM (Value.int .i64) eGNode) p0.nodes), .lmap false (List.map (eM (Value.int .i64) eS) p0.class_), .lmap false (List.map (eM (Value.int .i64) eI64) p0.states)]), (1, .blk 33 [I p1.Kind, Sx p1.Class, I p1.States, I p1.UnderKind, Sx p1.UnderClass, .lit (List.map eGDecl p1.Decls)])]) (X2 := []) ?_
  refine zP (.bool ((p1.Kind != 0) && (p1.Kind != y1.1.Kind))) ?_
  refine zk 1 ?_
  refine zE (.c (.ptr 1 1)) ?_
  refine zE (.c (Sx p1.Class)) ?_
  refine zE (.c (Bo (!(sEq p1.Class (⟨#[]⟩ : ByteArray))))) ?_
  refine zn (L2 := [(2, .c (I p2)), (3, .c (.ptr 0 0)), (4, .c (.ptr 1 0)), (7, .c (.ptr 1 0)), (8, .c (I p1.Kind)), (9, .c (Bo (p1.Kind != 0))), (10, .c (Bo (p1.Kind != 0))), (11, .cnd [(p1.Kind != 0)] (.c (.ptr 1 0))), (12, .cnd [(p1.Kind != 0)] (.c (I p1.Kind))), (13, .cnd [(p1.Kind != 0)] (.c (.ptr 0 0))), (14, .cnd [(p1.Kind != 0)] (.c (.lmap true (List.map (eM (Value.int .i64) eGNode) p0.nodes)))), (15, .cnd [(p1.Kind != 0)] (.c (I p2))), (16, .cnd [(p1.Kind != 0)] (.agg [I y1.1.ID, I y1.1.Parent, I y1.1.Kind, Sx y1.1.Key, .lit (List.map eGAttr y1.1.Attrs), .lit (List.map eGAction y1.1.Actions), .lit (List.map eI64 y1.1.Kids)])), (17, .cnd [(p1.Kind != 0)] (.c (I y1.1.Kind))), (18, .cnd [(p1.Kind != 0)] (.c (Bo (p1.Kind != y1.1.Kind)))), (19, .c (Bo ((p1.Kind != 0) && (p1.Kind != y1.1.Kind)))), (20, .c (Bo ((p1.Kind != 0) && (p1.Kind != y1.1.Kind)))), (21, .cnd [(!((p1.Kind != 0) && (p1.Kind != y1.1.Kind)))] (.c (.ptr 1 1))), (22, .cnd [(!((p1.Kind != 0) && (p1.Kind != y1.1.Kind)))] (.c (Sx p1.Class))), (23, .cnd [(!((p1.Kind != 0) && (p1.Kind != y1.1.Kind)))] (.c (Bo (!(sEq p1.Class (⟨#[]⟩ : ByteArray))))))]) (G2 := [(0, .blk 100 [.lmap true (List.map (eM (Value.int .i64) eGNode) p0.nodes), .lmap false (List.map (eM (Value.int .i64) eS) p0.class_), .lmap false (List.map (eM (Value.int .i64) eI64) p0.states)]), (1, .blk 33 [I p1.Kind, Sx p1.Class, I p1.States, I p1.UnderKind, Sx p1.UnderClass, .lit (List.map eGDecl p1.Decls)])]) (X2 := []) ?_
  refine zF [(!((p1.Kind != 0) && (p1.Kind != y1.1.Kind)))] (.c (Bo (!(sEq p1.Class (⟨#[]⟩ : ByteArray))))) ?_
  refine zE (.c (.ptr 1 1)) ?_
  refine zE (.c (Sx p1.Class)) ?_
  refine zE (.c (.ptr 0 1)) ?_
  refine zE (.c (.lmap false (List.map (eM (Value.int .i64) eS) p0.class_))) ?_
  refine zn (L2 := [(2, .c (I p2)), (3, .c (.ptr 0 0)), (4, .c (.ptr 1 0)), (7, .c (.ptr 1 0)), (8, .c (I p1.Kind)), (9, .c (Bo (p1.Kind != 0))), (10, .c (Bo (p1.Kind != 0))), (11, .cnd [(p1.Kind != 0)] (.c (.ptr 1 0))), (12, .cnd [(p1.Kind != 0)] (.c (I p1.Kind))), (13, .cnd [(p1.Kind != 0)] (.c (.ptr 0 0))), (14, .cnd [(p1.Kind != 0)] (.c (.lmap true (List.map (eM (Value.int .i64) eGNode) p0.nodes)))), (15, .cnd [(p1.Kind != 0)] (.c (I p2))), (16, .cnd [(p1.Kind != 0)] (.agg [I y1.1.ID, I y1.1.Parent, I y1.1.Kind, Sx y1.1.Key, .lit (List.map eGAttr y1.1.Attrs), .lit (List.map eGAction y1.1.Actions), .lit (List.map eI64 y1.1.Kids)])), (17, .cnd [(p1.Kind != 0)] (.c (I y1.1.Kind))), (18, .cnd [(p1.Kind != 0)] (.c (Bo (p1.Kind != y1.1.Kind)))), (19, .c (Bo ((p1.Kind != 0) && (p1.Kind != y1.1.Kind)))), (20, .c (Bo ((p1.Kind != 0) && (p1.Kind != y1.1.Kind)))), (21, .cnd [(!((p1.Kind != 0) && (p1.Kind != y1.1.Kind)))] (.c (.ptr 1 1))), (22, .cnd [(!((p1.Kind != 0) && (p1.Kind != y1.1.Kind)))] (.c (Sx p1.Class))), (23, .cnd [(!((p1.Kind != 0) && (p1.Kind != y1.1.Kind)))] (.c (Bo (!(sEq p1.Class (⟨#[]⟩ : ByteArray)))))), (24, .cnd [(!((p1.Kind != 0) && (p1.Kind != y1.1.Kind)))] (.c (Bo (!(sEq p1.Class (⟨#[]⟩ : ByteArray)))))), (25, .cnd [(!((p1.Kind != 0) && (p1.Kind != y1.1.Kind))), (!(sEq p1.Class (⟨#[]⟩ : ByteArray)))] (.c (.ptr 1 1))), (26, .cnd [(!((p1.Kind != 0) && (p1.Kind != y1.1.Kind))), (!(sEq p1.Class (⟨#[]⟩ : ByteArray)))] (.c (Sx p1.Class))), (27, .cnd [(!((p1.Kind != 0) && (p1.Kind != y1.1.Kind))), (!(sEq p1.Class (⟨#[]⟩ : ByteArray)))] (.c (.ptr 0 1))), (28, .cnd [(!((p1.Kind != 0) && (p1.Kind != y1.1.Kind))), (!(sEq p1.Class (⟨#[]⟩ : ByteArray)))] (.c (.lmap false (List.map (eM (Value.int .i64) eS) p0.class_))))]) (G2 := [(0, .blk 100 [.lmap true (List.map (eM (Value.int .i64) eGNode) p0.nodes), .lmap false (List.map (eM (Value.int .i64) eS) p0.class_), .lmap false (List.map (eM (Value.int .i64) eI64) p0.states)]), (1, .blk 33 [I p1.Kind, Sx p1.Class, I p1.States, I p1.UnderKind, Sx p1.UnderClass, .lit (List.map eGDecl p1.Decls)])]) (X2 := []) ?_
  refine zE (.c (I p2)) ?_
  obtain ⟨y2, he, h⟩ := bindE h
  refine rx_EW (e := [(!((p1.Kind != 0) && (p1.Kind != y1.1.Kind))), (!(sEq p1.Class (⟨#[]⟩ : ByteArray)))]) [(28, .c (.lmap false (List.map (eM (Value.int .i64) eS) p0.class_)), some 2), (29, .c (I p2), some 2)] (v := .c (Sx y2.1)) (foot := []) (by kernel_rfl) (by kernel_rfl) (by kernel_rfl) (fun hg => rdW_lookup (kf := (Value.int .i64)) (enc := eS) (l := p0.class_) (k := p2) (ok := false) (kk := .int .i64) (j := ⟨.str, 1, 16, [.string ⟨#[]⟩]⟩) (p := y2) (v := .c (Sx y2.1)) (gd_spec he hg) (by kernel_rfl) keyInt (by kernel_rfl) (by kernel_rfl) (by kernel_rfl)) rfl rfl ?_
  clear he
  refine zE (.c (Bo (!(sEq p1.Class y2.1)))) ?_
  refine zP (.bool ((!(sEq p1.Class (⟨#[]⟩ : ByteArray))) && (!(sEq p1.Class y2.1)))) ?_
  refine zP (.bool (((p1.Kind != 0) && (p1.Kind != y1.1.Kind)) || ((!(sEq p1.Class (⟨#[]⟩ : ByteArray))) && (!(sEq p1.Class y2.1))))) ?_
  refine ze [2, 3, 4, 33] ?_
  refine zi h (fun h => ?_) fun h => ?_
  refine za [6] ?_
  cases h
  exact aw_ret zr
  refine aw_skip ?_
  refine zx fun _ => ?_
  refine zke 3 (L' := [(2, .c (I p2)), (3, .c (.ptr 0 0)), (4, .c (.ptr 1 0)), (33, .c (Bo (((p1.Kind != 0) && (p1.Kind != y1.1.Kind)) || ((!(sEq p1.Class (⟨#[]⟩ : ByteArray))) && (!(sEq p1.Class y2.1)))))), (34, .c (.ptr 0 2)), (35, .c (.lmap false (List.map (eM (Value.int .i64) eI64) p0.states))), (36, .c (I p2))]) (G' := [(0, .blk 100 [.lmap true (List.map (eM (Value.int .i64) eGNode) p0.nodes), .lmap false (List.map (eM (Value.int .i64) eS) p0.class_), .lmap false (List.map (eM (Value.int .i64) eI64) p0.states)]), (1, .blk 33 [I p1.Kind, Sx p1.Class, I p1.States, I p1.UnderKind, Sx p1.UnderClass, .lit (List.map eGDecl p1.Decls)])]) (X' := []) ?_
  obtain ⟨y3, he, h⟩ := bindE h
  refine zw (v := .c (I y3.1)) [] (rdW_lookup (kf := (Value.int .i64)) (enc := eI64) (l := p0.states) (k := p2) (ok := false) (kk := .int .i64) (j := ⟨.int .i64, 1, 8, [.int .i64 0]⟩) (p := y3) (v := .c (I y3.1)) he (by kernel_rfl) keyInt (by kernel_rfl) (by kernel_rfl) (by kernel_rfl)) ?_
  clear he
  refine zk 7 ?_
  refine zE (.agg [.lmap true (List.map (eM (Value.int .i64) eGNode) p0.nodes), .lmap false (List.map (eM (Value.int .i64) eS) p0.class_), .lmap false (List.map (eM (Value.int .i64) eI64) p0.states)]) ?_
  refine zE (.agg [I p1.Kind, Sx p1.Class, I p1.States, I p1.UnderKind, Sx p1.UnderClass, .lit (List.map eGDecl p1.Decls)]) ?_
  refine zE (.c (I p2)) ?_
  refine zn (L2 := [(2, .c (I p2)), (3, .c (.ptr 0 0)), (4, .c (.ptr 1 0)), (33, .c (Bo (((p1.Kind != 0) && (p1.Kind != y1.1.Kind)) || ((!(sEq p1.Class (⟨#[]⟩ : ByteArray))) && (!(sEq p1.Class y2.1)))))), (34, .c (.ptr 0 2)), (35, .c (.lmap false (List.map (eM (Value.int .i64) eI64) p0.states))), (36, .c (I p2)), (37, .c (I y3.1)), (38, .c (.ptr 1 2)), (39, .c (I p1.States)), (40, .c (I (bAnd .i64 y3.1 p1.States))), (41, .c (.ptr 1 2)), (42, .c (I p1.States)), (43, .c (Bo ((bAnd .i64 y3.1 p1.States) == p1.States))), (44, .c (Bo ((bAnd .i64 y3.1 p1.States) == p1.States))), (45, .cnd [((bAnd .i64 y3.1 p1.States) == p1.States)] (.agg [.lmap true (List.map (eM (Value.int .i64) eGNode) p0.nodes), .lmap false (List.map (eM (Value.int .i64) eS) p0.class_), .lmap false (List.map (eM (Value.int .i64) eI64) p0.states)])), (46, .cnd [((bAnd .i64 y3.1 p1.States) == p1.States)] (.agg [I p1.Kind, Sx p1.Class, I p1.States, I p1.UnderKind, Sx p1.UnderClass, .lit (List.map eGDecl p1.Decls)])), (47, .cnd [((bAnd .i64 y3.1 p1.States) == p1.States)] (.c (I p2)))]) (G2 := [(0, .blk 100 [.lmap true (List.map (eM (Value.int .i64) eGNode) p0.nodes), .lmap false (List.map (eM (Value.int .i64) eS) p0.class_), .lmap false (List.map (eM (Value.int .i64) eI64) p0.states)]), (1, .blk 33 [I p1.Kind, Sx p1.Class, I p1.States, I p1.UnderKind, Sx p1.UnderClass, .lit (List.map eGDecl p1.Decls)])]) (X2 := []) ?_
  obtain ⟨y4, he, h⟩ := bindE h
  refine zk1 [((bAnd .i64 y3.1 p1.States) == p1.States)] fok88 (fun hg => shape_under_ok n _ _ _ y4 (gd_spec he hg)) ?_
  clear he
  refine zP (.bool (((bAnd .i64 y3.1 p1.States) == p1.States) && y4)) ?_
  refine zk 1 ?_
  refine ze [6] ?_
  cases h
  exact aw_ret zr
def theme_Lookup_L0 (p0 : GTheme) (p2 : ByteArray) (p1 : GMode) (j1 : Unit → Option (Int × Bool)) : Nat → Int → Option (Int × Bool)
  | 0, _ => none
  | n + 1, v3 => (if (decide (v3 < (List.length p0.Tokens : Int))) = true then (idx p0.Tokens v3).bind fun (e4 : GToken) => (if (!(sEq e4.Name p2)) = true then theme_Lookup_L0 p0 p2 p1 j1 n (IntKind.wrap .i64 (v3 + 1)) else (if (p1.High && p1.Dark) = true then some (e4.HighDark, true) else (if p1.High = true then some (e4.HighLight, true) else (if p1.Dark = true then some (e4.Dark, true) else some (e4.Light, true))))) else j1 ())
def theme_Lookup  (n : Nat) (p0 : GTheme) (p1 : GMode) (p2 : ByteArray) : Option (Int × Bool) := (withJ (fun (_ : Unit) => some (0, false)) (fun (j1 : Unit → Option (Int × Bool)) => theme_Lookup_L0 p0 p2 p1 j1 n 0))
theorem theme_Lookup_ok  (n : Nat) (p0 : GTheme) (p1 : GMode) (p2 : ByteArray) (r : (Int × Bool)) (h : theme_Lookup n p0 p1 p2 = some r) : FnD E 73 0 [.agg [.lit (List.map eGToken p0.Tokens)], .agg [Bo p1.Dark, Bo p1.High, I p1.Scale], .c (Sx p2)] [] (.tup [.c (I r.1), .c (Bo r.2)]) [] := by
  refine zfn Tryd.func73 rfl ?_
  unfold theme_Lookup at h
  refine za [2, 3, 4] ?_
  refine aw_join h (fun A j => ∀ u, j u = some r → A (mk [] [] 0)) (fun u h => ?_) (fun j1 Aj1 hj1 h => ?_)
  refine za [6, 7] ?_
  cases h
  exact aw_ret zr
  refine zx fun _ => ?_
  refine zk 2 ?_
  refine zl eGToken p0.Tokens ?_
  refine zk 1 ?_
  refine ze [2, 4, 11, 12, 13] ?_
  refine aw_block ?_
  refine aw_loopJ (fun n s => ∃ v3, theme_Lookup_L0 p0 p2 p1 j1 n v3 = some r ∧ s = mk [(2, .c (Sx p2)), (4, .c (.ptr 0 0)), (11, .c (.lit (List.map eGToken p0.Tokens))), (12, .c (I (List.length p0.Tokens : Int))), (13, .c (I v3))] [(0, .blk 52 [Bo p1.Dark, Bo p1.High, I p1.Scale])] 1) n _ (zv [(1, 0)] [2, 4, 11, 12, 13] 1) ⟨_, h, rfl⟩ (fun s ⟨v3, h, _⟩ => nomatch h) ?_
  rintro n s ⟨v3, h, rfl⟩
  rw [theme_Lookup_L0] at h
  refine za [2, 4, 11, 12, 13, 14] ?_
  refine aw_seq ?_
  refine zi h (fun h => ?_) fun h => ?_
  refine aw_skip ?_
  refine aw_seq ?_
  refine aw_block ?_
  refine zx fun _ => ?_
  obtain ⟨e4, he, h⟩ := bindE h
  refine zd eGToken he ?_
  clear he
  refine zk 3 ?_
  refine ze [2, 4, 9, 11, 12, 13] ?_
  refine aw_seq ?_
  refine za [2, 4, 9, 11, 12, 13, 20] ?_
  refine zi h (fun h => ?_) fun h => ?_
  refine aw_exit ?_
  refine aw_out ?_
  refine zb ?_
  exact via (zv [(0, 0)] [2, 4, 11, 12, 13] 1) (⟨_, h, rfl⟩)
  refine aw_skip ?_
  refine aw_seq ?_
  refine aw_block ?_
  refine zx fun _ => ?_
  refine zk 3 ?_
  refine zE (.c (.ptr 0 0)) ?_
  refine zE (.c (Bo p1.Dark)) ?_
  refine zP (.bool (p1.High && p1.Dark)) ?_
  refine zk 1 ?_
  refine ze [4, 9, 21] ?_
  refine zi h (fun h => ?_) fun h => ?_
  refine za [6, 7] ?_
  cases h
  exact aw_ret zr
  refine za [4, 9, 30] ?_
  refine zi h (fun h => ?_) fun h => ?_
  refine za [6, 7] ?_
  cases h
  exact aw_ret zr
  refine za [9, 35] ?_
  refine zi h (fun h => ?_) fun h => ?_
  refine za [6, 7] ?_
  cases h
  exact aw_ret zr
  refine aw_skip ?_
  refine za [6, 7] ?_
  cases h
  exact aw_ret zr
  exact aw_views (zv [] [] 0) (aw_exit (hj1 _ h))
def cascade_choose_L1 (e32 : GRule) (p0 : Gcascade) (j28 : List (Int × GDecl) → Option (List (Int × GDecl))) (p1 : Int) (v26 : Int) : Nat → Int → List (Int × GDecl) → Option (List (Int × GDecl))
  | 0, _, _ => none
  | n + 1, v40, v41 => (if (decide (v40 < (List.length e32.Decls : Int))) = true then (withJ (fun (v48 : List (Int × GDecl)) => cascade_choose_L1 e32 p0 j28 p1 v26 n (IntKind.wrap .i64 (v40 + 1)) v48) (fun (j42 : List (Int × GDecl) → Option (List (Int × GDecl))) => (idx e32.Decls v40).bind fun (e43 : GDecl) => (withJ (fun (v47 : Int) => j42 (mput e43.Prop_ (GDecl.mk e43.Prop_ e43.Source v47 e43.Token) v41)) (fun (j44 : Int → Option (List (Int × GDecl))) => (if (e43.Source == 1) = true then (theme_Lookup n p0.th p0.m e43.Token).bind fun (y45 : (Int × Bool)) => (gd [(!(!y45.2))] (style_InRange n e43.Prop_ y45.1)).bind fun (y46 : Bool) => (if ((!y45.2) || (!y46)) = true then j42 v41 else j44 y45.1) else j44 e43.N))))) else j28 v41)
def cascade_choose_L0 (p0 : Gcascade) (p1 : Int) (j1 : List (Int × GDecl) → Option (List (Int × GDecl))) : Nat → Int → List (Int × GDecl) → Option (List (Int × GDecl))
  | 0, _, _ => none
  | n + 1, v26, v27 => (if (decide (v26 < (List.length p0.order : Int))) = true then (withJ (fun (v51 : List (Int × GDecl)) => cascade_choose_L0 p0 p1 j1 n (IntKind.wrap .i64 (v26 + 1)) v51) (fun (j28 : List (Int × GDecl) → Option (List (Int × GDecl))) => (idx p0.order v26).bind fun (e29 : Int) => (idx p0.rules e29).bind fun (e30 : GRule) => (shape_matches n p0.shape e30 p1).bind fun (y31 : Bool) => (if (!y31) = true then j28 v27 else (idx p0.rules e29).bind fun (e32 : GRule) => cascade_choose_L1 e32 p0 j28 p1 v26 n 0 v27))) else j1 v27)
def cascade_choose  (n : Nat) (p0 : Gcascade) (p1 : Int) : Option (List (Int × GDecl)) := (withJ (fun (v54 : List (Int × GDecl)) => some v54) (fun (j1 : List (Int × GDecl) → Option (List (Int × GDecl))) => cascade_choose_L0 p0 p1 j1 n 0 ([] : List (Int × GDecl))))
theorem cascade_choose_ok  (n : Nat) (p0 : Gcascade) (p1 : Int) (r : (List (Int × GDecl))) (h : cascade_choose n p0 p1 = some r) : FnD E 59 0 [.agg [.lmap true (List.map (eM (Value.int .i64) eGNode) p0.shape.nodes), .lmap false (List.map (eM (Value.int .i64) eS) p0.shape.class_), .lmap false (List.map (eM (Value.int .i64) eI64) p0.shape.states), .lit (List.map eGRule p0.rules), .lit (List.map eI64 p0.order), .lit (List.map eGToken p0.th.Tokens), Bo p0.m.Dark, Bo p0.m.High, I p0.m.Scale], .c (I p1)] [] (.c (.lmap true (List.map (eM (Value.int .i64) eGDecl) r))) [] := by
  refine zfn Tryd.func59 rfl ?_
  unfold cascade_choose at h
  refine za [1, 2] ?_
  refine za [1, 2, 5] ?_
  refine aw_join h (fun A j => ∀ v54, j v54 = some r → A (mk [(5, .c (.mapr 0))] [(0, .map true (List.map (eM (Value.int .i64) eGDecl) v54))] 1)) (fun v54 h => ?_) (fun j1 Aj1 hj1 h => ?_)
  refine za [4] ?_
  refine aw_views (view_frzM 0 (ag := true) (l := List.map (eM (Value.int .i64) eGDecl) v54) (L2 := [(4, .c (.lmap true (List.map (eM (Value.int .i64) eGDecl) v54)))]) (G2 := []) (by kernel_rfl) (by kernel_rfl) (by kernel_rfl)) ?_
  cases h
  exact aw_ret zr
  refine zx fun _ => ?_
  refine zk 2 ?_
  refine zl eI64 p0.order ?_
  refine zk 1 ?_
  refine ze [1, 2, 5, 14, 15, 16] ?_
  refine aw_block ?_
  refine aw_loopJ (fun n s => ∃ v26 v27, cascade_choose_L0 p0 p1 j1 n v26 v27 = some r ∧ s = mk [(1, .c (I p1)), (2, .c (.ptr 0 0)), (5, .c (.mapr 1)), (14, .c (.lit (List.map eI64 p0.order))), (15, .c (I (List.length p0.order : Int))), (16, .c (I v26))] [(0, .blk 103 [.lmap true (List.map (eM (Value.int .i64) eGNode) p0.shape.nodes), .lmap false (List.map (eM (Value.int .i64) eS) p0.shape.class_), .lmap false (List.map (eM (Value.int .i64) eI64) p0.shape.states), .lit (List.map eGRule p0.rules), .lit (List.map eI64 p0.order), .lit (List.map eGToken p0.th.Tokens), Bo p0.m.Dark, Bo p0.m.High, I p0.m.Scale]), (1, .map true (List.map (eM (Value.int .i64) eGDecl) v27))] 2) n _ (zv [(0, 0), (2, 1)] [1, 2, 5, 14, 15, 16] 2) ⟨_, _, h, rfl⟩ (fun s ⟨v26, v27, h, _⟩ => nomatch h) ?_
  rintro n s ⟨v26, v27, h, rfl⟩
  rw [cascade_choose_L0] at h
  refine za [1, 2, 5, 14, 15, 16, 17] ?_
  refine aw_seq ?_
  refine zi h (fun h => ?_) fun h => ?_
  refine aw_skip ?_
  refine aw_join h (fun A j => ∀ v51, j v51 = some r → A (mk [(1, .c (I p1)), (2, .c (.ptr 0 0)), (5, .c (.mapr 1)), (14, .c (.lit (List.map eI64 p0.order))), (15, .c (I (List.length p0.order : Int))), (16, .c (I v26))] [(0, .blk 103 [.lmap true (List.map (eM (Value.int .i64) eGNode) p0.shape.nodes), .lmap false (List.map (eM (Value.int .i64) eS) p0.shape.class_), .lmap false (List.map (eM (Value.int .i64) eI64) p0.shape.states), .lit (List.map eGRule p0.rules), .lit (List.map eI64 p0.order), .lit (List.map eGToken p0.th.Tokens), Bo p0.m.Dark, Bo p0.m.High, I p0.m.Scale]), (1, .map true (List.map (eM (Value.int .i64) eGDecl) v51))] 2)) (fun v51 h => ?_) (fun j28 Aj28 hj28 h => ?_)
  refine aw_out ?_
  refine zb ?_
  exact via (zv [(0, 0), (1, 1)] [1, 2, 5, 14, 15, 16] 2) (⟨_, _, h, rfl⟩)
  refine aw_block ?_
  refine zx fun _ => ?_
  obtain ⟨e29, he, h⟩ := bindE h
  refine zd eI64 he ?_
  clear he
  refine zk 2 ?_
  refine ze [1, 2, 5, 7, 14, 15, 16] ?_
  refine aw_seq ?_
  refine zdx [[], [0], [], [2], [], [3, 4, 2], [5, 3, 4, 2], [], [1, 6, 7, 0, 5, 3, 4, 2], [8, 1, 6, 7, 0, 5, 3, 4, 2]] fun _ => ?_
  refine zk 5 ?_
  obtain ⟨e30, he, h⟩ := bindE h
  refine zd eGRule he ?_
  clear he
  refine zk 2 ?_
  obtain ⟨y31, he, h⟩ := bindE h
  refine zc fok72 (shape_matches_ok n _ _ _ y31 he) ?_
  clear he
  refine zk 1 ?_
  refine ze [1, 2, 5, 7, 14, 15, 16, 29] ?_
  refine zi h (fun h => ?_) fun h => ?_
  exact aw_views (zv [(0, 0), (1, 1)] [1, 2, 5, 14, 15, 16] 2) (aw_exit (hj28 _ h))
  refine aw_skip ?_
  refine zx fun _ => ?_
  refine zk 3 ?_
  obtain ⟨e32, he, h⟩ := bindE h
  refine zd eGRule he ?_
  clear he
  refine zk 2 ?_
  refine zl eGDecl e32.Decls ?_
  refine zk 1 ?_
  refine zee [1, 2, 5, 14, 15, 16, 35, 36, 37] (L2 := [(1, .c (I p1)), (2, .c (.ptr 0 0)), (5, .c (.mapr 1)), (14, .c (.lit (List.map eI64 p0.order))), (15, .c (I (List.length p0.order : Int))), (16, .c (I v26)), (35, .c (.lit (List.map eGDecl e32.Decls))), (36, .c (I (List.length e32.Decls : Int))), (37, .c (I 0))]) (G2 := [(0, .blk 103 [.lmap true (List.map (eM (Value.int .i64) eGNode) p0.shape.nodes), .lmap false (List.map (eM (Value.int .i64) eS) p0.shape.class_), .lmap false (List.map (eM (Value.int .i64) eI64) p0.shape.states), .lit (List.map eGRule p0.rules), .lit (List.map eI64 p0.order), .lit (List.map eGToken p0.th.Tokens), Bo p0.m.Dark, Bo p0.m.High, I p0.m.Scale]), (1, .map true (List.map (eM (Value.int .i64) eGDecl) v27))]) 24 ?_
  refine aw_block ?_
  refine aw_loopJ (fun n s => ∃ v40 v41, cascade_choose_L1 e32 p0 j28 p1 v26 n v40 v41 = some r ∧ s = mk [(1, .c (I p1)), (2, .c (.ptr 0 0)), (5, .c (.mapr 1)), (14, .c (.lit (List.map eI64 p0.order))), (15, .c (I (List.length p0.order : Int))), (16, .c (I v26)), (35, .c (.lit (List.map eGDecl e32.Decls))), (36, .c (I (List.length e32.Decls : Int))), (37, .c (I v40))] [(0, .blk 103 [.lmap true (List.map (eM (Value.int .i64) eGNode) p0.shape.nodes), .lmap false (List.map (eM (Value.int .i64) eS) p0.shape.class_), .lmap false (List.map (eM (Value.int .i64) eI64) p0.shape.states), .lit (List.map eGRule p0.rules), .lit (List.map eI64 p0.order), .lit (List.map eGToken p0.th.Tokens), Bo p0.m.Dark, Bo p0.m.High, I p0.m.Scale]), (1, .map true (List.map (eM (Value.int .i64) eGDecl) v41))] 2) n _ (zv [(0, 0), (1, 1)] [1, 2, 5, 14, 15, 16, 35, 36, 37] 2) ⟨_, _, h, rfl⟩ (fun s ⟨v40, v41, h, _⟩ => nomatch h) ?_
  rintro n s ⟨v40, v41, h, rfl⟩
  rw [cascade_choose_L1] at h
  refine za [1, 2, 5, 14, 15, 16, 35, 36, 37, 38] ?_
  refine aw_seq ?_
  refine zi h (fun h => ?_) fun h => ?_
  refine aw_skip ?_
  refine aw_join h (fun A j => ∀ v48, j v48 = some r → A (mk [(1, .c (I p1)), (2, .c (.ptr 0 0)), (5, .c (.mapr 1)), (14, .c (.lit (List.map eI64 p0.order))), (15, .c (I (List.length p0.order : Int))), (16, .c (I v26)), (35, .c (.lit (List.map eGDecl e32.Decls))), (36, .c (I (List.length e32.Decls : Int))), (37, .c (I v40))] [(0, .blk 103 [.lmap true (List.map (eM (Value.int .i64) eGNode) p0.shape.nodes), .lmap false (List.map (eM (Value.int .i64) eS) p0.shape.class_), .lmap false (List.map (eM (Value.int .i64) eI64) p0.shape.states), .lit (List.map eGRule p0.rules), .lit (List.map eI64 p0.order), .lit (List.map eGToken p0.th.Tokens), Bo p0.m.Dark, Bo p0.m.High, I p0.m.Scale]), (1, .map true (List.map (eM (Value.int .i64) eGDecl) v48))] 2)) (fun v48 h => ?_) (fun j42 Aj42 hj42 h => ?_)
  refine aw_out ?_
  refine zb ?_
  exact via (zv [(0, 0), (1, 1)] [1, 2, 5, 14, 15, 16, 35, 36, 37] 2) (⟨_, _, h, rfl⟩)
  refine aw_block ?_
  refine zx fun _ => ?_
  obtain ⟨e43, he, h⟩ := bindE h
  refine zd eGDecl he ?_
  clear he
  refine zk 3 ?_
  refine ze [1, 2, 5, 9, 14, 15, 16, 35, 36, 37] ?_
  refine aw_join h (fun A j => ∀ v47, j v47 = some r → A (mk [(1, .c (I p1)), (2, .c (.ptr 0 0)), (5, .c (.mapr 1)), (14, .c (.lit (List.map eI64 p0.order))), (15, .c (I (List.length p0.order : Int))), (16, .c (I v26)), (35, .c (.lit (List.map eGDecl e32.Decls))), (36, .c (I (List.length e32.Decls : Int))), (37, .c (I v40)), (9, .c (.ptr 2 0))] [(0, .blk 103 [.lmap true (List.map (eM (Value.int .i64) eGNode) p0.shape.nodes), .lmap false (List.map (eM (Value.int .i64) eS) p0.shape.class_), .lmap false (List.map (eM (Value.int .i64) eI64) p0.shape.states), .lit (List.map eGRule p0.rules), .lit (List.map eI64 p0.order), .lit (List.map eGToken p0.th.Tokens), Bo p0.m.Dark, Bo p0.m.High, I p0.m.Scale]), (1, .map true (List.map (eM (Value.int .i64) eGDecl) v41)), (2, .blk 45 [I e43.Prop_, I e43.Source, I v47, Sx e43.Token])] 3)) (fun v47 h => ?_) (fun j44 Aj44 hj44 h => ?_)
  refine aw_out ?_
  refine zy fun _ => ?_
  refine zk 4 ?_
  refine rx_mapset (kf := (Value.int .i64)) (enc := eGDecl) (l := v41) (k := e43.Prop_) (v := (GDecl.mk e43.Prop_ e43.Source v47 e43.Token)) (n := 1) (ag := true) (kk := .int .i64) (by kernel_rfl) keyInt (by kernel_rfl) (by kernel_rfl) rfl rfl ?_
  refine x_last ?_
  exact via (zv [(0, 0), (1, 1)] [1, 2, 5, 14, 15, 16, 35, 36, 37] 2) (hj42 _ h)
  refine za [1, 2, 5, 9, 14, 15, 16, 35, 36, 37, 43] ?_
  refine zi h (fun h => ?_) fun h => ?_
  refine zx fun _ => ?_
  refine zk 6 ?_
  obtain ⟨y45, he, h⟩ := bindE h
  refine zc fok73 (theme_Lookup_ok n _ _ _ y45 he) ?_
  clear he
  refine zk 5 ?_
  refine ze [1, 2, 5, 9, 10, 11, 14, 15, 16, 35, 36, 37] ?_
  refine aw_seq ?_
  refine zx fun _ => ?_
  refine zk 3 ?_
  refine zE (.c (.ptr 5 0)) ?_
  refine zE (.c (I e43.Prop_)) ?_
  refine zE (.c (I y45.1)) ?_
  obtain ⟨y46, he, h⟩ := bindE h
  refine zk1 [(!(!y45.2))] fok11 (fun hg => style_InRange_ok n _ _ y46 (gd_spec he hg)) ?_
  clear he
  refine zE (.c (Bo (!y46))) ?_
  refine zP (.bool ((!y45.2) || (!y46))) ?_
  refine zee [1, 2, 5, 9, 10, 14, 15, 16, 35, 36, 37, 62] (L2 := [(1, .c (I p1)), (2, .c (.ptr 0 0)), (5, .c (.mapr 1)), (14, .c (.lit (List.map eI64 p0.order))), (15, .c (I (List.length p0.order : Int))), (16, .c (I v26)), (35, .c (.lit (List.map eGDecl e32.Decls))), (36, .c (I (List.length e32.Decls : Int))), (37, .c (I v40)), (9, .c (.ptr 5 0)), (10, .c (I y45.1)), (62, .c (Bo ((!y45.2) || (!y46))))]) (G2 := [(0, .blk 103 [.lmap true (List.map (eM (Value.int .i64) eGNode) p0.shape.nodes), .lmap false (List.map (eM (Value.int .i64) eS) p0.shape.class_), .lmap false (List.map (eM (Value.int .i64) eI64) p0.shape.states), .lit (List.map eGRule p0.rules), .lit (List.map eI64 p0.order), .lit (List.map eGToken p0.th.Tokens), Bo p0.m.Dark, Bo p0.m.High, I p0.m.Scale]), (1, .map true (List.map (eM (Value.int .i64) eGDecl) v41)), (5, .blk 45 [I e43.Prop_, I e43.Source, I e43.N, Sx e43.Token])]) 31 ?_
  refine zi h (fun h => ?_) fun h => ?_
  exact aw_views (zv [(0, 0), (1, 1)] [1, 2, 5, 14, 15, 16, 35, 36, 37] 2) (aw_exit (hj42 _ h))
  refine aw_skip ?_
  refine aw_out ?_
  refine zb ?_
  exact via (zv [(0, 0), (1, 1), (5, 2)] [1, 2, 5, 14, 15, 16, 35, 36, 37, 9] 3) (hj44 _ h)
  exact aw_views (zv [(0, 0), (1, 1), (5, 2)] [1, 2, 5, 14, 15, 16, 35, 36, 37, 9] 3) (aw_skip (hj44 _ h))
  exact aw_views (zv [(0, 0), (1, 1)] [1, 2, 5, 14, 15, 16] 2) (aw_exit (hj28 _ h))
  exact aw_views (zv [(1, 0)] [5] 1) (aw_exit (hj1 _ h))
def fixed_ok  (n : Nat) (p0 : Int) (p1 : Int) : Option Bool := some (((((p1 != 0) && (decide (p0 ≥ (-1152921504606846976 : Int)))) && (decide (p0 ≤ 1152921504606846976))) && (decide (p1 ≥ (-1152921504606846976 : Int)))) && (decide (p1 ≤ 1152921504606846976)))
theorem fixed_ok_ok  (n : Nat) (p0 : Int) (p1 : Int) (r : Bool) (h : fixed_ok n p0 p1 = some r) : FnD E 74 0 [.c (I p0), .c (I p1)] [] (.c (Bo r)) [] := by
  refine zfn Tryd.func74 rfl ?_
  unfold fixed_ok at h
  refine za [0, 1] ?_
  refine zx fun _ => ?_
  refine zk 3 ?_
  refine zE (.c (I p0)) ?_
  refine zE (.c (Bo (decide (p0 ≥ (-1152921504606846976 : Int))))) ?_
  refine zP (.bool ((p1 != 0) && (decide (p0 ≥ (-1152921504606846976 : Int))))) ?_
  refine zk 1 ?_
  refine zE (.c (I p0)) ?_
  refine zE (.c (Bo (decide (p0 ≤ 1152921504606846976)))) ?_
  refine zP (.bool (((p1 != 0) && (decide (p0 ≥ (-1152921504606846976 : Int)))) && (decide (p0 ≤ 1152921504606846976)))) ?_
  refine zk 1 ?_
  refine zE (.c (I p1)) ?_
  refine zE (.c (Bo (decide (p1 ≥ (-1152921504606846976 : Int))))) ?_
  refine zP (.bool ((((p1 != 0) && (decide (p0 ≥ (-1152921504606846976 : Int)))) && (decide (p0 ≤ 1152921504606846976))) && (decide (p1 ≥ (-1152921504606846976 : Int))))) ?_
  refine zk 1 ?_
  refine zE (.c (I p1)) ?_
  refine zE (.c (Bo (decide (p1 ≤ 1152921504606846976)))) ?_
  refine zP (.bool (((((p1 != 0) && (decide (p0 ≥ (-1152921504606846976 : Int)))) && (decide (p0 ≤ 1152921504606846976))) && (decide (p1 ≥ (-1152921504606846976 : Int)))) && (decide (p1 ≤ 1152921504606846976)))) ?_
  refine zk 1 ?_
  refine zee [4] (L2 := [(4, .c (Bo (((((p1 != 0) && (decide (p0 ≥ (-1152921504606846976 : Int)))) && (decide (p0 ≤ 1152921504606846976))) && (decide (p1 ≥ (-1152921504606846976 : Int)))) && (decide (p1 ≤ 1152921504606846976)))))]) (G2 := []) 20 ?_
  cases h
  exact aw_ret zr
def fixed_floor  (n : Nat) (p0 : Int) (p1 : Int) : Option Int := (nz p1).bind fun (d1 : Int) => (withJ (fun (v4 : Int) => some v4) (fun (j2 : Int → Option Int) => (nz p1).bind fun (d3 : Int) => (if (decide ((Int.tmod p0 p1) < 0)) = true then j2 (IntKind.wrap .i64 ((IntKind.wrap .i64 (Int.tdiv p0 p1)) - 1)) else j2 (IntKind.wrap .i64 (Int.tdiv p0 p1)))))
theorem fixed_floor_ok  (n : Nat) (p0 : Int) (p1 : Int) (r : Int) (h : fixed_floor n p0 p1 = some r) : FnD E 75 0 [.c (I p0), .c (I p1)] [] (.c (I r)) [] := by
  refine zfn Tryd.func75 rfl ?_
  unfold fixed_floor at h
  refine za [0, 1] ?_
  refine zx fun _ => ?_
  refine zk 2 ?_
  obtain ⟨d1, he, h⟩ := bindE h
  refine rx_rd (v := .c (I (IntKind.wrap .i64 (Int.tdiv p0 p1)))) (foot := []) (rd_quo (k := .i64) (x := p0) (y := p1) he (by kernel_rfl)) (by kernel_rfl) rfl rfl ?_
  clear he
  refine zk 1 ?_
  refine ze [0, 1, 5] ?_
  refine aw_join h (fun A j => ∀ v4, j v4 = some r → A (mk [(5, .c (I v4))] [] 0)) (fun v4 h => ?_) (fun j2 Aj2 hj2 h => ?_)
  refine za [4] ?_
  cases h
  exact aw_ret zr
  refine zx fun _ => ?_
  refine zk 2 ?_
  obtain ⟨d3, he, h⟩ := bindE h
  refine rx_rd (v := .c (I (Int.tmod p0 p1))) (foot := []) (rd_rem (k := .i64) (x := p0) (y := p1) he (by kernel_rfl)) (by kernel_rfl) rfl rfl ?_
  clear he
  refine zk 1 ?_
  refine ze [5, 12] ?_
  refine zi h (fun h => ?_) fun h => ?_
  refine aw_out ?_
  refine zb ?_
  exact via (zv [] [5] 0) (hj2 _ h)
  exact aw_views (zv [] [5] 0) (aw_skip (hj2 _ h))
def fixed_Round  (n : Nat) (p0 : Int) (p1 : Int) : Option Int := (fixed_ok n p0 p1).bind fun (y1 : Bool) => (if (!y1) = true then some 0 else (withJ (fun (v3 : Int) (v4 : Int) => (fixed_floor n (IntKind.wrap .i64 ((IntKind.wrap .i64 (2 * v3)) + v4)) (IntKind.wrap .i64 (2 * v4))).bind fun (y5 : Int) => some y5) (fun (j2 : Int → Int → Option Int) => (if (decide (p1 < 0)) = true then j2 (IntKind.wrap .i64 (0 - p0)) (IntKind.wrap .i64 (0 - p1)) else j2 p0 p1))))
theorem fixed_Round_ok  (n : Nat) (p0 : Int) (p1 : Int) (r : Int) (h : fixed_Round n p0 p1 = some r) : FnD E 60 0 [.c (I p0), .c (I p1)] [] (.c (I r)) [] := by
  refine zfn Tryd.func60 rfl ?_
  unfold fixed_Round at h
  refine za [0, 1] ?_
  refine aw_seq ?_
  refine zx fun _ => ?_
  refine zk 2 ?_
  obtain ⟨y1, he, h⟩ := bindE h
  refine zc fok74 (fixed_ok_ok n _ _ y1 he) ?_
  clear he
  refine zk 1 ?_
  refine ze [0, 1, 8] ?_
  refine zi h (fun h => ?_) fun h => ?_
  refine za [4] ?_
  cases h
  exact aw_ret zr
  refine aw_skip ?_
  refine aw_join h (fun A j => ∀ v3 v4, j v3 v4 = some r → A (mk [(0, .c (I v3)), (1, .c (I v4))] [] 0)) (fun v3 v4 h => ?_) (fun j2 Aj2 hj2 h => ?_)
  refine zx fun _ => ?_
  refine zk 6 ?_
  obtain ⟨y5, he, h⟩ := bindE h
  refine zc fok75 (fixed_floor_ok n _ _ y5 he) ?_
  clear he
  refine zk 1 ?_
  refine ze [4] ?_
  cases h
  exact aw_ret zr
  refine za [0, 1, 10] ?_
  refine zi h (fun h => ?_) fun h => ?_
  refine aw_out ?_
  refine zb ?_
  exact via (zv [] [0, 1] 0) (hj2 _ _ h)
  exact aw_views (zv [] [0, 1] 0) (aw_skip (hj2 _ _ h))
def fixed_Scale  (n : Nat) (p0 : Int) (p1 : Int) (p2 : Int) : Option (Int × Int) := (if ((((((decide (p0 < (-1099511627776 : Int))) || (decide (p0 > 1099511627776))) || (decide (p1 < 0))) || (decide (p1 > 65536))) || (decide (p2 < 1))) || (decide (p2 > 65536))) = true then some (0, 1) else (fixed_Round n (IntKind.wrap .i64 (p0 * p1)) p2).bind fun (y1 : Int) => some (y1, 0))
theorem fixed_Scale_ok  (n : Nat) (p0 : Int) (p1 : Int) (p2 : Int) (r : (Int × Int)) (h : fixed_Scale n p0 p1 p2 = some r) : FnD E 45 0 [.c (I p0), .c (I p1), .c (I p2)] [] (.tup [.c (I r.1), .c (I r.2)]) [] := by
  refine zfn Tryd.func45 rfl ?_
  unfold fixed_Scale at h
  refine za [0, 1, 2] ?_
  refine aw_seq ?_
  refine zx fun _ => ?_
  refine zk 3 ?_
  refine zE (.c (I p0)) ?_
  refine zE (.c (Bo (decide (p0 > 1099511627776)))) ?_
  refine zP (.bool ((decide (p0 < (-1099511627776 : Int))) || (decide (p0 > 1099511627776)))) ?_
  refine zk 1 ?_
  refine zE (.c (I p1)) ?_
  refine zE (.c (Bo (decide (p1 < 0)))) ?_
  refine zP (.bool (((decide (p0 < (-1099511627776 : Int))) || (decide (p0 > 1099511627776))) || (decide (p1 < 0)))) ?_
  refine zk 1 ?_
  refine zE (.c (I p1)) ?_
  refine zE (.c (Bo (decide (p1 > 65536)))) ?_
  refine zP (.bool ((((decide (p0 < (-1099511627776 : Int))) || (decide (p0 > 1099511627776))) || (decide (p1 < 0))) || (decide (p1 > 65536)))) ?_
  refine zk 1 ?_
  refine zE (.c (I p2)) ?_
  refine zE (.c (Bo (decide (p2 < 1)))) ?_
  refine zP (.bool (((((decide (p0 < (-1099511627776 : Int))) || (decide (p0 > 1099511627776))) || (decide (p1 < 0))) || (decide (p1 > 65536))) || (decide (p2 < 1)))) ?_
  refine zk 1 ?_
  refine zE (.c (I p2)) ?_
  refine zE (.c (Bo (decide (p2 > 65536)))) ?_
  refine zP (.bool ((((((decide (p0 < (-1099511627776 : Int))) || (decide (p0 > 1099511627776))) || (decide (p1 < 0))) || (decide (p1 > 65536))) || (decide (p2 < 1))) || (decide (p2 > 65536)))) ?_
  refine zee [0, 1, 2, 29] (L2 := [(0, .c (I p0)), (1, .c (I p1)), (2, .c (I p2)), (29, .c (Bo ((((((decide (p0 < (-1099511627776 : Int))) || (decide (p0 > 1099511627776))) || (decide (p1 < 0))) || (decide (p1 > 65536))) || (decide (p2 < 1))) || (decide (p2 > 65536)))))]) (G2 := []) 24 ?_
  refine zi h (fun h => ?_) fun h => ?_
  refine za [6, 7] ?_
  cases h
  exact aw_ret zr
  refine aw_skip ?_
  refine zx fun _ => ?_
  refine zk 4 ?_
  obtain ⟨y1, he, h⟩ := bindE h
  refine zc fok60 (fixed_Round_ok n _ _ y1 he) ?_
  clear he
  refine zk 2 ?_
  refine ze [6, 7] ?_
  cases h
  exact aw_ret zr
def fixed_Clamp  (n : Nat) (p0 : Int) (p1 : Int) (p2 : Int) : Option Int := (if ((decide (p0 < p1)) || (decide (p2 < p1))) = true then some p1 else (if (decide (p0 > p2)) = true then some p2 else some p0))
theorem fixed_Clamp_ok  (n : Nat) (p0 : Int) (p1 : Int) (p2 : Int) (r : Int) (h : fixed_Clamp n p0 p1 p2 = some r) : FnD E 46 0 [.c (I p0), .c (I p1), .c (I p2)] [] (.c (I r)) [] := by
  refine zfn Tryd.func46 rfl ?_
  unfold fixed_Clamp at h
  refine za [0, 1, 2] ?_
  refine aw_seq ?_
  refine aw_block ?_
  refine zx fun _ => ?_
  refine zk 4 ?_
  refine zE (.c (I p2)) ?_
  refine zE (.c (I p1)) ?_
  refine zE (.c (Bo (decide (p2 < p1)))) ?_
  refine zP (.bool ((decide (p0 < p1)) || (decide (p2 < p1)))) ?_
  refine zk 1 ?_
  refine ze [0, 1, 2, 7] ?_
  refine zi h (fun h => ?_) fun h => ?_
  refine za [6] ?_
  cases h
  exact aw_ret zr
  refine za [0, 2, 17] ?_
  refine zi h (fun h => ?_) fun h => ?_
  refine za [6] ?_
  cases h
  exact aw_ret zr
  refine aw_skip ?_
  refine za [6] ?_
  cases h
  exact aw_ret zr
def theme_Size  (n : Nat) (p0 : GMode) (p1 : Int) : Option Int := (withJ (fun (v3 : Int) => (fixed_Clamp n v3 1 1000).bind fun (y4 : Int) => some y4) (fun (j1 : Int → Option Int) => (if ((((decide (p0.Scale ≥ 50)) && (decide (p0.Scale ≤ 400))) && (decide (p1 ≥ 1))) && (decide (p1 ≤ 1000))) = true then (fixed_Scale n p1 p0.Scale 100).bind fun (y2 : (Int × Int)) => j1 y2.1 else j1 p1)))
theorem theme_Size_ok  (n : Nat) (p0 : GMode) (p1 : Int) (r : Int) (h : theme_Size n p0 p1 = some r) : FnD E 25 0 [.agg [Bo p0.Dark, Bo p0.High, I p0.Scale], .c (I p1)] [] (.c (I r)) [] := by
  refine zfn Tryd.func25 rfl ?_
  unfold theme_Size at h
  refine za [1, 2] ?_
  refine aw_join h (fun A j => ∀ v3, j v3 = some r → A (mk [(1, .c (I v3))] [] 0)) (fun v3 h => ?_) (fun j1 Aj1 hj1 h => ?_)
  refine zx fun _ => ?_
  refine zk 1 ?_
  obtain ⟨y4, he, h⟩ := bindE h
  refine zc fok46 (fixed_Clamp_ok n _ _ _ y4 he) ?_
  clear he
  refine zk 1 ?_
  refine ze [4] ?_
  cases h
  exact aw_ret zr
  refine zx fun _ => ?_
  refine zk 4 ?_
  refine zE (.c (.ptr 0 2)) ?_
  refine zE (.c (I p0.Scale)) ?_
  refine zE (.c (Bo (decide (p0.Scale ≤ 400)))) ?_
  refine zP (.bool ((decide (p0.Scale ≥ 50)) && (decide (p0.Scale ≤ 400)))) ?_
  refine zk 1 ?_
  refine zE (.c (I p1)) ?_
  refine zE (.c (Bo (decide (p1 ≥ 1)))) ?_
  refine zP (.bool (((decide (p0.Scale ≥ 50)) && (decide (p0.Scale ≤ 400))) && (decide (p1 ≥ 1)))) ?_
  refine zk 1 ?_
  refine zE (.c (I p1)) ?_
  refine zE (.c (Bo (decide (p1 ≤ 1000)))) ?_
  refine zP (.bool ((((decide (p0.Scale ≥ 50)) && (decide (p0.Scale ≤ 400))) && (decide (p1 ≥ 1))) && (decide (p1 ≤ 1000)))) ?_
  refine zee [1, 2, 20] (L2 := [(1, .c (I p1)), (2, .c (.ptr 0 0)), (20, .c (Bo ((((decide (p0.Scale ≥ 50)) && (decide (p0.Scale ≤ 400))) && (decide (p1 ≥ 1))) && (decide (p1 ≤ 1000)))))]) (G2 := [(0, .blk 52 [Bo p0.Dark, Bo p0.High, I p0.Scale])]) 18 ?_
  refine zi h (fun h => ?_) fun h => ?_
  refine aw_out ?_
  refine zy fun _ => ?_
  refine zk 3 ?_
  obtain ⟨y2, he, h⟩ := bindE h
  refine zc fok45 (fixed_Scale_ok n _ _ _ y2 he) ?_
  clear he
  refine zk 4 ?_
  refine x_last ?_
  exact via (zv [] [1] 0) (hj1 _ h)
  exact aw_views (zv [] [1] 0) (aw_skip (hj1 _ h))
end Go.Proofs.YtojkihhnioeggaaDoor.S
