/- Functions, and that the program's are they. Printed by ext.py. -/
import Derived.Test.YtojkihhnioeggaaDoorGI7
set_option linter.unusedVariables false
set_option linter.unusedSimpArgs false
set_option maxRecDepth 100000
set_option maxHeartbeats 4000000
namespace Go.Proofs.YtojkihhnioeggaaDoor.S
open Go Go.Bm
def style_Cascade_L2 (p3 : GTree) (v34 : List (Int × A22_Int)) (j35 : List GStyled → Option ((List GStyled) × Int)) : Nat → List GStyled → Int → Option ((List GStyled) × Int)
  | 0, _, _ => none
  | n + 1, v39, v40 => (if (decide (v40 < (List.length p3.Nodes : Int))) = true then (idx p3.Nodes v40).bind fun (e41 : GNode) => (some (mget e41.ID v34, mhas e41.ID v34)).bind fun (y42 : (A22_Int × Bool)) => (apd 184 v39 [(GStyled.mk e41.ID y42.1)]).bind fun (l43 : List GStyled) => style_Cascade_L2 p3 v34 j35 n l43 (IntKind.wrap .i64 (v40 + 1)) else j35 v39)
def style_Cascade_L1 (y17 : (List Int)) (y4 : Gshape) (p0 : GSheet) (y15 : (List Int)) (p1 : GTheme) (p2 : GMode) (p3 : GTree) (j16 : List (Int × A22_Int) → Option ((List GStyled) × Int)) : Nat → Int → List (Int × A22_Int) → Option ((List GStyled) × Int)
  | 0, _, _ => none
  | n + 1, v25, v26 => (if (decide (v25 < (List.length y17 : Int))) = true then (idx y17 v25).bind fun (e27 : Int) => (some (mget e27 y4.nodes, mhas e27 y4.nodes)).bind fun (y28 : (GNode × Bool)) => (some (mget y28.1.Parent v26, mhas y28.1.Parent v26)).bind fun (y29 : (A22_Int × Bool)) => (cascade_style n (Gcascade.mk y4 p0.Rules y15 p1 p2) e27 y29.1 (e27 == p3.Root)).bind fun (y30 : A22_Int) => style_Cascade_L1 y17 y4 p0 y15 p1 p2 p3 j16 n (IntKind.wrap .i64 (v25 + 1)) (mput e27 y30 v26) else j16 v26)
def style_Cascade_L0 (p0 : GSheet) (j5 : List Int → Option ((List GStyled) × Int)) (p3 : GTree) (y4 : Gshape) (p1 : GTheme) (p2 : GMode) : Nat → Int → List Int → Option ((List GStyled) × Int)
  | 0, _, _ => none
  | n + 1, v8, v9 => (if (decide (v8 < (List.length p0.Rules : Int))) = true then (apd 8 v9 [v8]).bind fun (l10 : List Int) => style_Cascade_L0 p0 j5 p3 y4 p1 p2 n (IntKind.wrap .i64 (v8 + 1)) l10 else j5 v9)
def style_Cascade  (n : Nat) (p0 : GSheet) (p1 : GTheme) (p2 : GMode) (p3 : GTree) (p4 : (List GNodeStates)) : Option ((List GStyled) × Int) := (style_Validate n p0).bind fun (y1 : Int) => (if (y1 != 0) = true then some (([] : List GStyled), y1) else (theme_Validate n p1).bind fun (y2 : Int) => (if (y2 != 0) = true then some (([] : List GStyled), y2) else (if ((decide (p2.Scale < 50)) || (decide (p2.Scale > 400))) = true then some (([] : List GStyled), 1) else (view_Check n p3).bind fun (y3 : Int) => (if (y3 != 0) = true then some (([] : List GStyled), y3) else (style_see n p3 p4).bind fun (y4 : Gshape) => (withJ (fun (v14 : List Int) => (slices_SortStableFunc_int_int n v14 p0).bind fun (y15 : (List Int)) => (withJ (fun (v34 : List (Int × A22_Int)) => (withJ (fun (v46 : List GStyled) => some (v46, 0)) (fun (j35 : List GStyled → Option ((List GStyled) × Int)) => style_Cascade_L2 p3 v34 j35 n ([] : List GStyled) 0))) (fun (j16 : List (Int × A22_Int) → Option ((List GStyled) × Int)) => (view_Order n p3).bind fun (y17 : (List Int)) => style_Cascade_L1 y17 y4 p0 y15 p1 p2 p3 j16 n 0 ([] : List (Int × A22_Int))))) (fun (j5 : List Int → Option ((List GStyled) × Int)) => style_Cascade_L0 p0 j5 p3 y4 p1 p2 n 0 ([] : List Int)))))))
theorem style_Cascade_ok  (n : Nat) (p0 : GSheet) (p1 : GTheme) (p2 : GMode) (p3 : GTree) (p4 : (List GNodeStates)) (r : ((List GStyled) × Int)) (h : style_Cascade n p0 p1 p2 p3 p4 = some r) : FnD E 24 0 [.agg [.lit (List.map eGRule p0.Rules)], .agg [.lit (List.map eGToken p1.Tokens)], .agg [Bo p2.Dark, Bo p2.High, I p2.Scale], .agg [I p3.Root, I p3.Next, .lit (List.map eGNode p3.Nodes)], .c (.lit (List.map eGNodeStates p4))] [] (.tup [.c (.lit (List.map eGStyled r.1)), .c (I r.2)]) [] := by
  refine zfn Tryd.func24 rfl ?_
  unfold style_Cascade at h
  refine za [4, 5, 6, 7, 8] ?_
  refine aw_seq ?_
  refine zx fun _ => ?_
  refine zk 1 ?_
  obtain ⟨y1, he, h⟩ := bindE h
  refine zc fok16 (style_Validate_ok n _ y1 he) ?_
  clear he
  refine zk 1 ?_
  refine ze [4, 5, 6, 7, 8, 12] ?_
  refine za [4, 5, 6, 7, 8, 12, 26] ?_
  refine zi h (fun h => ?_) fun h => ?_
  refine za [10, 11] ?_
  cases h
  exact aw_ret zr
  refine aw_skip ?_
  refine aw_seq ?_
  refine zx fun _ => ?_
  refine zk 1 ?_
  obtain ⟨y2, he, h⟩ := bindE h
  refine zc fok36 (theme_Validate_ok n _ y2 he) ?_
  clear he
  refine zk 1 ?_
  refine ze [4, 5, 6, 7, 8, 13] ?_
  refine za [4, 5, 6, 7, 8, 13, 31] ?_
  refine zi h (fun h => ?_) fun h => ?_
  refine za [10, 11] ?_
  cases h
  exact aw_ret zr
  refine aw_skip ?_
  refine aw_seq ?_
  refine zx fun _ => ?_
  refine zk 4 ?_
  refine zE (.c (.ptr 2 2)) ?_
  refine zE (.c (I p2.Scale)) ?_
  refine zE (.c (Bo (decide (p2.Scale > 400)))) ?_
  refine zP (.bool ((decide (p2.Scale < 50)) || (decide (p2.Scale > 400)))) ?_
  refine zee [4, 5, 6, 7, 8, 40] (L2 := [(4, .c (.lit (List.map eGNodeStates p4))), (5, .c (.ptr 0 0)), (6, .c (.ptr 1 0)), (7, .c (.ptr 2 0)), (8, .c (.ptr 3 0)), (40, .c (Bo ((decide (p2.Scale < 50)) || (decide (p2.Scale > 400)))))]) (G2 := [(0, .blk 30 [.lit (List.map eGRule p0.Rules)]), (1, .blk 59 [.lit (List.map eGToken p1.Tokens)]), (2, .blk 52 [Bo p2.Dark, Bo p2.High, I p2.Scale]), (3, .blk 49 [I p3.Root, I p3.Next, .lit (List.map eGNode p3.Nodes)])]) 24 ?_
  refine zi h (fun h => ?_) fun h => ?_
  refine za [10, 11] ?_
  cases h
  exact aw_ret zr
  refine aw_skip ?_
  refine aw_seq ?_
  refine zx fun _ => ?_
  refine zk 1 ?_
  obtain ⟨y3, he, h⟩ := bindE h
  refine zc fok37 (view_Check_ok n _ y3 he) ?_
  clear he
  refine zk 1 ?_
  refine ze [4, 5, 6, 7, 8, 14] ?_
  refine za [4, 5, 6, 7, 8, 14, 44] ?_
  refine zi h (fun h => ?_) fun h => ?_
  refine za [10, 11] ?_
  cases h
  exact aw_ret zr
  refine aw_skip ?_
  refine zdx [[], [], [0, 1], [], [3], [], [], [2, 4, 5, 6, 0, 1, 3], [], [8, 7, 2, 0, 1, 3, 4, 5, 6]] fun _ => ?_
  refine zk 2 ?_
  obtain ⟨y4, he, h⟩ := bindE h
  refine zc fok38 (style_see_ok n _ _ y4 he) ?_
  clear he
  refine zk 7 ?_
  refine ze [5, 8, 15] ?_
  refine aw_join h (fun A j => ∀ v14, j v14 = some r → A (mk [(5, .c (.ptr 0 0)), (8, .c (.ptr 1 0)), (15, .c (.ptr 2 0))] [(0, .blk 30 [.lit (List.map eGRule p0.Rules)]), (1, .blk 49 [I p3.Root, I p3.Next, .lit (List.map eGNode p3.Nodes)]), (2, .blk 103 [.lmap true (List.map (eM (Value.int .i64) eGNode) y4.nodes), .lmap false (List.map (eM (Value.int .i64) eS) y4.class_), .lmap false (List.map (eM (Value.int .i64) eI64) y4.states), .lit (List.map eGRule p0.Rules), .row 3, .lit (List.map eGToken p1.Tokens), Bo p2.Dark, Bo p2.High, I p2.Scale]), (3, .vec 3 1 (List.map eI64 v14))] 4)) (fun v14 h => ?_) (fun j5 Aj5 hj5 h => ?_)
  refine aw_views (view_frzB 0 (T := 30) (l := [.lit (List.map eGRule p0.Rules)]) (l2 := [.lit (List.map eGRule p0.Rules)]) (L2 := [(5, .c (.imm [.lit (List.map eGRule p0.Rules)])), (8, .c (.ptr 1 0)), (15, .c (.ptr 2 0))]) (G2 := [(1, .blk 49 [I p3.Root, I p3.Next, .lit (List.map eGNode p3.Nodes)]), (2, .blk 103 [.lmap true (List.map (eM (Value.int .i64) eGNode) y4.nodes), .lmap false (List.map (eM (Value.int .i64) eS) y4.class_), .lmap false (List.map (eM (Value.int .i64) eI64) y4.states), .lit (List.map eGRule p0.Rules), .row 3, .lit (List.map eGToken p1.Tokens), Bo p2.Dark, Bo p2.High, I p2.Scale]), (3, .vec 3 1 (List.map eI64 v14))]) (by kernel_rfl) (by kernel_rfl) (by kernel_rfl) (by kernel_rfl)) ?_
  refine zx fun _ => ?_
  refine zk 3 ?_
  obtain ⟨y15, he, h⟩ := bindE h
  refine zo [(0, 3)] fok39 (slices_SortStableFunc_int_int_ok n _ _ y15 he) ?_
  clear he
  refine ze [8, 15] ?_
  refine za [8, 15, 17] ?_
  refine aw_join h (fun A j => ∀ v34, j v34 = some r → A (mk [(8, .c (.ptr 0 0)), (17, .c (.mapr 1))] [(0, .blk 49 [I p3.Root, I p3.Next, .lit (List.map eGNode p3.Nodes)]), (1, .map true (List.map (eM (Value.int .i64) eA22_Int) v34))] 2)) (fun v34 h => ?_) (fun j16 Aj16 hj16 h => ?_)
  refine za [8, 17, 20] ?_
  refine aw_join h (fun A j => ∀ v46, j v46 = some r → A (mk [(20, .c (.app 0 (List.map eGStyled v46)))] [(0, .tok 67 23 (List.length v46))] 1)) (fun v46 h => ?_) (fun j35 Aj35 hj35 h => ?_)
  refine za [10, 11] ?_
  cases h
  exact aw_ret zr
  refine zx fun _ => ?_
  refine zk 2 ?_
  refine zl eGNode p3.Nodes ?_
  refine zk 1 ?_
  refine ze [17, 20, 98, 99, 100] ?_
  refine aw_block ?_
  refine aw_loopJ (fun n s => ∃ v39 v40, style_Cascade_L2 p3 v34 j35 n v39 v40 = some r ∧ s = mk [(17, .c (.mapr 0)), (20, .c (.app 1 (List.map eGStyled v39))), (98, .c (.lit (List.map eGNode p3.Nodes))), (99, .c (I (List.length p3.Nodes : Int))), (100, .c (I v40))] [(0, .map true (List.map (eM (Value.int .i64) eA22_Int) v34)), (1, .tok 67 23 (List.length v39))] 2) n _ (Views.trans (view_nilS (L2 := [(17, .c (.mapr 1)), (20, .c (.app 7 (List.map eGStyled ([] : List GStyled)))), (98, .c (.lit (List.map eGNode p3.Nodes))), (99, .c (I (List.length p3.Nodes : Int))), (100, .c (I 0))]) (G2 := [(0, .blk 49 [I p3.Root, I p3.Next, .lit (List.map eGNode p3.Nodes)]), (1, .map true (List.map (eM (Value.int .i64) eA22_Int) v34)), (7, .tok 67 23 (List.length ([] : List GStyled)))]) (lim2 := 8) 20 67 23 (by kernel_rfl) (by kernel_rfl) (by kernel_rfl) (by kernel_rfl)) (zv [(1, 0), (7, 1)] [17, 20, 98, 99, 100] 2)) ⟨_, _, h, rfl⟩ (fun s ⟨v39, v40, h, _⟩ => nomatch h) ?_
  rintro n s ⟨v39, v40, h, rfl⟩
  rw [style_Cascade_L2] at h
  refine za [17, 20, 98, 99, 100, 101] ?_
  refine aw_seq ?_
  refine zi h (fun h => ?_) fun h => ?_
  refine aw_skip ?_
  refine aw_seq ?_
  refine aw_block ?_
  refine zx fun _ => ?_
  obtain ⟨e41, he, h⟩ := bindE h
  refine zd eGNode he ?_
  clear he
  refine zk 3 ?_
  refine ze [17, 20, 22, 98, 99, 100] ?_
  refine zy fun _ => ?_
  refine zk 6 ?_
  obtain ⟨y42, he, h⟩ := bindE h
  refine zw (v := .agg [I y42.1.x0, I y42.1.x1, I y42.1.x2, I y42.1.x3, I y42.1.x4, I y42.1.x5, I y42.1.x6, I y42.1.x7, I y42.1.x8, I y42.1.x9, I y42.1.x10, I y42.1.x11, I y42.1.x12, I y42.1.x13, I y42.1.x14, I y42.1.x15, I y42.1.x16, I y42.1.x17, I y42.1.x18, I y42.1.x19, I y42.1.x20, I y42.1.x21]) [0] (rdW_lookup (kf := (Value.int .i64)) (enc := eA22_Int) (l := v34) (k := e41.ID) (ok := false) (kk := .int .i64) (j := ⟨.arr 22 3, 22, 176, [.int .i64 0, .int .i64 0, .int .i64 0, .int .i64 0, .int .i64 0, .int .i64 0, .int .i64 0, .int .i64 0, .int .i64 0, .int .i64 0, .int .i64 0, .int .i64 0, .int .i64 0, .int .i64 0, .int .i64 0, .int .i64 0, .int .i64 0, .int .i64 0, .int .i64 0, .int .i64 0, .int .i64 0, .int .i64 0]⟩) (p := y42) (v := .agg [I y42.1.x0, I y42.1.x1, I y42.1.x2, I y42.1.x3, I y42.1.x4, I y42.1.x5, I y42.1.x6, I y42.1.x7, I y42.1.x8, I y42.1.x9, I y42.1.x10, I y42.1.x11, I y42.1.x12, I y42.1.x13, I y42.1.x14, I y42.1.x15, I y42.1.x16, I y42.1.x17, I y42.1.x18, I y42.1.x19, I y42.1.x20, I y42.1.x21]) he (by kernel_rfl) keyInt (by kernel_rfl) (by kernel_rfl) (by kernel_rfl)) ?_
  clear he
  refine zk 2 ?_
  obtain ⟨l43, he, h⟩ := bindE h
  refine rx_append (enc := eGStyled) (l := v39) (els := [(GStyled.mk e41.ID y42.1)]) (r := l43) (old := some 1) (e := 67) (sz := 23) (bytes := 184) (k := (List.length v39)) (nm := 16) he (by kernel_rfl) (by kernel_rfl) (fun x => by kernel_rfl) (by kernel_rfl) (by kernel_rfl) rfl rfl rfl ?_
  clear he
  refine zk 1 ?_
  refine x_last ?_
  refine aw_out ?_
  refine zb ?_
  exact via (zv [(0, 0), (16, 1)] [17, 20, 98, 99, 100] 2) (⟨_, _, h, rfl⟩)
  exact aw_views (zv [(1, 0)] [20] 1) (aw_exit (hj35 _ h))
  refine zx fun _ => ?_
  refine zk 1 ?_
  obtain ⟨y17, he, h⟩ := bindE h
  refine zc fok43 (view_Order_ok n _ y17 he) ?_
  clear he
  refine zl eI64 y17 ?_
  refine zk 1 ?_
  refine ze [8, 15, 17, 73, 74, 75] ?_
  refine aw_block ?_
  refine aw_loopJ (fun n s => ∃ v25 v26, style_Cascade_L1 y17 y4 p0 y15 p1 p2 p3 j16 n v25 v26 = some r ∧ s = mk [(8, .c (.ptr 0 0)), (15, .c (.ptr 1 0)), (17, .c (.mapr 2)), (73, .c (.lit (List.map eI64 y17))), (74, .c (I (List.length y17 : Int))), (75, .c (I v25))] [(0, .blk 49 [I p3.Root, I p3.Next, .lit (List.map eGNode p3.Nodes)]), (1, .blk 103 [.lmap true (List.map (eM (Value.int .i64) eGNode) y4.nodes), .lmap false (List.map (eM (Value.int .i64) eS) y4.class_), .lmap false (List.map (eM (Value.int .i64) eI64) y4.states), .lit (List.map eGRule p0.Rules), .lit (List.map eI64 y15), .lit (List.map eGToken p1.Tokens), Bo p2.Dark, Bo p2.High, I p2.Scale]), (2, .map true (List.map (eM (Value.int .i64) eA22_Int) v26))] 3) n _ (Views.trans (view_frzV 3 (T := 3) (sz := 1) (l := List.map eI64 y15) (L2 := [(8, .c (.ptr 1 0)), (15, .c (.ptr 2 0)), (17, .c (.mapr 8)), (73, .c (.lit (List.map eI64 y17))), (74, .c (I (List.length y17 : Int))), (75, .c (I 0))]) (G2 := [(1, .blk 49 [I p3.Root, I p3.Next, .lit (List.map eGNode p3.Nodes)]), (2, .blk 103 [.lmap true (List.map (eM (Value.int .i64) eGNode) y4.nodes), .lmap false (List.map (eM (Value.int .i64) eS) y4.class_), .lmap false (List.map (eM (Value.int .i64) eI64) y4.states), .lit (List.map eGRule p0.Rules), .lit (List.map eI64 y15), .lit (List.map eGToken p1.Tokens), Bo p2.Dark, Bo p2.High, I p2.Scale]), (8, .map true (List.map (eM (Value.int .i64) eA22_Int) ([] : List (Int × A22_Int))))]) (by kernel_rfl) (by kernel_rfl) (by kernel_rfl)) (zv [(1, 0), (2, 1), (8, 2)] [8, 15, 17, 73, 74, 75] 3)) ⟨_, _, h, rfl⟩ (fun s ⟨v25, v26, h, _⟩ => nomatch h) ?_
  rintro n s ⟨v25, v26, h, rfl⟩
  rw [style_Cascade_L1] at h
  refine za [8, 15, 17, 73, 74, 75, 76] ?_
  refine aw_seq ?_
  refine zi h (fun h => ?_) fun h => ?_
  refine aw_skip ?_
  refine aw_seq ?_
  refine aw_block ?_
  refine zx fun _ => ?_
  obtain ⟨e27, he, h⟩ := bindE h
  refine zd eI64 he ?_
  clear he
  refine zk 2 ?_
  refine ze [8, 15, 17, 19, 73, 74, 75] ?_
  refine zy fun _ => ?_
  refine zk 9 ?_
  obtain ⟨y28, he, h⟩ := bindE h
  refine zw (v := .agg [I y28.1.ID, I y28.1.Parent, I y28.1.Kind, Sx y28.1.Key, .lit (List.map eGAttr y28.1.Attrs), .lit (List.map eGAction y28.1.Actions), .lit (List.map eI64 y28.1.Kids)]) [] (rdW_lookup (kf := (Value.int .i64)) (enc := eGNode) (l := y4.nodes) (k := e27) (ok := false) (kk := .int .i64) (j := ⟨.st [(3, 0, 1), (3, 1, 1), (3, 2, 1), (9, 3, 1), (61, 4, 1), (62, 5, 1), (37, 6, 1)], 7, 112, [.int .i64 0, .int .i64 0, .int .i64 0, .string ⟨#[]⟩, .slice none 0 0, .slice none 0 0, .slice none 0 0]⟩) (p := y28) (v := .agg [I y28.1.ID, I y28.1.Parent, I y28.1.Kind, Sx y28.1.Key, .lit (List.map eGAttr y28.1.Attrs), .lit (List.map eGAction y28.1.Actions), .lit (List.map eI64 y28.1.Kids)]) he (by kernel_rfl) keyInt (by kernel_rfl) (by kernel_rfl) (by kernel_rfl)) ?_
  clear he
  refine zk 1 ?_
  obtain ⟨y29, he, h⟩ := bindE h
  refine zw (v := .agg [I y29.1.x0, I y29.1.x1, I y29.1.x2, I y29.1.x3, I y29.1.x4, I y29.1.x5, I y29.1.x6, I y29.1.x7, I y29.1.x8, I y29.1.x9, I y29.1.x10, I y29.1.x11, I y29.1.x12, I y29.1.x13, I y29.1.x14, I y29.1.x15, I y29.1.x16, I y29.1.x17, I y29.1.x18, I y29.1.x19, I y29.1.x20, I y29.1.x21]) [2] (rdW_lookup (kf := (Value.int .i64)) (enc := eA22_Int) (l := v26) (k := y28.1.Parent) (ok := false) (kk := .int .i64) (j := ⟨.arr 22 3, 22, 176, [.int .i64 0, .int .i64 0, .int .i64 0, .int .i64 0, .int .i64 0, .int .i64 0, .int .i64 0, .int .i64 0, .int .i64 0, .int .i64 0, .int .i64 0, .int .i64 0, .int .i64 0, .int .i64 0, .int .i64 0, .int .i64 0, .int .i64 0, .int .i64 0, .int .i64 0, .int .i64 0, .int .i64 0, .int .i64 0]⟩) (p := y29) (v := .agg [I y29.1.x0, I y29.1.x1, I y29.1.x2, I y29.1.x3, I y29.1.x4, I y29.1.x5, I y29.1.x6, I y29.1.x7, I y29.1.x8, I y29.1.x9, I y29.1.x10, I y29.1.x11, I y29.1.x12, I y29.1.x13, I y29.1.x14, I y29.1.x15, I y29.1.x16, I y29.1.x17, I y29.1.x18, I y29.1.x19, I y29.1.x20, I y29.1.x21]) he (by kernel_rfl) keyInt (by kernel_rfl) (by kernel_rfl) (by kernel_rfl)) ?_
  clear he
  refine zk 4 ?_
  obtain ⟨y30, he, h⟩ := bindE h
  refine zc fok44 (cascade_style_ok n _ _ _ _ y30 he) ?_
  clear he
  refine rx_mapset (kf := (Value.int .i64)) (enc := eA22_Int) (l := v26) (k := e27) (v := y30) (n := 2) (ag := true) (kk := .int .i64) (by kernel_rfl) keyInt (by kernel_rfl) (by kernel_rfl) rfl rfl ?_
  refine x_last ?_
  refine aw_out ?_
  refine zb ?_
  exact via (zv [(0, 0), (1, 1), (2, 2)] [8, 15, 17, 73, 74, 75] 3) (⟨_, _, h, rfl⟩)
  exact aw_views (zv [(0, 0), (2, 1)] [8, 17] 2) (aw_exit (hj16 _ h))
  refine zx fun _ => ?_
  refine zk 2 ?_
  refine zl eGRule p0.Rules ?_
  refine zk 1 ?_
  refine zee [5, 8, 15, 56, 57] (L2 := [(5, .c (.ptr 0 0)), (8, .c (.ptr 3 0)), (15, .c (.ptr 37 0)), (56, .c (I (List.length p0.Rules : Int))), (57, .c (I 0))]) (G2 := [(0, .blk 30 [.lit (List.map eGRule p0.Rules)]), (1, .blk 59 [.lit (List.map eGToken p1.Tokens)]), (2, .blk 52 [Bo p2.Dark, Bo p2.High, I p2.Scale]), (3, .blk 49 [I p3.Root, I p3.Next, .lit (List.map eGNode p3.Nodes)]), (37, .blk 103 [.lmap true (List.map (eM (Value.int .i64) eGNode) y4.nodes), .lmap false (List.map (eM (Value.int .i64) eS) y4.class_), .lmap false (List.map (eM (Value.int .i64) eI64) y4.states), .lit (List.map eGRule p0.Rules), NilS, .lit (List.map eGToken p1.Tokens), Bo p2.Dark, Bo p2.High, I p2.Scale])]) 43 ?_
  refine aw_block ?_
  refine aw_loopJ (fun n s => ∃ v8 v9, style_Cascade_L0 p0 j5 p3 y4 p1 p2 n v8 v9 = some r ∧ s = mk [(5, .c (.ptr 0 0)), (8, .c (.ptr 1 0)), (15, .c (.ptr 2 0)), (56, .c (I (List.length p0.Rules : Int))), (57, .c (I v8))] [(0, .blk 30 [.lit (List.map eGRule p0.Rules)]), (1, .blk 49 [I p3.Root, I p3.Next, .lit (List.map eGNode p3.Nodes)]), (2, .blk 103 [.lmap true (List.map (eM (Value.int .i64) eGNode) y4.nodes), .lmap false (List.map (eM (Value.int .i64) eS) y4.class_), .lmap false (List.map (eM (Value.int .i64) eI64) y4.states), .lit (List.map eGRule p0.Rules), .row 3, .lit (List.map eGToken p1.Tokens), Bo p2.Dark, Bo p2.High, I p2.Scale]), (3, .vec 3 1 (List.map eI64 v9))] 4) n _ (Views.trans (view_nilCV (n := 37) (T0 := 103) (l := [.lmap true (List.map (eM (Value.int .i64) eGNode) y4.nodes), .lmap false (List.map (eM (Value.int .i64) eS) y4.class_), .lmap false (List.map (eM (Value.int .i64) eI64) y4.states), .lit (List.map eGRule p0.Rules), NilS, .lit (List.map eGToken p1.Tokens), Bo p2.Dark, Bo p2.High, I p2.Scale]) (G2 := [(0, .blk 30 [.lit (List.map eGRule p0.Rules)]), (1, .blk 59 [.lit (List.map eGToken p1.Tokens)]), (2, .blk 52 [Bo p2.Dark, Bo p2.High, I p2.Scale]), (3, .blk 49 [I p3.Root, I p3.Next, .lit (List.map eGNode p3.Nodes)]), (37, .blk 103 [.lmap true (List.map (eM (Value.int .i64) eGNode) y4.nodes), .lmap false (List.map (eM (Value.int .i64) eS) y4.class_), .lmap false (List.map (eM (Value.int .i64) eI64) y4.states), .lit (List.map eGRule p0.Rules), .row 43, .lit (List.map eGToken p1.Tokens), Bo p2.Dark, Bo p2.High, I p2.Scale]), (43, .vec 3 1 (List.map eI64 ([] : List Int)))]) (lim2 := 44) 4 3 1 (by kernel_rfl) (by kernel_rfl) (by kernel_rfl) (by kernel_rfl)) (zv [(0, 0), (3, 1), (37, 2), (43, 3)] [5, 8, 15, 56, 57] 4)) ⟨_, _, h, rfl⟩ (fun s ⟨v8, v9, h, _⟩ => nomatch h) ?_
  rintro n s ⟨v8, v9, h, rfl⟩
  rw [style_Cascade_L0] at h
  refine za [5, 8, 15, 56, 57, 58] ?_
  refine aw_seq ?_
  refine zi h (fun h => ?_) fun h => ?_
  refine aw_skip ?_
  refine aw_seq ?_
  refine aw_block ?_
  refine za [5, 8, 15, 16, 56, 57] ?_
  refine zy fun _ => ?_
  refine zk 4 ?_
  obtain ⟨l10, he, h⟩ := bindE h
  refine rx_appendV (enc := eI64) (l := v9) (els := [v8]) (r := l10) (m := 3) (e := 3) (sz := 1) (bytes := 8) (nm := 11) he (by kernel_rfl) (fun x => by kernel_rfl) (by kernel_rfl) (by kernel_rfl) rfl rfl rfl ?_
  clear he
  refine zk 2 ?_
  refine x_last ?_
  refine aw_out ?_
  refine zb ?_
  exact via (zv [(0, 0), (1, 1), (2, 2), (11, 3)] [5, 8, 15, 56, 57] 4) (⟨_, _, h, rfl⟩)
  exact aw_views (zv [(0, 0), (1, 1), (2, 2), (3, 3)] [5, 8, 15] 4) (aw_exit (hj5 _ h))
def law17_awake  (n : Nat)  : Option Bool := (ref14_Build n (GView.mk 1 (⟨#[]⟩ : ByteArray) ([] : List GAttr) ([] : List GAction) [(GView.mk 2 (⟨#[]⟩ : ByteArray) ([] : List GAttr) ([] : List GAction) ([] : List GView))]) 1).bind fun (y1 : (GTree × Int)) => (style_Cascade n (GSheet.mk [(GRule.mk 2 (⟨#[]⟩ : ByteArray) 0 0 (⟨#[]⟩ : ByteArray) [(GDecl.mk 9 0 7 (⟨#[]⟩ : ByteArray))])]) (GTheme.mk ([] : List GToken)) (GMode.mk false false 100) y1.1 ([] : List GNodeStates)).bind fun (y2 : ((List GStyled) × Int)) => (gd [((y2.2 == 0) && ((List.length y2.1 : Int) == 2))] (idx y2.1 0)).bind fun (e3 : GStyled) => (gd [(((y2.2 == 0) && ((List.length y2.1 : Int) == 2)) && (e3.Style.x9 == 0))] (idx y2.1 1)).bind fun (e4 : GStyled) => (gd [((((y2.2 == 0) && ((List.length y2.1 : Int) == 2)) && (e3.Style.x9 == 0)) && (e4.Style.x9 == 7))] (idx y2.1 1)).bind fun (e5 : GStyled) => (gd [(((((y2.2 == 0) && ((List.length y2.1 : Int) == 2)) && (e3.Style.x9 == 0)) && (e4.Style.x9 == 7)) && (e5.Style.x2 == 16))] (style_Initial n)).bind fun (y6 : A22_Int) => some ((((((y2.2 == 0) && ((List.length y2.1 : Int) == 2)) && (e3.Style.x9 == 0)) && (e4.Style.x9 == 7)) && (e5.Style.x2 == 16)) && (y6.x14 == 1048576))
theorem law17_awake_ok  (n : Nat)  (r : Bool) (h : law17_awake n  = some r) : FnD E 15 0 [] [] (.c (Bo r)) [] := by
  refine zfn Tryd.func15 rfl ?_
  unfold law17_awake at h
  refine za [] ?_
  refine zx fun _ => ?_
  refine zk 1 ?_
  refine rx_bs (e := 75) (sz := 5) (len := 1) (r := [I 2, Sx (⟨#[]⟩ : ByteArray), .lit [], .lit [], .lit []]) (l' := List.map eGView [(GView.mk 2 (⟨#[]⟩ : ByteArray) ([] : List GAttr) ([] : List GAction) ([] : List GView))]) (nm := 2) (by kernel_rfl) (by simp only [List.map_cons, List.map_nil, eGView_eq]; kernel_rfl) (by kernel_rfl) (by kernel_rfl) rfl rfl rfl ?_
  refine zk 1 ?_
  obtain ⟨y1, he, h⟩ := bindE h
  refine zc fok27 (ref14_Build_ok n _ _ y1 he) ?_
  clear he
  refine zk 6 ?_
  refine ze [1] ?_
  refine za [1, 3] ?_
  refine zx fun _ => ?_
  refine zk 4 ?_
  obtain ⟨y2, he, h⟩ := bindE h
  refine zc fok24 (style_Cascade_ok n _ _ _ _ _ y2 he) ?_
  clear he
  refine zk 5 ?_
  refine zee [4, 5] (L2 := [(4, .c (.lit (List.map eGStyled y2.1))), (5, .c (I y2.2))]) (G2 := [(2, .tok 75 5 (List.length [(GView.mk 2 (⟨#[]⟩ : ByteArray) ([] : List GAttr) ([] : List GAction) ([] : List GView))])), (8, .blk 49 [I y1.1.Root, I y1.1.Next, .lit (List.map eGNode y1.1.Nodes)]), (12, .tok 45 4 (List.length [(GDecl.mk 9 0 7 (⟨#[]⟩ : ByteArray))])), (14, .tok 33 6 (List.length [(GRule.mk 2 (⟨#[]⟩ : ByteArray) 0 0 (⟨#[]⟩ : ByteArray) [(GDecl.mk 9 0 7 (⟨#[]⟩ : ByteArray))])])), (16, .blk 30 [.app 14 (List.map eGRule [(GRule.mk 2 (⟨#[]⟩ : ByteArray) 0 0 (⟨#[]⟩ : ByteArray) [(GDecl.mk 9 0 7 (⟨#[]⟩ : ByteArray))])])])]) 28 ?_
  refine zx fun _ => ?_
  refine zk 3 ?_
  refine zE (.c (.lit (List.map eGStyled y2.1))) ?_
  refine rx_E (e := [(y2.2 == 0)]) [(29, .c (.lit (List.map eGStyled y2.1)), some 1)] (v := .c (I (List.length y2.1 : Int))) (foot := []) (by kernel_rfl) (by kernel_rfl) (by kernel_rfl) (fun hg => rd_len (enc := eGStyled) (l := y2.1) (by kernel_rfl)) rfl rfl ?_
  refine zE (.c (Bo ((List.length y2.1 : Int) == 2))) ?_
  refine zP (.bool ((y2.2 == 0) && ((List.length y2.1 : Int) == 2))) ?_
  refine zk 1 ?_
  refine zE (.c (.lit (List.map eGStyled y2.1))) ?_
  obtain ⟨e3, he, h⟩ := bindE h
  refine rx_E (e := [((y2.2 == 0) && ((List.length y2.1 : Int) == 2))]) [(34, .c (.lit (List.map eGStyled y2.1)), some 1)] (v := .c (.imm [I e3.ID, I e3.Style.x0, I e3.Style.x1, I e3.Style.x2, I e3.Style.x3, I e3.Style.x4, I e3.Style.x5, I e3.Style.x6, I e3.Style.x7, I e3.Style.x8, I e3.Style.x9, I e3.Style.x10, I e3.Style.x11, I e3.Style.x12, I e3.Style.x13, I e3.Style.x14, I e3.Style.x15, I e3.Style.x16, I e3.Style.x17, I e3.Style.x18, I e3.Style.x19, I e3.Style.x20, I e3.Style.x21])) (foot := []) (by kernel_rfl) (by kernel_rfl) (by kernel_rfl) (fun hg => rd_idx (enc := eGStyled) (sz := 23) (l := y2.1) (ix := 0) (gd_spec he hg) (by kernel_rfl) (by kernel_rfl) (by kernel_rfl)) rfl rfl ?_
  clear he
  refine zE (.c (.imm [I e3.Style.x0, I e3.Style.x1, I e3.Style.x2, I e3.Style.x3, I e3.Style.x4, I e3.Style.x5, I e3.Style.x6, I e3.Style.x7, I e3.Style.x8, I e3.Style.x9, I e3.Style.x10, I e3.Style.x11, I e3.Style.x12, I e3.Style.x13, I e3.Style.x14, I e3.Style.x15, I e3.Style.x16, I e3.Style.x17, I e3.Style.x18, I e3.Style.x19, I e3.Style.x20, I e3.Style.x21])) ?_
  refine zE (.c (.imm [I e3.Style.x9, I e3.Style.x10, I e3.Style.x11, I e3.Style.x12, I e3.Style.x13, I e3.Style.x14, I e3.Style.x15, I e3.Style.x16, I e3.Style.x17, I e3.Style.x18, I e3.Style.x19, I e3.Style.x20, I e3.Style.x21])) ?_
  refine zE (.c (I e3.Style.x9)) ?_
  refine zE (.c (Bo (e3.Style.x9 == 0))) ?_
  refine zP (.bool (((y2.2 == 0) && ((List.length y2.1 : Int) == 2)) && (e3.Style.x9 == 0))) ?_
  refine zk 1 ?_
  refine zE (.c (.lit (List.map eGStyled y2.1))) ?_
  obtain ⟨e4, he, h⟩ := bindE h
  refine rx_E (e := [(((y2.2 == 0) && ((List.length y2.1 : Int) == 2)) && (e3.Style.x9 == 0))]) [(42, .c (.lit (List.map eGStyled y2.1)), some 1)] (v := .c (.imm [I e4.ID, I e4.Style.x0, I e4.Style.x1, I e4.Style.x2, I e4.Style.x3, I e4.Style.x4, I e4.Style.x5, I e4.Style.x6, I e4.Style.x7, I e4.Style.x8, I e4.Style.x9, I e4.Style.x10, I e4.Style.x11, I e4.Style.x12, I e4.Style.x13, I e4.Style.x14, I e4.Style.x15, I e4.Style.x16, I e4.Style.x17, I e4.Style.x18, I e4.Style.x19, I e4.Style.x20, I e4.Style.x21])) (foot := []) (by kernel_rfl) (by kernel_rfl) (by kernel_rfl) (fun hg => rd_idx (enc := eGStyled) (sz := 23) (l := y2.1) (ix := 1) (gd_spec he hg) (by kernel_rfl) (by kernel_rfl) (by kernel_rfl)) rfl rfl ?_
  clear he
  refine zE (.c (.imm [I e4.Style.x0, I e4.Style.x1, I e4.Style.x2, I e4.Style.x3, I e4.Style.x4, I e4.Style.x5, I e4.Style.x6, I e4.Style.x7, I e4.Style.x8, I e4.Style.x9, I e4.Style.x10, I e4.Style.x11, I e4.Style.x12, I e4.Style.x13, I e4.Style.x14, I e4.Style.x15, I e4.Style.x16, I e4.Style.x17, I e4.Style.x18, I e4.Style.x19, I e4.Style.x20, I e4.Style.x21])) ?_
  refine zE (.c (.imm [I e4.Style.x9, I e4.Style.x10, I e4.Style.x11, I e4.Style.x12, I e4.Style.x13, I e4.Style.x14, I e4.Style.x15, I e4.Style.x16, I e4.Style.x17, I e4.Style.x18, I e4.Style.x19, I e4.Style.x20, I e4.Style.x21])) ?_
  refine zE (.c (I e4.Style.x9)) ?_
  refine zE (.c (Bo (e4.Style.x9 == 7))) ?_
  refine zP (.bool ((((y2.2 == 0) && ((List.length y2.1 : Int) == 2)) && (e3.Style.x9 == 0)) && (e4.Style.x9 == 7))) ?_
  refine zke 1 (L' := [(4, .c (.lit (List.map eGStyled y2.1))), (5, .c (I y2.2)), (26, .c (I y2.2)), (27, .c (Bo (y2.2 == 0))), (28, .c (Bo (y2.2 == 0))), (29, .cnd [(y2.2 == 0)] (.c (.lit (List.map eGStyled y2.1)))), (30, .cnd [(y2.2 == 0)] (.c (I (List.length y2.1 : Int)))), (31, .cnd [(y2.2 == 0)] (.c (Bo ((List.length y2.1 : Int) == 2)))), (32, .c (Bo ((y2.2 == 0) && ((List.length y2.1 : Int) == 2)))), (33, .c (Bo ((y2.2 == 0) && ((List.length y2.1 : Int) == 2)))), (34, .cnd [((y2.2 == 0) && ((List.length y2.1 : Int) == 2))] (.c (.lit (List.map eGStyled y2.1)))), (35, .cnd [((y2.2 == 0) && ((List.length y2.1 : Int) == 2))] (.c (.imm [I e3.ID, I e3.Style.x0, I e3.Style.x1, I e3.Style.x2, I e3.Style.x3, I e3.Style.x4, I e3.Style.x5, I e3.Style.x6, I e3.Style.x7, I e3.Style.x8, I e3.Style.x9, I e3.Style.x10, I e3.Style.x11, I e3.Style.x12, I e3.Style.x13, I e3.Style.x14, I e3.Style.x15, I e3.Style.x16, I e3.Style.x17, I e3.Style.x18, I e3.Style.x19, I e3.Style.x20, I e3.Style.x21]))), (36, .cnd [((y2.2 == 0) && ((List.length y2.1 : Int) == 2))] (.c (.imm [I e3.Style.x0, I e3.Style.x1, I e3.Style.x2, I e3.Style.x3, I e3.Style.x4, I e3.Style.x5, I e3.Style.x6, I e3.Style.x7, I e3.Style.x8, I e3.Style.x9, I e3.Style.x10, I e3.Style.x11, I e3.Style.x12, I e3.Style.x13, I e3.Style.x14, I e3.Style.x15, I e3.Style.x16, I e3.Style.x17, I e3.Style.x18, I e3.Style.x19, I e3.Style.x20, I e3.Style.x21]))), (37, .cnd [((y2.2 == 0) && ((List.length y2.1 : Int) == 2))] (.c (.imm [I e3.Style.x9, I e3.Style.x10, I e3.Style.x11, I e3.Style.x12, I e3.Style.x13, I e3.Style.x14, I e3.Style.x15, I e3.Style.x16, I e3.Style.x17, I e3.Style.x18, I e3.Style.x19, I e3.Style.x20, I e3.Style.x21]))), (38, .cnd [((y2.2 == 0) && ((List.length y2.1 : Int) == 2))] (.c (I e3.Style.x9))), (39, .cnd [((y2.2 == 0) && ((List.length y2.1 : Int) == 2))] (.c (Bo (e3.Style.x9 == 0)))), (40, .c (Bo (((y2.2 == 0) && ((List.length y2.1 : Int) == 2)) && (e3.Style.x9 == 0)))), (41, .c (Bo (((y2.2 == 0) && ((List.length y2.1 : Int) == 2)) && (e3.Style.x9 == 0)))), (42, .cnd [(((y2.2 == 0) && ((List.length y2.1 : Int) == 2)) && (e3.Style.x9 == 0))] (.c (.lit (List.map eGStyled y2.1)))), (43, .cnd [(((y2.2 == 0) && ((List.length y2.1 : Int) == 2)) && (e3.Style.x9 == 0))] (.c (.imm [I e4.ID, I e4.Style.x0, I e4.Style.x1, I e4.Style.x2, I e4.Style.x3, I e4.Style.x4, I e4.Style.x5, I e4.Style.x6, I e4.Style.x7, I e4.Style.x8, I e4.Style.x9, I e4.Style.x10, I e4.Style.x11, I e4.Style.x12, I e4.Style.x13, I e4.Style.x14, I e4.Style.x15, I e4.Style.x16, I e4.Style.x17, I e4.Style.x18, I e4.Style.x19, I e4.Style.x20, I e4.Style.x21]))), (44, .cnd [(((y2.2 == 0) && ((List.length y2.1 : Int) == 2)) && (e3.Style.x9 == 0))] (.c (.imm [I e4.Style.x0, I e4.Style.x1, I e4.Style.x2, I e4.Style.x3, I e4.Style.x4, I e4.Style.x5, I e4.Style.x6, I e4.Style.x7, I e4.Style.x8, I e4.Style.x9, I e4.Style.x10, I e4.Style.x11, I e4.Style.x12, I e4.Style.x13, I e4.Style.x14, I e4.Style.x15, I e4.Style.x16, I e4.Style.x17, I e4.Style.x18, I e4.Style.x19, I e4.Style.x20, I e4.Style.x21]))), (45, .cnd [(((y2.2 == 0) && ((List.length y2.1 : Int) == 2)) && (e3.Style.x9 == 0))] (.c (.imm [I e4.Style.x9, I e4.Style.x10, I e4.Style.x11, I e4.Style.x12, I e4.Style.x13, I e4.Style.x14, I e4.Style.x15, I e4.Style.x16, I e4.Style.x17, I e4.Style.x18, I e4.Style.x19, I e4.Style.x20, I e4.Style.x21]))), (46, .cnd [(((y2.2 == 0) && ((List.length y2.1 : Int) == 2)) && (e3.Style.x9 == 0))] (.c (I e4.Style.x9))), (47, .cnd [(((y2.2 == 0) && ((List.length y2.1 : Int) == 2)) && (e3.Style.x9 == 0))] (.c (Bo (e4.Style.x9 == 7)))), (48, .c (Bo ((((y2.2 == 0) && ((List.length y2.1 : Int) == 2)) && (e3.Style.x9 == 0)) && (e4.Style.x9 == 7)))), (49, .c (Bo ((((y2.2 == 0) && ((List.length y2.1 : Int) == 2)) && (e3.Style.x9 == 0)) && (e4.Style.x9 == 7))))]) (G' := [(2, .tok 75 5 (List.length [(GView.mk 2 (⟨#[]⟩ : ByteArray) ([] : List GAttr) ([] : List GAction) ([] : List GView))])), (8, .blk 49 [I y1.1.Root, I y1.1.Next, .lit (List.map eGNode y1.1.Nodes)]), (12, .tok 45 4 (List.length [(GDecl.mk 9 0 7 (⟨#[]⟩ : ByteArray))])), (14, .tok 33 6 (List.length [(GRule.mk 2 (⟨#[]⟩ : ByteArray) 0 0 (⟨#[]⟩ : ByteArray) [(GDecl.mk 9 0 7 (⟨#[]⟩ : ByteArray))])])), (16, .blk 30 [.app 14 (List.map eGRule [(GRule.mk 2 (⟨#[]⟩ : ByteArray) 0 0 (⟨#[]⟩ : ByteArray) [(GDecl.mk 9 0 7 (⟨#[]⟩ : ByteArray))])])])]) (X' := []) ?_
  refine zE (.c (.lit (List.map eGStyled y2.1))) ?_
  obtain ⟨e5, he, h⟩ := bindE h
  refine rx_E (e := [((((y2.2 == 0) && ((List.length y2.1 : Int) == 2)) && (e3.Style.x9 == 0)) && (e4.Style.x9 == 7))]) [(50, .c (.lit (List.map eGStyled y2.1)), some 1)] (v := .c (.imm [I e5.ID, I e5.Style.x0, I e5.Style.x1, I e5.Style.x2, I e5.Style.x3, I e5.Style.x4, I e5.Style.x5, I e5.Style.x6, I e5.Style.x7, I e5.Style.x8, I e5.Style.x9, I e5.Style.x10, I e5.Style.x11, I e5.Style.x12, I e5.Style.x13, I e5.Style.x14, I e5.Style.x15, I e5.Style.x16, I e5.Style.x17, I e5.Style.x18, I e5.Style.x19, I e5.Style.x20, I e5.Style.x21])) (foot := []) (by kernel_rfl) (by kernel_rfl) (by kernel_rfl) (fun hg => rd_idx (enc := eGStyled) (sz := 23) (l := y2.1) (ix := 1) (gd_spec he hg) (by kernel_rfl) (by kernel_rfl) (by kernel_rfl)) rfl rfl ?_
  clear he
  refine zE (.c (.imm [I e5.Style.x0, I e5.Style.x1, I e5.Style.x2, I e5.Style.x3, I e5.Style.x4, I e5.Style.x5, I e5.Style.x6, I e5.Style.x7, I e5.Style.x8, I e5.Style.x9, I e5.Style.x10, I e5.Style.x11, I e5.Style.x12, I e5.Style.x13, I e5.Style.x14, I e5.Style.x15, I e5.Style.x16, I e5.Style.x17, I e5.Style.x18, I e5.Style.x19, I e5.Style.x20, I e5.Style.x21])) ?_
  refine zE (.c (.imm [I e5.Style.x2, I e5.Style.x3, I e5.Style.x4, I e5.Style.x5, I e5.Style.x6, I e5.Style.x7, I e5.Style.x8, I e5.Style.x9, I e5.Style.x10, I e5.Style.x11, I e5.Style.x12, I e5.Style.x13, I e5.Style.x14, I e5.Style.x15, I e5.Style.x16, I e5.Style.x17, I e5.Style.x18, I e5.Style.x19, I e5.Style.x20, I e5.Style.x21])) ?_
  refine zE (.c (I e5.Style.x2)) ?_
  refine zE (.c (Bo (e5.Style.x2 == 16))) ?_
  refine zP (.bool (((((y2.2 == 0) && ((List.length y2.1 : Int) == 2)) && (e3.Style.x9 == 0)) && (e4.Style.x9 == 7)) && (e5.Style.x2 == 16))) ?_
  refine zk 1 ?_
  obtain ⟨y6, he, h⟩ := bindE h
  refine zk1 [(((((y2.2 == 0) && ((List.length y2.1 : Int) == 2)) && (e3.Style.x9 == 0)) && (e4.Style.x9 == 7)) && (e5.Style.x2 == 16))] fok13 (fun hg => style_Initial_ok n  y6 (gd_spec he hg)) ?_
  clear he
  refine zE (.c (I y6.x14)) ?_
  refine zE (.c (Bo (y6.x14 == 1048576))) ?_
  refine zP (.bool ((((((y2.2 == 0) && ((List.length y2.1 : Int) == 2)) && (e3.Style.x9 == 0)) && (e4.Style.x9 == 7)) && (e5.Style.x2 == 16)) && (y6.x14 == 1048576))) ?_
  refine zk 1 ?_
  refine zee [0] (L2 := [(0, .c (Bo ((((((y2.2 == 0) && ((List.length y2.1 : Int) == 2)) && (e3.Style.x9 == 0)) && (e4.Style.x9 == 7)) && (e5.Style.x2 == 16)) && (y6.x14 == 1048576))))]) (G2 := [(2, .tok 75 5 (List.length [(GView.mk 2 (⟨#[]⟩ : ByteArray) ([] : List GAttr) ([] : List GAction) ([] : List GView))])), (8, .blk 49 [I y1.1.Root, I y1.1.Next, .lit (List.map eGNode y1.1.Nodes)]), (12, .tok 45 4 (List.length [(GDecl.mk 9 0 7 (⟨#[]⟩ : ByteArray))])), (14, .tok 33 6 (List.length [(GRule.mk 2 (⟨#[]⟩ : ByteArray) 0 0 (⟨#[]⟩ : ByteArray) [(GDecl.mk 9 0 7 (⟨#[]⟩ : ByteArray))])])), (16, .blk 30 [.app 14 (List.map eGRule [(GRule.mk 2 (⟨#[]⟩ : ByteArray) 0 0 (⟨#[]⟩ : ByteArray) [(GDecl.mk 9 0 7 (⟨#[]⟩ : ByteArray))])])])]) 65 ?_
  cases h
  exact aw_ret zr
def base_New  (n : Nat) (p0 : (List Int)) : Option GSrc := (withJ (fun (v3 : List Int) => some (GSrc.mk v3 0)) (fun (j1 : List Int → Option GSrc) => (if (decide ((List.length p0 : Int) > 4000)) = true then (subl p0 0 4000).bind fun (l2 : List Int) => j1 l2 else j1 p0)))
theorem base_New_ok  (n : Nat) (p0 : (List Int)) (r : GSrc) (h : base_New n p0 = some r) : FnD E 18 0 [.c (.lit (List.map eI64 p0))] [] (.c (.ptr 0 0)) [(0, .blk 90 [.lit (List.map eI64 r.L), I r.At])] := by
  refine zfn Tryd.func18 rfl ?_
  unfold base_New at h
  refine za [0] ?_
  refine aw_join h (fun A j => ∀ v3, j v3 = some r → A (mk [(0, .c (.lit (List.map eI64 v3)))] [] 0)) (fun v3 h => ?_) (fun j1 Aj1 hj1 h => ?_)
  refine za [2] ?_
  have h := Option.some.inj h
  subst h
  refine aw_views (views_of rfl [(2, 0)] [2] (L2 := [(2, .c (.ptr 0 0))]) (G2 := [(0, .blk 90 [.lit (List.map eI64 v3), I 0])]) (lim2 := 1) (by kernel_rfl)) ?_
  exact aw_ret (fin_own (.inl rfl) (by kernel_rfl) (by kernel_rfl))
  refine zx fun _ => ?_
  refine zk 1 ?_
  refine zl eI64 p0 ?_
  refine zk 1 ?_
  refine ze [0, 5] ?_
  refine zi h (fun h => ?_) fun h => ?_
  refine aw_out ?_
  refine zy fun _ => ?_
  refine zk 1 ?_
  obtain ⟨l2, he, h⟩ := bindE h
  refine zw (v := .c (.lit (List.map eI64 l2))) [] (rdW_slice (enc := eI64) (l := p0) (p := 0) (q := 4000) (sz := 1) he (by kernel_rfl) (fun x => by kernel_rfl)) ?_
  clear he
  refine zk 1 ?_
  refine x_last ?_
  exact via (zv [] [0] 0) (hj1 _ h)
  exact aw_views (zv [] [0] 0) (aw_skip (hj1 _ h))
def Src_N  (n : Nat) (p0 : GSrc) (p1 : Int) : Option (Int × GSrc) := (if ((decide (p0.At ≥ (List.length p0.L : Int))) || (decide (p1 < 1))) = true then some (0, p0) else (idx p0.L p0.At).bind fun (e1 : Int) => (nz p1).bind fun (d2 : Int) => (withJ (fun (v4 : Int) => some (v4, (GSrc.mk p0.L (IntKind.wrap .i64 (p0.At + 1))))) (fun (j3 : Int → Option (Int × GSrc)) => (if (decide ((Int.tmod e1 p1) < 0)) = true then j3 (IntKind.wrap .i64 ((Int.tmod e1 p1) + p1)) else j3 (Int.tmod e1 p1)))))
theorem Src_N_ok  (n : Nat) (p0 : GSrc) (p1 : Int) (r : (Int × GSrc)) (h : Src_N n p0 p1 = some r) : FnD E 20 1 [.c (.ptr 0 0), .c (I p1)] [(0, .blk 90 [.lit (List.map eI64 p0.L), I p0.At])] (.c (I r.1)) [(0, .blk 90 [.lit (List.map eI64 r.2.L), I r.2.At])] := by
  refine zfn Tryd.func20 rfl ?_
  unfold Src_N at h
  refine za [0, 1] ?_
  refine aw_seq ?_
  refine zdx [[], [0], [1, 0], [2, 1, 0], [], [4], [5, 4], [6, 5, 4], [7, 6, 5, 4], [3, 8, 2, 1, 0, 7, 6, 5, 4], [9, 3, 8, 2, 1, 0, 7, 6, 5, 4], [10, 9, 3, 8, 2, 1, 0, 7, 6, 5, 4], [11, 10, 9, 3, 8, 2, 1, 0, 7, 6, 5, 4], [10, 12, 9, 3, 8, 2, 1, 0, 7, 6, 5, 4, 11]] fun _ => ?_
  refine zk 8 ?_
  refine zl eI64 p0.L ?_
  refine zk 2 ?_
  refine zE (.c (I p1)) ?_
  refine zE (.c (Bo (decide (p1 < 1)))) ?_
  refine zP (.bool ((decide (p0.At ≥ (List.length p0.L : Int))) || (decide (p1 < 1)))) ?_
  refine ze [0, 1, 19] ?_
  refine zi h (fun h => ?_) fun h => ?_
  refine za [4] ?_
  cases h
  exact aw_ret zr
  refine aw_skip ?_
  refine zdx [[], [0], [1, 0], [2, 1, 0], [], [4], [5, 4], [6, 5, 4], [3, 7, 2, 1, 0, 6, 5, 4], [8, 3, 7, 2, 1, 0, 6, 5, 4], [], [9, 10, 8, 3, 7, 2, 1, 0, 6, 5, 4], [11, 0, 1, 2, 3, 4, 5, 6, 7, 8, 9, 10]] fun _ => ?_
  refine zk 8 ?_
  obtain ⟨e1, he, h⟩ := bindE h
  refine zd eI64 he ?_
  clear he
  refine zk 2 ?_
  obtain ⟨d2, he, h⟩ := bindE h
  refine rx_rd (v := .c (I (Int.tmod e1 p1))) (foot := []) (rd_rem (k := .i64) (x := e1) (y := p1) he (by kernel_rfl)) (by kernel_rfl) rfl rfl ?_
  clear he
  refine zk 1 ?_
  refine zee [0, 1, 5] (L2 := [(0, .c (.ptr 0 0)), (1, .c (I p1)), (5, .c (I (Int.tmod e1 p1)))]) (G2 := [(0, .blk 90 [.lit (List.map eI64 p0.L), I p0.At])]) 29 ?_
  refine za [1, 5] ?_
  refine aw_join h (fun A j => ∀ v4, j v4 = some r → A (mk [(5, .c (I v4))] [(0, .blk 90 [.lit (List.map eI64 p0.L), I (IntKind.wrap .i64 (p0.At + 1))])] 1)) (fun v4 h => ?_) (fun j3 Aj3 hj3 h => ?_)
  refine za [4] ?_
  cases h
  exact aw_ret zr
  refine za [1, 5, 40] ?_
  refine zi h (fun h => ?_) fun h => ?_
  refine aw_out ?_
  refine zb ?_
  exact via (zv [(0, 0)] [5] 1) (hj3 _ h)
  exact aw_views (zv [(0, 0)] [5] 1) (aw_skip (hj3 _ h))
def Src_Name  (n : Nat) (p0 : GSrc) : Option (ByteArray × GSrc) := (Src_N n p0 (List.length [(⟨#[97]⟩ : ByteArray), (⟨#[98]⟩ : ByteArray), (⟨#[99]⟩ : ByteArray), (⟨#[100]⟩ : ByteArray), (⟨#[120]⟩ : ByteArray), (⟨#[121]⟩ : ByteArray), (⟨#[105, 116, 101, 109]⟩ : ByteArray), (⟨#[110, 45, 49]⟩ : ByteArray)] : Int)).bind fun (y1 : (Int × GSrc)) => (idx [(⟨#[97]⟩ : ByteArray), (⟨#[98]⟩ : ByteArray), (⟨#[99]⟩ : ByteArray), (⟨#[100]⟩ : ByteArray), (⟨#[120]⟩ : ByteArray), (⟨#[121]⟩ : ByteArray), (⟨#[105, 116, 101, 109]⟩ : ByteArray), (⟨#[110, 45, 49]⟩ : ByteArray)] y1.1).bind fun (e2 : ByteArray) => some (e2, y1.2)
theorem Src_Name_ok  (n : Nat) (p0 : GSrc) (r : (ByteArray × GSrc)) (h : Src_Name n p0 = some r) : FnD E 33 1 [.c (.ptr 0 0)] [(0, .blk 90 [.lit (List.map eI64 p0.L), I p0.At])] (.c (Sx r.1)) [(0, .blk 90 [.lit (List.map eI64 r.2.L), I r.2.At])] := by
  refine zfn Tryd.func33 rfl ?_
  unfold Src_Name at h
  refine za [0] ?_
  refine za [0, 3] ?_
  refine zx fun _ => ?_
  refine zk 3 ?_
  refine zl eS [(⟨#[97]⟩ : ByteArray), (⟨#[98]⟩ : ByteArray), (⟨#[99]⟩ : ByteArray), (⟨#[100]⟩ : ByteArray), (⟨#[120]⟩ : ByteArray), (⟨#[121]⟩ : ByteArray), (⟨#[105, 116, 101, 109]⟩ : ByteArray), (⟨#[110, 45, 49]⟩ : ByteArray)] ?_
  obtain ⟨y1, he, h⟩ := bindE h
  refine zo [(0, 0)] fok20 (Src_N_ok n _ _ y1 he) ?_
  clear he
  obtain ⟨e2, he, h⟩ := bindE h
  refine zd eS he ?_
  clear he
  refine zk 2 ?_
  refine ze [2] ?_
  cases h
  exact aw_ret zr
def Src_Range  (n : Nat) (p0 : GSrc) (p1 : Int) (p2 : Int) : Option (Int × GSrc) := (Src_N n p0 (IntKind.wrap .i64 ((IntKind.wrap .i64 (p2 - p1)) + 1))).bind fun (y1 : (Int × GSrc)) => some ((IntKind.wrap .i64 (p1 + y1.1)), y1.2)
theorem Src_Range_ok  (n : Nat) (p0 : GSrc) (p1 : Int) (p2 : Int) (r : (Int × GSrc)) (h : Src_Range n p0 p1 p2 = some r) : FnD E 21 1 [.c (.ptr 0 0), .c (I p1), .c (I p2)] [(0, .blk 90 [.lit (List.map eI64 p0.L), I p0.At])] (.c (I r.1)) [(0, .blk 90 [.lit (List.map eI64 r.2.L), I r.2.At])] := by
  refine zfn Tryd.func21 rfl ?_
  unfold Src_Range at h
  refine za [0, 1, 2] ?_
  refine zx fun _ => ?_
  refine zk 6 ?_
  obtain ⟨y1, he, h⟩ := bindE h
  refine zo [(0, 0)] fok20 (Src_N_ok n _ _ y1 he) ?_
  clear he
  refine zk 2 ?_
  refine ze [6] ?_
  cases h
  exact aw_ret zr
def base_text  (n : Nat) (p0 : ByteArray) : Option GValue := some (GValue.mk 3 0 p0 ([] : List GValue))
theorem base_text_ok  (n : Nat) (p0 : ByteArray) (r : GValue) (h : base_text n p0 = some r) : FnD E 78 0 [.c (Sx p0)] [] (.agg [I r.Kind, I r.N, Sx r.S, .lit (List.map eGValue r.L)]) [] := by
  refine zfn Tryd.func78 rfl ?_
  unfold base_text at h
  refine za [0, 2] ?_
  refine za [2] ?_
  cases h
  exact aw_ret zr
def base_flag  (n : Nat) (p0 : Int) : Option GValue := some (GValue.mk 2 p0 (⟨#[]⟩ : ByteArray) ([] : List GValue))
theorem base_flag_ok  (n : Nat) (p0 : Int) (r : GValue) (h : base_flag n p0 = some r) : FnD E 79 0 [.c (I p0)] [] (.agg [I r.Kind, I r.N, Sx r.S, .lit (List.map eGValue r.L)]) [] := by
  refine zfn Tryd.func79 rfl ?_
  unfold base_flag at h
  refine za [0, 2] ?_
  refine za [2] ?_
  cases h
  exact aw_ret zr
def base_number  (n : Nat) (p0 : Int) : Option GValue := some (GValue.mk 1 p0 (⟨#[]⟩ : ByteArray) ([] : List GValue))
theorem base_number_ok  (n : Nat) (p0 : Int) (r : GValue) (h : base_number n p0 = some r) : FnD E 80 0 [.c (I p0)] [] (.agg [I r.Kind, I r.N, Sx r.S, .lit (List.map eGValue r.L)]) [] := by
  refine zfn Tryd.func80 rfl ?_
  unfold base_number at h
  refine za [0, 2] ?_
  refine za [2] ?_
  cases h
  exact aw_ret zr
def base_alphabet  (n : Nat)  : Option (List Int) := some [97, 98, 102, 105, 88, 49, 50, 32, 32, 46, 44, 45, 39, 34, 40, 41, 91, 93, 60, 33, 58, 95, 37, 43, 47, 9, 10, 13, 11, 133, 160, 173, 183, 769, 1488, 1489, 1470, 1456, 1536, 1575, 1576, 1587, 1600, 1611, 1633, 1642, 1548, 1564, 1777, 2307, 2309, 2364, 4352, 4449, 4520, 44032, 44033, 8201, 8203, 8204, 8205, 8206, 8207, 8217, 8232, 8233, 8234, 8235, 8236, 8237, 8238, 8288, 8294, 8295, 8296, 8297, 9728, 12288, 12289, 12300, 12301, 12450, 19968, 65039, 127462, 127463, 127995, 128104, 1114111]
theorem base_alphabet_ok  (n : Nat)  (r : (List Int)) (h : base_alphabet n  = some r) : FnD E 98 0 [] [] (.c (.lit (List.map eI32 r))) [] := by
  refine zfn Tryd.func98 rfl ?_
  unfold base_alphabet at h
  refine za [] ?_
  refine za [0] ?_
  cases h
  exact aw_ret zr
def Src_Chance  (n : Nat) (p0 : GSrc) (p1 : Int) : Option (Bool × GSrc) := (Src_N n p0 p1).bind fun (y1 : (Int × GSrc)) => some ((y1.1 == (IntKind.wrap .i64 (p1 - 1))), y1.2)
theorem Src_Chance_ok  (n : Nat) (p0 : GSrc) (p1 : Int) (r : (Bool × GSrc)) (h : Src_Chance n p0 p1 = some r) : FnD E 99 1 [.c (.ptr 0 0), .c (I p1)] [(0, .blk 90 [.lit (List.map eI64 p0.L), I p0.At])] (.c (Bo r.1)) [(0, .blk 90 [.lit (List.map eI64 r.2.L), I r.2.At])] := by
  refine zfn Tryd.func99 rfl ?_
  unfold Src_Chance at h
  refine za [0, 1] ?_
  refine zx fun _ => ?_
  refine zk 2 ?_
  obtain ⟨y1, he, h⟩ := bindE h
  refine zo [(0, 0)] fok20 (Src_N_ok n _ _ y1 he) ?_
  clear he
  refine zk 4 ?_
  refine ze [4] ?_
  cases h
  exact aw_ret zr
def Src_Raw  (n : Nat) (p0 : GSrc) : Option (Int × GSrc) := (if (decide (p0.At ≥ (List.length p0.L : Int))) = true then some (0, p0) else (idx p0.L (IntKind.wrap .i64 ((IntKind.wrap .i64 (p0.At + 1)) - 1))).bind fun (e1 : Int) => some (e1, (GSrc.mk p0.L (IntKind.wrap .i64 (p0.At + 1)))))
theorem Src_Raw_ok  (n : Nat) (p0 : GSrc) (r : (Int × GSrc)) (h : Src_Raw n p0 = some r) : FnD E 100 1 [.c (.ptr 0 0)] [(0, .blk 90 [.lit (List.map eI64 p0.L), I p0.At])] (.c (I r.1)) [(0, .blk 90 [.lit (List.map eI64 r.2.L), I r.2.At])] := by
  refine zfn Tryd.func100 rfl ?_
  unfold Src_Raw at h
  refine za [0] ?_
  refine aw_seq ?_
  refine zdx [[], [0], [1, 0], [2, 1, 0], [], [4], [5, 4], [6, 5, 4], [7, 6, 5, 4], [3, 8, 2, 1, 0, 7, 6, 5, 4]] fun _ => ?_
  refine zk 8 ?_
  refine zl eI64 p0.L ?_
  refine zk 1 ?_
  refine ze [0, 12] ?_
  refine zi h (fun h => ?_) fun h => ?_
  refine za [2] ?_
  cases h
  exact aw_ret zr
  refine aw_skip ?_
  refine za [0] ?_
  refine zdx [[], [0], [1, 0], [2, 1, 0], [], [4], [5, 4], [6, 5, 4], [7, 6, 5, 4], [3, 8, 2, 1, 0, 7, 6, 5, 4], [9, 3, 8, 2, 1, 0, 7, 6, 5, 4], [10, 0, 1, 2, 3, 4, 5, 6, 7, 8, 9]] fun _ => ?_
  refine zk 9 ?_
  obtain ⟨e1, he, h⟩ := bindE h
  refine zd eI64 he ?_
  clear he
  refine zk 2 ?_
  refine ze [2] ?_
  cases h
  exact aw_ret zr
def Src_Rune  (n : Nat) (p0 : GSrc) : Option (Int × GSrc) := (base_alphabet n).bind fun (y1 : (List Int)) => (Src_Chance n p0 40).bind fun (y2 : (Bool × GSrc)) => (if y2.1 = true then (Src_Raw n y2.2).bind fun (y3 : (Int × GSrc)) => some ((IntKind.wrap .i32 y3.1), y3.2) else (Src_N n y2.2 (List.length y1 : Int)).bind fun (y4 : (Int × GSrc)) => (idx y1 y4.1).bind fun (e5 : Int) => some (e5, y4.2))
theorem Src_Rune_ok  (n : Nat) (p0 : GSrc) (r : (Int × GSrc)) (h : Src_Rune n p0 = some r) : FnD E 91 1 [.c (.ptr 0 0)] [(0, .blk 90 [.lit (List.map eI64 p0.L), I p0.At])] (.c (I32 r.1)) [(0, .blk 90 [.lit (List.map eI64 r.2.L), I r.2.At])] := by
  refine zfn Tryd.func91 rfl ?_
  unfold Src_Rune at h
  refine za [0] ?_
  refine zx fun _ => ?_
  obtain ⟨y1, he, h⟩ := bindE h
  refine zc fok98 (base_alphabet_ok n  y1 he) ?_
  clear he
  refine zk 1 ?_
  refine ze [0, 3] ?_
  refine aw_seq ?_
  refine zx fun _ => ?_
  refine zk 1 ?_
  obtain ⟨y2, he, h⟩ := bindE h
  refine zo [(0, 0)] fok99 (Src_Chance_ok n _ _ y2 he) ?_
  clear he
  refine ze [0, 3, 6] ?_
  refine zi h (fun h => ?_) fun h => ?_
  refine zx fun _ => ?_
  refine zk 1 ?_
  obtain ⟨y3, he, h⟩ := bindE h
  refine zo [(0, 0)] fok100 (Src_Raw_ok n _ y3 he) ?_
  clear he
  refine zk 2 ?_
  refine ze [2] ?_
  cases h
  exact aw_ret zr
  refine aw_skip ?_
  refine zx fun _ => ?_
  refine zk 3 ?_
  refine zl eI32 y1 ?_
  obtain ⟨y4, he, h⟩ := bindE h
  refine zo [(0, 0)] fok20 (Src_N_ok n _ _ y4 he) ?_
  clear he
  obtain ⟨e5, he, h⟩ := bindE h
  refine zd eI32 he ?_
  clear he
  refine zk 2 ?_
  refine zee [2] (L2 := [(2, .c (I32 e5))]) (G2 := [(0, .blk 90 [.lit (List.map eI64 y4.2.L), I y4.2.At])]) 14 ?_
  cases h
  exact aw_ret zr
def Src_Text_L1 (y1 : (Int × GSrc)) (y2 : (Int × GSrc)) (v16 : List Int) (j19 : List Int → List Int → Int → Option ((List Int) × GSrc)) : Nat → List Int → Int → List Int → Int → Option ((List Int) × GSrc)
  | 0, _, _, _, _ => none
  | n + 1, v29, v30, v31, v32 => (if (decide (v30 < y1.1)) = true then (withJ (fun (v39 : List Int) (v40 : List Int) (v41 : Int) => Src_Text_L1 y1 y2 v16 j19 n v39 (IntKind.wrap .i64 (v30 + 1)) v40 v41) (fun (j33 : List Int → List Int → Int → Option ((List Int) × GSrc)) => (if (decide (y2.1 > 0)) = true then (Src_N n (GSrc.mk v31 v32) 5).bind fun (y34 : (Int × GSrc)) => (idx v16 y34.1).bind fun (e35 : Int) => (apd 4 v29 [e35]).bind fun (l36 : List Int) => j33 l36 y34.2.L y34.2.At else (Src_Rune n (GSrc.mk v31 v32)).bind fun (y37 : (Int × GSrc)) => (apd 4 v29 [y37.1]).bind fun (l38 : List Int) => j33 l38 y37.2.L y37.2.At))) else j19 v29 v31 v32)
def Src_Text_L0 (j3 : List Int → List Int → Int → Option ((List Int) × GSrc)) (y1 : (Int × GSrc)) (y2 : (Int × GSrc)) : Nat → List Int → Int → List Int → Int → Option ((List Int) × GSrc)
  | 0, _, _, _, _ => none
  | n + 1, v6, v7, v8, v9 => (if (decide (v7 < 5)) = true then (Src_Rune n (GSrc.mk v8 v9)).bind fun (y10 : (Int × GSrc)) => (apd 4 v6 [y10.1]).bind fun (l11 : List Int) => Src_Text_L0 j3 y1 y2 n l11 (IntKind.wrap .i64 (v7 + 1)) y10.2.L y10.2.At else j3 v6 v8 v9)
def Src_Text  (n : Nat) (p0 : GSrc) (p1 : Int) : Option ((List Int) × GSrc) := (Src_N n p0 (IntKind.wrap .i64 (p1 + 1))).bind fun (y1 : (Int × GSrc)) => (Src_N n y1.2 3).bind fun (y2 : (Int × GSrc)) => (withJ (fun (v16 : List Int) (v17 : List Int) (v18 : Int) => (withJ (fun (v46 : List Int) (v47 : List Int) (v48 : Int) => some (v46, (GSrc.mk v47 v48))) (fun (j19 : List Int → List Int → Int → Option ((List Int) × GSrc)) => Src_Text_L1 y1 y2 v16 j19 n ([] : List Int) 0 v17 v18))) (fun (j3 : List Int → List Int → Int → Option ((List Int) × GSrc)) => Src_Text_L0 j3 y1 y2 n ([] : List Int) 0 y2.2.L y2.2.At))
theorem Src_Text_ok  (n : Nat) (p0 : GSrc) (p1 : Int) (r : ((List Int) × GSrc)) (h : Src_Text n p0 p1 = some r) : FnD E 82 1 [.c (.ptr 0 0), .c (I p1)] [(0, .blk 90 [.lit (List.map eI64 p0.L), I p0.At])] (.c (.lit (List.map eI32 r.1))) [(0, .blk 90 [.lit (List.map eI64 r.2.L), I r.2.At])] := by
  refine zfn Tryd.func82 rfl ?_
  unfold Src_Text at h
  refine za [0, 1] ?_
  refine zx fun _ => ?_
  refine zk 3 ?_
  obtain ⟨y1, he, h⟩ := bindE h
  refine zo [(0, 0)] fok20 (Src_N_ok n _ _ y1 he) ?_
  clear he
  refine zk 1 ?_
  refine ze [0, 5] ?_
  refine za [0, 5, 6] ?_
  refine zx fun _ => ?_
  refine zk 1 ?_
  obtain ⟨y2, he, h⟩ := bindE h
  refine zo [(0, 0)] fok20 (Src_N_ok n _ _ y2 he) ?_
  clear he
  refine zk 1 ?_
  refine ze [0, 5, 6, 7] ?_
  refine za [0, 5, 6, 7, 8] ?_
  refine aw_join h (fun A j => ∀ v16 v17 v18, j v16 v17 v18 = some r → A (mk [(0, .c (.ptr 0 0)), (5, .c (I y1.1)), (6, .c (NilS)), (7, .c (I y2.1)), (8, .c (.app 1 (List.map eI32 v16)))] [(0, .blk 90 [.lit (List.map eI64 v17), I v18]), (1, .tok 21 1 (List.length v16))] 2)) (fun v16 v17 v18 h => ?_) (fun j3 Aj3 hj3 h => ?_)
  refine aw_join h (fun A j => ∀ v46 v47 v48, j v46 v47 v48 = some r → A (mk [(6, .c (.app 1 (List.map eI32 v46)))] [(0, .blk 90 [.lit (List.map eI64 v47), I v48]), (1, .tok 21 1 (List.length v46))] 2)) (fun v46 v47 v48 h => ?_) (fun j19 Aj19 hj19 h => ?_)
  refine za [4] ?_
  cases h
  exact aw_ret zr
  refine za [0, 5, 6, 7, 8, 10] ?_
  refine aw_block ?_
  refine aw_loopJ (fun n s => ∃ v29 v30 v31 v32, Src_Text_L1 y1 y2 v16 j19 n v29 v30 v31 v32 = some r ∧ s = mk [(0, .c (.ptr 0 0)), (5, .c (I y1.1)), (6, .c (.app 1 (List.map eI32 v29))), (7, .c (I y2.1)), (8, .c (.app 2 (List.map eI32 v16))), (10, .c (I v30))] [(0, .blk 90 [.lit (List.map eI64 v31), I v32]), (1, .tok 21 1 (List.length v29)), (2, .tok 21 1 (List.length v16))] 3) n _ (Views.trans (view_nilS (L2 := [(0, .c (.ptr 0 0)), (5, .c (I y1.1)), (6, .c (.app 3 (List.map eI32 ([] : List Int)))), (7, .c (I y2.1)), (8, .c (.app 1 (List.map eI32 v16))), (10, .c (I 0))]) (G2 := [(0, .blk 90 [.lit (List.map eI64 v17), I v18]), (1, .tok 21 1 (List.length v16)), (3, .tok 21 1 (List.length ([] : List Int)))]) (lim2 := 4) 6 21 1 (by kernel_rfl) (by kernel_rfl) (by kernel_rfl) (by kernel_rfl)) (zv [(0, 0), (3, 1), (1, 2)] [0, 5, 6, 7, 8, 10] 3)) ⟨_, _, _, _, h, rfl⟩ (fun s ⟨v29, v30, v31, v32, h, _⟩ => nomatch h) ?_
  rintro n s ⟨v29, v30, v31, v32, h, rfl⟩
  rw [Src_Text_L1] at h
  refine aw_seq ?_
  refine za [0, 5, 6, 7, 8, 10, 28] ?_
  refine zi h (fun h => ?_) fun h => ?_
  refine aw_skip ?_
  refine aw_join h (fun A j => ∀ v39 v40 v41, j v39 v40 v41 = some r → A (mk [(0, .c (.ptr 0 0)), (5, .c (I y1.1)), (6, .c (.app 1 (List.map eI32 v39))), (7, .c (I y2.1)), (8, .c (.app 2 (List.map eI32 v16))), (10, .c (I v30))] [(0, .blk 90 [.lit (List.map eI64 v40), I v41]), (1, .tok 21 1 (List.length v39)), (2, .tok 21 1 (List.length v16))] 3)) (fun v39 v40 v41 h => ?_) (fun j33 Aj33 hj33 h => ?_)
  refine aw_out ?_
  refine zb ?_
  exact via (zv [(0, 0), (1, 1), (2, 2)] [0, 5, 6, 7, 8, 10] 3) (⟨_, _, _, _, h, rfl⟩)
  refine aw_block ?_
  refine za [0, 5, 6, 7, 8, 10, 32] ?_
  refine zi h (fun h => ?_) fun h => ?_
  refine aw_out ?_
  refine zy fun _ => ?_
  refine zk 3 ?_
  obtain ⟨y34, he, h⟩ := bindE h
  refine zo [(0, 0)] fok20 (Src_N_ok n _ _ y34 he) ?_
  clear he
  obtain ⟨e35, he, h⟩ := bindE h
  refine zd eI32 he ?_
  clear he
  refine zk 2 ?_
  obtain ⟨l36, he, h⟩ := bindE h
  refine rx_append (enc := eI32) (l := v29) (els := [e35]) (r := l36) (old := some 1) (e := 21) (sz := 1) (bytes := 4) (k := (List.length v29)) (nm := 15) he (by kernel_rfl) (by kernel_rfl) (fun x => by kernel_rfl) (by kernel_rfl) (by kernel_rfl) rfl rfl rfl ?_
  clear he
  refine zk 1 ?_
  refine x_last ?_
  exact via (zv [(0, 0), (15, 1), (2, 2)] [0, 5, 6, 7, 8, 10] 3) (hj33 _ _ _ h)
  refine aw_out ?_
  refine zy fun _ => ?_
  refine zk 2 ?_
  obtain ⟨y37, he, h⟩ := bindE h
  refine zo [(0, 0)] fok91 (Src_Rune_ok n _ y37 he) ?_
  clear he
  refine zk 1 ?_
  obtain ⟨l38, he, h⟩ := bindE h
  refine rx_append (enc := eI32) (l := v29) (els := [y37.1]) (r := l38) (old := some 1) (e := 21) (sz := 1) (bytes := 4) (k := (List.length v29)) (nm := 12) he (by kernel_rfl) (by kernel_rfl) (fun x => by kernel_rfl) (by kernel_rfl) (by kernel_rfl) rfl rfl rfl ?_
  clear he
  refine zk 1 ?_
  refine x_last ?_
  exact via (zv [(0, 0), (12, 1), (2, 2)] [0, 5, 6, 7, 8, 10] 3) (hj33 _ _ _ h)
  exact aw_views (zv [(0, 0), (1, 1)] [6] 2) (aw_exit (hj19 _ _ _ h))
  refine za [0, 5, 6, 7, 8, 9] ?_
  refine aw_block ?_
  refine aw_loopJ (fun n s => ∃ v6 v7 v8 v9, Src_Text_L0 j3 y1 y2 n v6 v7 v8 v9 = some r ∧ s = mk [(0, .c (.ptr 0 0)), (5, .c (I y1.1)), (6, .c (NilS)), (7, .c (I y2.1)), (8, .c (.app 1 (List.map eI32 v6))), (9, .c (I v7))] [(0, .blk 90 [.lit (List.map eI64 v8), I v9]), (1, .tok 21 1 (List.length v6))] 2) n _ (Views.trans (view_nilS (L2 := [(0, .c (.ptr 0 0)), (5, .c (I y1.1)), (6, .c (NilS)), (7, .c (I y2.1)), (8, .c (.app 13 (List.map eI32 ([] : List Int)))), (9, .c (I 0))]) (G2 := [(0, .blk 90 [.lit (List.map eI64 y2.2.L), I y2.2.At]), (13, .tok 21 1 (List.length ([] : List Int)))]) (lim2 := 14) 8 21 1 (by kernel_rfl) (by kernel_rfl) (by kernel_rfl) (by kernel_rfl)) (zv [(0, 0), (13, 1)] [0, 5, 6, 7, 8, 9] 2)) ⟨_, _, _, _, h, rfl⟩ (fun s ⟨v6, v7, v8, v9, h, _⟩ => nomatch h) ?_
  rintro n s ⟨v6, v7, v8, v9, h, rfl⟩
  rw [Src_Text_L0] at h
  refine aw_seq ?_
  refine za [0, 5, 6, 7, 8, 9, 18] ?_
  refine zi h (fun h => ?_) fun h => ?_
  refine aw_skip ?_
  refine aw_seq ?_
  refine aw_block ?_
  refine zy fun _ => ?_
  refine zk 2 ?_
  obtain ⟨y10, he, h⟩ := bindE h
  refine zo [(0, 0)] fok91 (Src_Rune_ok n _ y10 he) ?_
  clear he
  refine zk 1 ?_
  obtain ⟨l11, he, h⟩ := bindE h
  refine rx_append (enc := eI32) (l := v6) (els := [y10.1]) (r := l11) (old := some 1) (e := 21) (sz := 1) (bytes := 4) (k := (List.length v6)) (nm := 8) he (by kernel_rfl) (by kernel_rfl) (fun x => by kernel_rfl) (by kernel_rfl) (by kernel_rfl) rfl rfl rfl ?_
  clear he
  refine zk 1 ?_
  refine x_last ?_
  refine aw_out ?_
  refine zb ?_
  exact via (zv [(0, 0), (8, 1)] [0, 5, 6, 7, 8, 9] 2) (⟨_, _, _, _, h, rfl⟩)
  exact aw_views (zv [(0, 0), (1, 1)] [0, 5, 6, 7, 8] 2) (aw_exit (hj3 _ _ _ h))
def Src_valid  (n : Nat) (p0 : GSrc) (p1 : (List Int)) : Option ((List Int) × GSrc) := (runesO (runesBytes p1)).bind fun (l1 : List Int) => some (l1, p0)
theorem Src_valid_ok  (n : Nat) (p0 : GSrc) (p1 : (List Int)) (r : ((List Int) × GSrc)) (h : Src_valid n p0 p1 = some r) : FnD E 81 1 [.c (.ptr 0 0), .c (.lit (List.map eI32 p1))] [(0, .blk 90 [.lit (List.map eI64 p0.L), I p0.At])] (.c (.lit (List.map eI32 r.1))) [(0, .blk 90 [.lit (List.map eI64 r.2.L), I r.2.At])] := by
  refine zfn Tryd.func81 rfl ?_
  unfold Src_valid at h
  refine za [1] ?_
  refine zx fun _ => ?_
  refine zk 1 ?_
  refine zw (v := .c (Sx (runesBytes p1))) [] (rdW_runesText (ns := p1) (by kernel_rfl)) ?_
  obtain ⟨l1, he, h⟩ := bindE h
  refine rx_O (v := .c (.lit (List.map eI32 l1))) (foot := []) (opW_runes (s := (runesBytes p1)) he (by kernel_rfl)) (by kernel_rfl) rfl rfl ?_
  clear he
  refine zk 1 ?_
  refine ze [4] ?_
  cases h
  exact aw_ret zr
end Go.Proofs.YtojkihhnioeggaaDoor.S
