/- Functions, and that the program's are they. Printed by ext.py. -/
import Derived.Test.YtojkihhnioeggaaDoorGI3
set_option linter.unusedVariables false
set_option linter.unusedSimpArgs false
set_option maxRecDepth 100000
set_option maxHeartbeats 4000000
namespace Go.Proofs.YtojkihhnioeggaaDoor.S
open Go Go.Bm
def view_value_body (self_view_value : GValue → Option GValue) (self_view_values : (List GValue) → Option (List GValue)) (n : Nat) (p0 : GValue) : Option GValue := (self_view_values p0.L).bind fun (y1 : (List GValue)) => some (GValue.mk p0.Kind p0.N p0.S y1)
theorem view_value_body_ok (self_view_value : GValue → Option GValue) (self_view_values : (List GValue) → Option (List GValue)) (ih_view_value : ∀ (p0 : GValue) (r : GValue), self_view_value p0 = some r → FnD E 86 0 [.agg [I p0.Kind, I p0.N, Sx p0.S, .lit (List.map eGValue p0.L)]] [] (.agg [I r.Kind, I r.N, Sx r.S, .lit (List.map eGValue r.L)]) []) (ih_view_values : ∀ (p0 : (List GValue)) (r : (List GValue)), self_view_values p0 = some r → FnD E 95 0 [.c (.lit (List.map eGValue p0))] [] (.c (.lit (List.map eGValue r))) []) (n : Nat) (p0 : GValue) (r : GValue) (h : view_value_body self_view_value self_view_values n p0 = some r) : FnD E 86 0 [.agg [I p0.Kind, I p0.N, Sx p0.S, .lit (List.map eGValue p0.L)]] [] (.agg [I r.Kind, I r.N, Sx r.S, .lit (List.map eGValue r.L)]) [] := by
  refine zfn Tryd.func86 rfl ?_
  unfold view_value_body at h
  refine za [1, 2] ?_
  refine zx fun _ => ?_
  refine zk 2 ?_
  obtain ⟨y1, he, h⟩ := bindE h
  refine zc fok95 (ih_view_values _ y1 he) ?_
  clear he
  refine zk 2 ?_
  refine ze [1, 2] ?_
  refine za [2] ?_
  cases h
  exact aw_ret zr
def view_values_L0 (p0 : (List GValue)) (self_view_value : GValue → Option GValue) (j1 : List GValue → Option (List GValue)) : Nat → List GValue → Int → Option (List GValue)
  | 0, _, _ => none
  | n + 1, v5, v6 => (if (decide (v6 < (List.length p0 : Int))) = true then (idx p0 v6).bind fun (e7 : GValue) => (self_view_value e7).bind fun (y8 : GValue) => (apd 56 v5 [y8]).bind fun (l9 : List GValue) => view_values_L0 p0 self_view_value j1 n l9 (IntKind.wrap .i64 (v6 + 1)) else j1 v5)
def view_values_body (self_view_value : GValue → Option GValue) (self_view_values : (List GValue) → Option (List GValue)) (n : Nat) (p0 : (List GValue)) : Option (List GValue) := (withJ (fun (v12 : List GValue) => some v12) (fun (j1 : List GValue → Option (List GValue)) => view_values_L0 p0 self_view_value j1 n ([] : List GValue) 0))
theorem view_values_body_ok (self_view_value : GValue → Option GValue) (self_view_values : (List GValue) → Option (List GValue)) (ih_view_value : ∀ (p0 : GValue) (r : GValue), self_view_value p0 = some r → FnD E 86 0 [.agg [I p0.Kind, I p0.N, Sx p0.S, .lit (List.map eGValue p0.L)]] [] (.agg [I r.Kind, I r.N, Sx r.S, .lit (List.map eGValue r.L)]) []) (ih_view_values : ∀ (p0 : (List GValue)) (r : (List GValue)), self_view_values p0 = some r → FnD E 95 0 [.c (.lit (List.map eGValue p0))] [] (.c (.lit (List.map eGValue r))) []) (n : Nat) (p0 : (List GValue)) (r : (List GValue)) (h : view_values_body self_view_value self_view_values n p0 = some r) : FnD E 95 0 [.c (.lit (List.map eGValue p0))] [] (.c (.lit (List.map eGValue r))) [] := by
  refine zfn Tryd.func95 rfl ?_
  unfold view_values_body at h
  refine za [0] ?_
  refine za [0, 3] ?_
  refine aw_join h (fun A j => ∀ v12, j v12 = some r → A (mk [(3, .c (.app 0 (List.map eGValue v12)))] [(0, .tok 70 4 (List.length v12))] 1)) (fun v12 h => ?_) (fun j1 Aj1 hj1 h => ?_)
  refine za [2] ?_
  cases h
  exact aw_ret zr
  refine zx fun _ => ?_
  refine zk 1 ?_
  refine zl eGValue p0 ?_
  refine zk 1 ?_
  refine ze [3, 6, 7, 8] ?_
  refine aw_block ?_
  refine aw_loopJ (fun n s => ∃ v5 v6, view_values_L0 p0 self_view_value j1 n v5 v6 = some r ∧ s = mk [(3, .c (.app 0 (List.map eGValue v5))), (6, .c (.lit (List.map eGValue p0))), (7, .c (I (List.length p0 : Int))), (8, .c (I v6))] [(0, .tok 70 4 (List.length v5))] 1) n _ (Views.trans (view_nilS (L2 := [(3, .c (.app 5 (List.map eGValue ([] : List GValue)))), (6, .c (.lit (List.map eGValue p0))), (7, .c (I (List.length p0 : Int))), (8, .c (I 0))]) (G2 := [(5, .tok 70 4 (List.length ([] : List GValue)))]) (lim2 := 6) 3 70 4 (by kernel_rfl) (by kernel_rfl) (by kernel_rfl) (by kernel_rfl)) (zv [(5, 0)] [3, 6, 7, 8] 1)) ⟨_, _, h, rfl⟩ (fun s ⟨v5, v6, h, _⟩ => nomatch h) ?_
  rintro n s ⟨v5, v6, h, rfl⟩
  rw [view_values_L0] at h
  refine za [3, 6, 7, 8, 9] ?_
  refine aw_seq ?_
  refine zi h (fun h => ?_) fun h => ?_
  refine aw_skip ?_
  refine aw_seq ?_
  refine aw_block ?_
  refine zx fun _ => ?_
  obtain ⟨e7, he, h⟩ := bindE h
  refine rx_rd (v := .c (.imm [I e7.Kind, I e7.N, Sx e7.S, .lit (List.map eGValue e7.L)])) (foot := []) (rd_idx (enc := eGValue) (sz := 4) (l := p0) (ix := v6) he (by kernel_rfl) (eGValue_eq e7) (by kernel_rfl)) (by kernel_rfl) rfl rfl ?_
  clear he
  refine zk 3 ?_
  refine ze [3, 5, 6, 7, 8] ?_
  refine zy fun _ => ?_
  refine zk 2 ?_
  obtain ⟨y8, he, h⟩ := bindE h
  refine zc fok86 (ih_view_value _ y8 he) ?_
  clear he
  refine rx_bs (e := 70) (sz := 4) (len := 1) (r := [I y8.Kind, I y8.N, Sx y8.S, .lit (List.map eGValue y8.L)]) (l' := List.map eGValue [y8]) (nm := 9) (by kernel_rfl) (by simp only [List.map_cons, List.map_nil, eGValue_eq]; kernel_rfl) (by kernel_rfl) (by kernel_rfl) rfl rfl rfl ?_
  obtain ⟨l9, he, h⟩ := bindE h
  refine rx_append (enc := eGValue) (l := v5) (els := [y8]) (r := l9) (old := some 0) (e := 70) (sz := 4) (bytes := 56) (k := (List.length v5)) (nm := 10) he (by kernel_rfl) (by kernel_rfl) (fun x => by rw [eGValue_eq]; rfl) (by kernel_rfl) (by kernel_rfl) rfl rfl rfl ?_
  clear he
  refine zk 1 ?_
  refine x_last ?_
  refine aw_out ?_
  refine zb ?_
  exact via (zv [(10, 0)] [3, 6, 7, 8] 1) (⟨_, _, h, rfl⟩)
  exact aw_views (zv [(0, 0)] [3] 1) (aw_exit (hj1 _ h))
mutual
def view_value : Nat → GValue → Option GValue
  | 0, _ => none
  | n + 1, p0 => view_value_body (fun a0 => view_value n a0) (fun a0 => view_values n a0) n p0
def view_values : Nat → (List GValue) → Option (List GValue)
  | 0, _ => none
  | n + 1, p0 => view_values_body (fun a0 => view_value n a0) (fun a0 => view_values n a0) n p0
end
theorem knot_view_value (n : Nat) : (∀ (p0 : GValue) (r : GValue), view_value n p0 = some r → FnD E 86 0 [.agg [I p0.Kind, I p0.N, Sx p0.S, .lit (List.map eGValue p0.L)]] [] (.agg [I r.Kind, I r.N, Sx r.S, .lit (List.map eGValue r.L)]) []) ∧ (∀ (p0 : (List GValue)) (r : (List GValue)), view_values n p0 = some r → FnD E 95 0 [.c (.lit (List.map eGValue p0))] [] (.c (.lit (List.map eGValue r))) []) := by
  induction n with
  | zero => refine ⟨fun p0 r h => (by rw [view_value] at h; cases h), fun p0 r h => (by rw [view_values] at h; cases h)⟩
  | succ n ih =>
    obtain ⟨i0, i1⟩ := ih
    refine ⟨fun p0 r h => (by rw [view_value] at h; exact view_value_body_ok _ _ i0 i1 n _ r h), fun p0 r h => (by rw [view_values] at h; exact view_values_body_ok _ _ i0 i1 n _ r h)⟩
theorem view_value_ok (n : Nat) : (∀ (p0 : GValue) (r : GValue), view_value n p0 = some r → FnD E 86 0 [.agg [I p0.Kind, I p0.N, Sx p0.S, .lit (List.map eGValue p0.L)]] [] (.agg [I r.Kind, I r.N, Sx r.S, .lit (List.map eGValue r.L)]) []) := (knot_view_value n).1
theorem view_values_ok (n : Nat) : (∀ (p0 : (List GValue)) (r : (List GValue)), view_values n p0 = some r → FnD E 95 0 [.c (.lit (List.map eGValue p0))] [] (.c (.lit (List.map eGValue r))) []) := (knot_view_value n).2
def view_Attr_L0 (p0 : (List GAttr)) (p1 : ByteArray) (j1 : Unit → Option (GValue × Bool)) : Nat → Int → Option (GValue × Bool)
  | 0, _ => none
  | n + 1, v4 => (if (decide (v4 < (List.length p0 : Int))) = true then (idx p0 v4).bind fun (e5 : GAttr) => (if (sEq e5.Name p1) = true then (view_value n e5.Value).bind fun (y6 : GValue) => some (y6, true) else view_Attr_L0 p0 p1 j1 n (IntKind.wrap .i64 (v4 + 1))) else j1 ())
def view_Attr  (n : Nat) (p0 : (List GAttr)) (p1 : ByteArray) : Option (GValue × Bool) := (withJ (fun (_ : Unit) => some ((GValue.mk 0 0 (⟨#[]⟩ : ByteArray) ([] : List GValue)), false)) (fun (j1 : Unit → Option (GValue × Bool)) => view_Attr_L0 p0 p1 j1 n 0))
theorem view_Attr_ok  (n : Nat) (p0 : (List GAttr)) (p1 : ByteArray) (r : (GValue × Bool)) (h : view_Attr n p0 p1 = some r) : FnD E 67 0 [.c (.lit (List.map eGAttr p0)), .c (Sx p1)] [] (.tup [.agg [I r.1.Kind, I r.1.N, Sx r.1.S, .lit (List.map eGValue r.1.L)], .c (Bo r.2)]) [] := by
  refine zfn Tryd.func67 rfl ?_
  unfold view_Attr at h
  refine za [0, 1, 4] ?_
  refine aw_join h (fun A j => ∀ u, j u = some r → A (mk [(4, .c (.ptr 0 0))] [(0, .blk 70 [I 0, I 0, Sx (⟨#[]⟩ : ByteArray), NilS])] 1)) (fun u h => ?_) (fun j1 Aj1 hj1 h => ?_)
  refine za [4, 5] ?_
  cases h
  exact aw_ret zr
  refine zx fun _ => ?_
  refine zk 1 ?_
  refine zl eGAttr p0 ?_
  refine zk 1 ?_
  refine ze [1, 4, 8, 9, 10] ?_
  refine aw_block ?_
  refine aw_loopJ (fun n s => ∃ v4, view_Attr_L0 p0 p1 j1 n v4 = some r ∧ s = mk [(1, .c (Sx p1)), (4, .c (.ptr 0 0)), (8, .c (.lit (List.map eGAttr p0))), (9, .c (I (List.length p0 : Int))), (10, .c (I v4))] [(0, .blk 70 [I 0, I 0, Sx (⟨#[]⟩ : ByteArray), NilS])] 1) n _ (zv [(0, 0)] [1, 4, 8, 9, 10] 1) ⟨_, h, rfl⟩ (fun s ⟨v4, h, _⟩ => nomatch h) ?_
  rintro n s ⟨v4, h, rfl⟩
  rw [view_Attr_L0] at h
  refine za [1, 4, 8, 9, 10, 11] ?_
  refine aw_seq ?_
  refine zi h (fun h => ?_) fun h => ?_
  refine aw_skip ?_
  refine aw_seq ?_
  refine aw_block ?_
  refine zx fun _ => ?_
  obtain ⟨e5, he, h⟩ := bindE h
  refine zd eGAttr he ?_
  clear he
  refine zk 3 ?_
  refine ze [1, 4, 7, 8, 9, 10] ?_
  refine za [1, 4, 7, 8, 9, 10, 17] ?_
  refine zi h (fun h => ?_) fun h => ?_
  refine zx fun _ => ?_
  refine zk 2 ?_
  obtain ⟨y6, he, h⟩ := bindE h
  refine zc fok86 (view_value_ok n _ y6 he) ?_
  clear he
  refine zk 2 ?_
  refine ze [4, 5] ?_
  cases h
  exact aw_ret zr
  refine aw_skip ?_
  refine aw_out ?_
  refine zb ?_
  exact via (zv [(0, 0)] [1, 4, 8, 9, 10] 1) (⟨_, h, rfl⟩)
  exact aw_views (zv [(0, 0)] [4] 1) (aw_exit (hj1 _ h))
def view_Text  (n : Nat) (p0 : (List GAttr)) (p1 : ByteArray) : Option ByteArray := (view_Attr n p0 p1).bind fun (y1 : (GValue × Bool)) => (if (y1.1.Kind == 3) = true then some y1.1.S else some (⟨#[]⟩ : ByteArray))
theorem view_Text_ok  (n : Nat) (p0 : (List GAttr)) (p1 : ByteArray) (r : ByteArray) (h : view_Text n p0 p1 = some r) : FnD E 53 0 [.c (.lit (List.map eGAttr p0)), .c (Sx p1)] [] (.c (Sx r)) [] := by
  refine zfn Tryd.func53 rfl ?_
  unfold view_Text at h
  refine za [0, 1] ?_
  refine aw_seq ?_
  refine zx fun _ => ?_
  refine zk 2 ?_
  obtain ⟨y1, he, h⟩ := bindE h
  refine zc fok67 (view_Attr_ok n _ _ y1 he) ?_
  clear he
  refine zk 6 ?_
  refine ze [5] ?_
  refine za [5, 15] ?_
  refine zi h (fun h => ?_) fun h => ?_
  refine za [4] ?_
  cases h
  exact aw_ret zr
  refine aw_skip ?_
  refine za [4] ?_
  cases h
  exact aw_ret zr
theorem back68 : BackOk E 68 eGNodeStates (fun x => .agg (eGNodeStates x)) := ⟨Tryd.f68, _, 2, _, _, _, _, _, _, _, _, _, Tryd.func68, rfl, rfl, by decide, rfl, fun D l y => by kernel_rfl, fun D l y i => by kernel_rfl, fun D l y i => by kernel_rfl, rfl, fun D l y i => by kernel_rfl, rfl, rfl, rfl, fun D l y i => by kernel_rfl, fun x => rfl, rfl, fun D l y i x => by kernel_rfl, rfl, rfl, rfl, rfl, rfl, fun D l y i b => by kernel_rfl, fun x => rfl⟩
def slices_Backward_api_NodeStates_api_NodeStates  (n : Nat) (p0 : (List GNodeStates)) : Option (List GNodeStates) := some p0
theorem slices_Backward_api_NodeStates_api_NodeStates_ok  (n : Nat) (p0 : (List GNodeStates)) (r : (List GNodeStates)) (h : slices_Backward_api_NodeStates_api_NodeStates n p0 = some r) : FnD E 54 0 [.c (.lit (List.map eGNodeStates p0))] [] (.c (.fn 68 [.imm [.lit (List.map eGNodeStates r)]])) [] := by
  refine zfn Tryd.func54 rfl ?_
  unfold slices_Backward_api_NodeStates_api_NodeStates at h
  refine za [1] ?_
  refine za [2] ?_
  refine aw_views (view_frzB 0 (T := 82) (l := [.lit (List.map eGNodeStates p0)]) (l2 := [.lit (List.map eGNodeStates p0)]) (L2 := [(2, .c (.fn 68 [.imm [.lit (List.map eGNodeStates p0)]]))]) (G2 := []) (by kernel_rfl) (by kernel_rfl) (by kernel_rfl) (by kernel_rfl)) ?_
  cases h
  exact aw_ret zr
def style_see_R1 (n : Nat) (v12 : List (Int × GNode)) (v13 : List (Int × ByteArray)) : List (Nat × GNodeStates) → List (Int × Int) → Option Gshape
  | [], v18 => some (Gshape.mk v12 v13 v18)
  | (i15, e16) :: t17, v18 => style_see_R1 n v12 v13 t17 (mput e16.ID e16.States v18)
def style_see_L0 (p0 : GTree) (j1 : List (Int × GNode) → List (Int × ByteArray) → Option Gshape) (p1 : (List GNodeStates)) : Nat → Int → List (Int × GNode) → List (Int × ByteArray) → Option Gshape
  | 0, _, _, _ => none
  | n + 1, v4, v5, v6 => (if (decide (v4 < (List.length p0.Nodes : Int))) = true then (idx p0.Nodes v4).bind fun (e7 : GNode) => (view_Text n e7.Attrs (⟨#[99, 108, 97, 115, 115]⟩ : ByteArray)).bind fun (y8 : ByteArray) => style_see_L0 p0 j1 p1 n (IntKind.wrap .i64 (v4 + 1)) (mput e7.ID e7 v5) (mput e7.ID y8 v6) else j1 v5 v6)
def style_see  (n : Nat) (p0 : GTree) (p1 : (List GNodeStates)) : Option Gshape := (withJ (fun (v12 : List (Int × GNode)) (v13 : List (Int × ByteArray)) => (slices_Backward_api_NodeStates_api_NodeStates n p1).bind fun (y14 : (List GNodeStates)) => (lenOk y14).bind fun (_ : Unit) => style_see_R1 n v12 v13 (remL y14 (List.length y14)) ([] : List (Int × Int))) (fun (j1 : List (Int × GNode) → List (Int × ByteArray) → Option Gshape) => style_see_L0 p0 j1 p1 n 0 ([] : List (Int × GNode)) ([] : List (Int × ByteArray))))
theorem style_see_ok  (n : Nat) (p0 : GTree) (p1 : (List GNodeStates)) (r : Gshape) (h : style_see n p0 p1 = some r) : FnD E 38 0 [.agg [I p0.Root, I p0.Next, .lit (List.map eGNode p0.Nodes)], .c (.lit (List.map eGNodeStates p1))] [] (.agg [.lmap true (List.map (eM (Value.int .i64) eGNode) r.nodes), .lmap false (List.map (eM (Value.int .i64) eS) r.class_), .lmap false (List.map (eM (Value.int .i64) eI64) r.states)]) [] := by
  refine zfn Tryd.func38 rfl ?_
  unfold style_see at h
  refine za [1, 2, 4] ?_
  refine za [1, 2, 4, 5] ?_
  refine aw_join h (fun A j => ∀ v12 v13, j v12 v13 = some r → A (mk [(1, .c (.lit (List.map eGNodeStates p1))), (4, .c (.ptr 0 0)), (5, .c (.ptr 1 0))] [(0, .blk 100 [.v (.map none), .v (.map none), .v (.map none)]), (1, .blk 100 [.mapr 2, .mapr 3, .mapr 4]), (2, .map true (List.map (eM (Value.int .i64) eGNode) v12)), (3, .map false (List.map (eM (Value.int .i64) eS) v13)), (4, .map false (List.map (eM (Value.int .i64) eI64) ([] : List (Int × Int))))] 5)) (fun v12 v13 h => ?_) (fun j1 Aj1 hj1 h => ?_)
  refine aw_seq ?_
  refine zx fun _ => ?_
  refine zk 1 ?_
  obtain ⟨y14, he, h⟩ := bindE h
  refine zc fok54 (slices_Backward_api_NodeStates_api_NodeStates_ok n _ y14 he) ?_
  clear he
  refine ze [4, 5, 35] ?_
  refine aw_block ?_
  refine aw_views (views_of rfl [(0, 0), (1, 1), (2, 2), (3, 3), (4, 4)] [4, 5, 35] (L2 := [(4, .c (.ptr 0 0)), (5, .c (.ptr 1 0)), (35, .c (.fn 68 [.imm [.lit (List.map eGNodeStates y14)]]))]) (G2 := [(0, .blk 100 [.v (.map none), .v (.map none), .v (.map none)]), (1, .blk 100 [.mapr 2, .mapr 3, .mapr 4]), (2, .map true (List.map (eM (Value.int .i64) eGNode) v12)), (3, .map false (List.map (eM (Value.int .i64) eS) v13)), (4, .map false (List.map (eM (Value.int .i64) eI64) ([] : List (Int × Int))))]) (lim2 := 5) (by kernel_rfl)) ?_
  obtain ⟨_, he, h⟩ := bindE h
  refine aw_back (l := y14) fok68 back68 (by kernel_rfl) (lenOk_le he) (by kernel_rfl) (fun t G1 lim1 => ∃ (v18 : List (Int × Int)), style_see_R1 n v12 v13 t v18 = some r ∧ G1 = [(0, .blk 100 [.v (.map none), .v (.map none), .v (.map none)]), (1, .blk 100 [.mapr 2, .mapr 3, .mapr 4]), (2, .map true (List.map (eM (Value.int .i64) eGNode) v12)), (3, .map false (List.map (eM (Value.int .i64) eS) v13)), (4, .map false (List.map (eM (Value.int .i64) eI64) v18))] ∧ lim1 = 5) ⟨_, h, rfl, rfl⟩ (fun lp x t17 G1 lim1 hJ => ?_) (fun G1 lim1 hJ => ?_)
  obtain ⟨i15, e16⟩ := x
  obtain ⟨v18, h, rfl, rfl⟩ := hJ
  rw [style_see_R1] at h
  show AW _ _ (mk [(4, .c (.ptr 0 0)), (5, .c (.ptr 1 0)), (35, .c (.fn 68 [.imm [.lit (List.map eGNodeStates y14)]])), (36, .c (I (i15 : Int))), (37, .agg [I e16.ID, I e16.States])] [(0, .blk 100 [.v (.map none), .v (.map none), .v (.map none)]), (1, .blk 100 [.mapr 2, .mapr 3, .mapr 4]), (2, .map true (List.map (eM (Value.int .i64) eGNode) v12)), (3, .map false (List.map (eM (Value.int .i64) eS) v13)), (4, .map false (List.map (eM (Value.int .i64) eI64) v18))] 5) _
  refine zb ?_
  refine aw_block ?_
  refine aw_out ?_
  refine zy fun _ => ?_
  refine zk 6 ?_
  refine rx_mapset (kf := (Value.int .i64)) (enc := eI64) (l := v18) (k := e16.ID) (v := e16.States) (n := 4) (ag := false) (kk := .int .i64) (by kernel_rfl) keyInt (by kernel_rfl) (by kernel_rfl) rfl rfl ?_
  refine x_last ?_
  exact via (zv (L2 := []) [(0, 0), (1, 1), (2, 2), (3, 3), (4, 4)] [] 5) (⟨_, _, ⟨_, h, rfl, rfl⟩, rfl, rfl⟩)
  obtain ⟨v18, h, rfl, rfl⟩ := hJ
  rw [style_see_R1] at h
  refine za [4] ?_
  refine aw_views (view_frzM 2 (ag := true) (l := List.map (eM (Value.int .i64) eGNode) v12) (L2 := [(4, .c (.ptr 0 0))]) (G2 := [(0, .blk 100 [.lmap true (List.map (eM (Value.int .i64) eGNode) v12), .mapr 3, .mapr 4]), (1, .blk 100 [.lmap true (List.map (eM (Value.int .i64) eGNode) v12), .mapr 3, .mapr 4]), (3, .map false (List.map (eM (Value.int .i64) eS) v13)), (4, .map false (List.map (eM (Value.int .i64) eI64) v18))]) (by kernel_rfl) (by kernel_rfl) (by kernel_rfl)) ?_
  refine aw_views (view_frzM 3 (ag := false) (l := List.map (eM (Value.int .i64) eS) v13) (L2 := [(4, .c (.ptr 0 0))]) (G2 := [(0, .blk 100 [.lmap true (List.map (eM (Value.int .i64) eGNode) v12), .lmap false (List.map (eM (Value.int .i64) eS) v13), .mapr 4]), (1, .blk 100 [.lmap true (List.map (eM (Value.int .i64) eGNode) v12), .lmap false (List.map (eM (Value.int .i64) eS) v13), .mapr 4]), (4, .map false (List.map (eM (Value.int .i64) eI64) v18))]) (by kernel_rfl) (by kernel_rfl) (by kernel_rfl)) ?_
  refine aw_views (view_frzM 4 (ag := false) (l := List.map (eM (Value.int .i64) eI64) v18) (L2 := [(4, .c (.ptr 0 0))]) (G2 := [(0, .blk 100 [.lmap true (List.map (eM (Value.int .i64) eGNode) v12), .lmap false (List.map (eM (Value.int .i64) eS) v13), .lmap false (List.map (eM (Value.int .i64) eI64) v18)]), (1, .blk 100 [.lmap true (List.map (eM (Value.int .i64) eGNode) v12), .lmap false (List.map (eM (Value.int .i64) eS) v13), .lmap false (List.map (eM (Value.int .i64) eI64) v18)])]) (by kernel_rfl) (by kernel_rfl) (by kernel_rfl)) ?_
  cases h
  exact aw_ret zr
  refine zx fun _ => ?_
  refine zk 2 ?_
  refine zl eGNode p0.Nodes ?_
  refine zk 1 ?_
  refine ze [1, 4, 5, 15, 16, 17] ?_
  refine aw_block ?_
  refine aw_loopJ (fun n s => ∃ v4 v5 v6, style_see_L0 p0 j1 p1 n v4 v5 v6 = some r ∧ s = mk [(1, .c (.lit (List.map eGNodeStates p1))), (4, .c (.ptr 0 0)), (5, .c (.ptr 1 0)), (15, .c (.lit (List.map eGNode p0.Nodes))), (16, .c (I (List.length p0.Nodes : Int))), (17, .c (I v4))] [(0, .blk 100 [.v (.map none), .v (.map none), .v (.map none)]), (1, .blk 100 [.mapr 2, .mapr 3, .mapr 4]), (2, .map true (List.map (eM (Value.int .i64) eGNode) v5)), (3, .map false (List.map (eM (Value.int .i64) eS) v6)), (4, .map false (List.map (eM (Value.int .i64) eI64) ([] : List (Int × Int))))] 5) n _ (zv [(1, 0), (6, 1), (2, 2), (3, 3), (4, 4)] [1, 4, 5, 15, 16, 17] 5) ⟨_, _, _, h, rfl⟩ (fun s ⟨v4, v5, v6, h, _⟩ => nomatch h) ?_
  rintro n s ⟨v4, v5, v6, h, rfl⟩
  rw [style_see_L0] at h
  refine za [1, 4, 5, 15, 16, 17, 18] ?_
  refine aw_seq ?_
  refine zi h (fun h => ?_) fun h => ?_
  refine aw_skip ?_
  refine aw_seq ?_
  refine aw_block ?_
  refine zx fun _ => ?_
  obtain ⟨e7, he, h⟩ := bindE h
  refine zd eGNode he ?_
  clear he
  refine zk 3 ?_
  refine ze [1, 4, 5, 7, 15, 16, 17] ?_
  refine zdy [[], [0], [], [2], [], [4], [], [6], [], [], [9], [10, 9], [1, 3, 8, 11, 0, 2, 10, 9], [5, 7, 11, 12, 0, 1, 2, 3, 4, 6, 8, 9, 10]] fun _ => ?_
  refine zk 11 ?_
  obtain ⟨y8, he, h⟩ := bindE h
  refine zc fok53 (view_Text_ok n _ _ y8 he) ?_
  clear he
  refine rx_mapset (kf := (Value.int .i64)) (enc := eGNode) (l := v5) (k := e7.ID) (v := e7) (n := 2) (ag := true) (kk := .int .i64) (by kernel_rfl) keyInt (by kernel_rfl) (by kernel_rfl) rfl rfl ?_
  refine rx_mapset (kf := (Value.int .i64)) (enc := eS) (l := v6) (k := e7.ID) (v := y8) (n := 3) (ag := false) (kk := .int .i64) (by kernel_rfl) keyInt (by kernel_rfl) (by kernel_rfl) rfl rfl ?_
  refine x_last ?_
  refine aw_out ?_
  refine zb ?_
  exact via (zv [(0, 0), (1, 1), (2, 2), (3, 3), (4, 4)] [1, 4, 5, 15, 16, 17] 5) (⟨_, _, _, h, rfl⟩)
  exact aw_views (zv [(0, 0), (1, 1), (2, 2), (3, 3), (4, 4)] [1, 4, 5] 5) (aw_exit (hj1 _ _ h))
def style_weight_L2 (p0 : GRule) (j18 : Int → Option A2_Int) (v17 : Int) : Nat → Int → Int → Option A2_Int
  | 0, _, _ => none
  | n + 1, v21, v22 => (if (decide (v21 < 2)) = true then (withJ (fun (v25 : Int) => style_weight_L2 p0 j18 v17 n (IntKind.wrap .i64 (v21 + 1)) v25) (fun (j23 : Int → Option A2_Int) => (idx (A2_Int.toL (A2_Int.mk p0.Kind p0.UnderKind)) v21).bind fun (e24 : Int) => (if (e24 != 0) = true then j23 (IntKind.wrap .i64 (v22 + 1)) else j23 v22))) else j18 v22)
def style_weight_L1 (j12 : Int → Option A2_Int) (p0 : GRule) : Nat → Int → Int → Option A2_Int
  | 0, _, _ => none
  | n + 1, v13, v14 => (if (v13 != 0) = true then style_weight_L1 j12 p0 n (bAnd .i64 v13 (IntKind.wrap .i64 (v13 - 1))) (IntKind.wrap .i64 (v14 + 1)) else j12 v14)
def style_weight_L0 (p0 : GRule) (j1 : Int → Option A2_Int) : Nat → Int → Int → Option A2_Int
  | 0, _, _ => none
  | n + 1, v4, v5 => (if (decide (v4 < 2)) = true then (withJ (fun (v8 : Int) => style_weight_L0 p0 j1 n (IntKind.wrap .i64 (v4 + 1)) v8) (fun (j6 : Int → Option A2_Int) => (idx (A2_ByteArray.toL (A2_ByteArray.mk p0.Class p0.UnderClass)) v4).bind fun (e7 : ByteArray) => (if (!(sEq e7 (⟨#[]⟩ : ByteArray))) = true then j6 (IntKind.wrap .i64 (v5 + 1)) else j6 v5))) else j1 v5)
def style_weight  (n : Nat) (p0 : GRule) : Option A2_Int := (withJ (fun (v11 : Int) => (withJ (fun (v17 : Int) => (withJ (fun (v28 : Int) => some (A2_Int.mk v17 v28)) (fun (j18 : Int → Option A2_Int) => style_weight_L2 p0 j18 v17 n 0 0))) (fun (j12 : Int → Option A2_Int) => style_weight_L1 j12 p0 n p0.States v11))) (fun (j1 : Int → Option A2_Int) => style_weight_L0 p0 j1 n 0 0))
theorem style_weight_ok  (n : Nat) (p0 : GRule) (r : A2_Int) (h : style_weight n p0 = some r) : FnD E 41 0 [.agg [I p0.Kind, Sx p0.Class, I p0.States, I p0.UnderKind, Sx p0.UnderClass, .lit (List.map eGDecl p0.Decls)]] [] (.agg [I r.x0, I r.x1]) [] := by
  refine zfn Tryd.func41 rfl ?_
  unfold style_weight at h
  refine za [1, 2] ?_
  refine za [1, 2, 3] ?_
  refine aw_join h (fun A j => ∀ v11, j v11 = some r → A (mk [(1, .c (.ptr 0 0)), (2, .c (.ptr 1 0)), (3, .c (.ptr 2 0))] [(0, .blk 33 [I p0.Kind, Sx p0.Class, I p0.States, I p0.UnderKind, Sx p0.UnderClass, .lit (List.map eGDecl p0.Decls)]), (1, .blk 79 [I 0, I 0]), (2, .blk 79 [I v11, I 0])] 3)) (fun v11 h => ?_) (fun j1 Aj1 hj1 h => ?_)
  refine aw_join h (fun A j => ∀ v17, j v17 = some r → A (mk [(1, .c (.ptr 0 0)), (2, .c (.ptr 1 0)), (3, .c (.ptr 2 0))] [(0, .blk 33 [I p0.Kind, Sx p0.Class, I p0.States, I p0.UnderKind, Sx p0.UnderClass, .lit (List.map eGDecl p0.Decls)]), (1, .blk 79 [I 0, I 0]), (2, .blk 79 [I v17, I 0])] 3)) (fun v17 h => ?_) (fun j12 Aj12 hj12 h => ?_)
  refine aw_join h (fun A j => ∀ v28, j v28 = some r → A (mk [(2, .c (.ptr 0 0)), (3, .c (.ptr 1 0))] [(0, .blk 79 [I 0, I 0]), (1, .blk 79 [I v17, I v28])] 2)) (fun v28 h => ?_) (fun j18 Aj18 hj18 h => ?_)
  refine za [2] ?_
  cases h
  exact aw_ret zr
  refine za [2, 3, 40, 41] ?_
  refine aw_block ?_
  refine aw_loopJ (fun n s => ∃ v21 v22, style_weight_L2 p0 j18 v17 n v21 v22 = some r ∧ s = mk [(2, .c (.ptr 0 0)), (3, .c (.ptr 1 0)), (40, .agg [I p0.Kind, I p0.UnderKind]), (41, .c (I v21))] [(0, .blk 79 [I 0, I 0]), (1, .blk 79 [I v17, I v22])] 2) n _ (zv [(1, 0), (2, 1)] [2, 3, 40, 41] 2) ⟨_, _, h, rfl⟩ (fun s ⟨v21, v22, h, _⟩ => nomatch h) ?_
  rintro n s ⟨v21, v22, h, rfl⟩
  rw [style_weight_L2] at h
  refine za [2, 3, 40, 41, 42] ?_
  refine aw_seq ?_
  refine zi h (fun h => ?_) fun h => ?_
  refine aw_skip ?_
  refine aw_join h (fun A j => ∀ v25, j v25 = some r → A (mk [(2, .c (.ptr 0 0)), (3, .c (.ptr 1 0)), (40, .agg [I p0.Kind, I p0.UnderKind]), (41, .c (I v21))] [(0, .blk 79 [I 0, I 0]), (1, .blk 79 [I v17, I v25])] 2)) (fun v25 h => ?_) (fun j23 Aj23 hj23 h => ?_)
  refine aw_out ?_
  refine zb ?_
  exact via (zv [(0, 0), (1, 1)] [2, 3, 40, 41] 2) (⟨_, _, h, rfl⟩)
  refine aw_block ?_
  refine zx fun _ => ?_
  obtain ⟨e24, he, h⟩ := bindE h
  refine rx_rd (v := .c (I e24)) (foot := []) (rd_idxG (enc := eI64) (xs := (A2_Int.toL (A2_Int.mk p0.Kind p0.UnderKind))) (ix := v21) (e := e24) (len := 2) (j := ⟨.int .i64, 1, 8, [.int .i64 0]⟩) (v := .c (I e24)) he (by kernel_rfl) (by kernel_rfl) (fun x => by kernel_rfl) (by decide) (by kernel_rfl)) (by kernel_rfl) rfl rfl ?_
  clear he
  refine zk 1 ?_
  refine ze [2, 3, 8, 40, 41] ?_
  refine za [2, 3, 40, 41, 45] ?_
  refine zi h (fun h => ?_) fun h => ?_
  refine aw_out ?_
  refine zb ?_
  exact via (zv [(0, 0), (1, 1)] [2, 3, 40, 41] 2) (hj23 _ h)
  exact aw_views (zv [(0, 0), (1, 1)] [2, 3, 40, 41] 2) (aw_skip (hj23 _ h))
  exact aw_views (zv [(0, 0), (1, 1)] [2, 3] 2) (aw_exit (hj18 _ h))
  refine za [1, 2, 3, 6] ?_
  refine aw_block ?_
  refine aw_loopJ (fun n s => ∃ v13 v14, style_weight_L1 j12 p0 n v13 v14 = some r ∧ s = mk [(1, .c (.ptr 0 0)), (2, .c (.ptr 1 0)), (3, .c (.ptr 2 0)), (6, .c (I v13))] [(0, .blk 33 [I p0.Kind, Sx p0.Class, I p0.States, I p0.UnderKind, Sx p0.UnderClass, .lit (List.map eGDecl p0.Decls)]), (1, .blk 79 [I 0, I 0]), (2, .blk 79 [I v14, I 0])] 3) n _ (zv [(0, 0), (1, 1), (2, 2)] [1, 2, 3, 6] 3) ⟨_, _, h, rfl⟩ (fun s ⟨v13, v14, h, _⟩ => nomatch h) ?_
  rintro n s ⟨v13, v14, h, rfl⟩
  rw [style_weight_L1] at h
  refine aw_seq ?_
  refine za [1, 2, 3, 6, 27] ?_
  refine zi h (fun h => ?_) fun h => ?_
  refine aw_skip ?_
  refine aw_seq ?_
  refine aw_block ?_
  refine zb ?_
  refine aw_out ?_
  refine zb ?_
  exact via (zv [(0, 0), (1, 1), (2, 2)] [1, 2, 3, 6] 3) (⟨_, _, h, rfl⟩)
  exact aw_views (zv [(0, 0), (1, 1), (2, 2)] [1, 2, 3] 3) (aw_exit (hj12 _ h))
  refine za [1, 2, 3, 13, 14] ?_
  refine aw_block ?_
  refine aw_loopJ (fun n s => ∃ v4 v5, style_weight_L0 p0 j1 n v4 v5 = some r ∧ s = mk [(1, .c (.ptr 0 0)), (2, .c (.ptr 1 0)), (3, .c (.ptr 2 0)), (13, .agg [Sx p0.Class, Sx p0.UnderClass]), (14, .c (I v4))] [(0, .blk 33 [I p0.Kind, Sx p0.Class, I p0.States, I p0.UnderKind, Sx p0.UnderClass, .lit (List.map eGDecl p0.Decls)]), (1, .blk 79 [I 0, I 0]), (2, .blk 79 [I v5, I 0])] 3) n _ (zv [(0, 0), (1, 1), (2, 2)] [1, 2, 3, 13, 14] 3) ⟨_, _, h, rfl⟩ (fun s ⟨v4, v5, h, _⟩ => nomatch h) ?_
  rintro n s ⟨v4, v5, h, rfl⟩
  rw [style_weight_L0] at h
  refine za [1, 2, 3, 13, 14, 15] ?_
  refine aw_seq ?_
  refine zi h (fun h => ?_) fun h => ?_
  refine aw_skip ?_
  refine aw_join h (fun A j => ∀ v8, j v8 = some r → A (mk [(1, .c (.ptr 0 0)), (2, .c (.ptr 1 0)), (3, .c (.ptr 2 0)), (13, .agg [Sx p0.Class, Sx p0.UnderClass]), (14, .c (I v4))] [(0, .blk 33 [I p0.Kind, Sx p0.Class, I p0.States, I p0.UnderKind, Sx p0.UnderClass, .lit (List.map eGDecl p0.Decls)]), (1, .blk 79 [I 0, I 0]), (2, .blk 79 [I v8, I 0])] 3)) (fun v8 h => ?_) (fun j6 Aj6 hj6 h => ?_)
  refine aw_out ?_
  refine zb ?_
  exact via (zv [(0, 0), (1, 1), (2, 2)] [1, 2, 3, 13, 14] 3) (⟨_, _, h, rfl⟩)
  refine aw_block ?_
  refine zx fun _ => ?_
  obtain ⟨e7, he, h⟩ := bindE h
  refine rx_rd (v := .c (Sx e7)) (foot := []) (rd_idxG (enc := eS) (xs := (A2_ByteArray.toL (A2_ByteArray.mk p0.Class p0.UnderClass))) (ix := v4) (e := e7) (len := 2) (j := ⟨.str, 1, 16, [.string ⟨#[]⟩]⟩) (v := .c (Sx e7)) he (by kernel_rfl) (by kernel_rfl) (fun x => by kernel_rfl) (by decide) (by kernel_rfl)) (by kernel_rfl) rfl rfl ?_
  clear he
  refine zk 1 ?_
  refine ze [1, 2, 3, 5, 13, 14] ?_
  refine za [1, 2, 3, 13, 14, 18] ?_
  refine zi h (fun h => ?_) fun h => ?_
  refine aw_out ?_
  refine zb ?_
  exact via (zv [(0, 0), (1, 1), (2, 2)] [1, 2, 3, 13, 14] 3) (hj6 _ h)
  exact aw_views (zv [(0, 0), (1, 1), (2, 2)] [1, 2, 3, 13, 14] 3) (aw_skip (hj6 _ h))
  exact aw_views (zv [(0, 0), (1, 1), (2, 2)] [1, 2, 3] 3) (aw_exit (hj1 _ h))
def cmp_isNaN_int  (n : Nat) (p0 : Int) : Option Bool := some (p0 != p0)
theorem cmp_isNaN_int_ok  (n : Nat) (p0 : Int) (r : Bool) (h : cmp_isNaN_int n p0 = some r) : FnD E 71 0 [.c (I p0)] [] (.c (Bo r)) [] := by
  refine zfn Tryd.func71 rfl ?_
  unfold cmp_isNaN_int at h
  refine za [0] ?_
  refine za [2] ?_
  cases h
  exact aw_ret zr
def cmp_Compare_int  (n : Nat) (p0 : Int) (p1 : Int) : Option Int := (cmp_isNaN_int n p0).bind fun (y1 : Bool) => (cmp_isNaN_int n p1).bind fun (y2 : Bool) => (if y1 = true then (if y2 = true then some 0 else some (-1 : Int)) else (if y2 = true then some 1 else (if (decide (p0 < p1)) = true then some (-1 : Int) else (if (decide (p0 > p1)) = true then some 1 else some 0))))
theorem cmp_Compare_int_ok  (n : Nat) (p0 : Int) (p1 : Int) (r : Int) (h : cmp_Compare_int n p0 p1 = some r) : FnD E 56 0 [.c (I p0), .c (I p1)] [] (.c (I r)) [] := by
  refine zfn Tryd.func56 rfl ?_
  unfold cmp_Compare_int at h
  refine za [0, 1] ?_
  refine zx fun _ => ?_
  refine zk 1 ?_
  obtain ⟨y1, he, h⟩ := bindE h
  refine zc fok71 (cmp_isNaN_int_ok n _ y1 he) ?_
  clear he
  refine zk 1 ?_
  refine ze [0, 1, 5] ?_
  refine zx fun _ => ?_
  refine zk 1 ?_
  obtain ⟨y2, he, h⟩ := bindE h
  refine zc fok71 (cmp_isNaN_int_ok n _ y2 he) ?_
  clear he
  refine zk 1 ?_
  refine ze [0, 1, 5, 6] ?_
  refine aw_seq ?_
  refine za [0, 1, 6, 11] ?_
  refine zi h (fun h => ?_) fun h => ?_
  refine aw_seq ?_
  refine za [12] ?_
  refine zi h (fun h => ?_) fun h => ?_
  refine za [4] ?_
  cases h
  exact aw_ret zr
  refine aw_skip ?_
  refine za [4] ?_
  cases h
  exact aw_ret zr
  refine aw_skip ?_
  refine aw_seq ?_
  refine za [0, 1, 13] ?_
  refine zi h (fun h => ?_) fun h => ?_
  refine za [4] ?_
  cases h
  exact aw_ret zr
  refine aw_skip ?_
  refine aw_seq ?_
  refine za [0, 1, 16] ?_
  refine zi h (fun h => ?_) fun h => ?_
  refine za [4] ?_
  cases h
  exact aw_ret zr
  refine aw_skip ?_
  refine aw_seq ?_
  refine za [19] ?_
  refine zi h (fun h => ?_) fun h => ?_
  refine za [4] ?_
  cases h
  exact aw_ret zr
  refine aw_skip ?_
  refine za [4] ?_
  cases h
  exact aw_ret zr
def slices_Compare_int_int_L0 (p0 : (List Int)) (p1 : (List Int)) (j1 : Unit → Option Int) : Nat → Int → Option Int
  | 0, _ => none
  | n + 1, v5 => (if (decide (v5 < (List.length p0 : Int))) = true then (idx p0 v5).bind fun (e6 : Int) => (if (decide (v5 ≥ (List.length p1 : Int))) = true then some 1 else (idx p1 v5).bind fun (e7 : Int) => (cmp_Compare_int n e6 e7).bind fun (y8 : Int) => (if (y8 != 0) = true then some y8 else slices_Compare_int_int_L0 p0 p1 j1 n (IntKind.wrap .i64 (v5 + 1)))) else j1 ())
def slices_Compare_int_int  (n : Nat) (p0 : (List Int)) (p1 : (List Int)) : Option Int := (withJ (fun (_ : Unit) => (if (decide ((List.length p0 : Int) < (List.length p1 : Int))) = true then some (-1 : Int) else some 0)) (fun (j1 : Unit → Option Int) => slices_Compare_int_int_L0 p0 p1 j1 n 0))
theorem slices_Compare_int_int_ok  (n : Nat) (p0 : (List Int)) (p1 : (List Int)) (r : Int) (h : slices_Compare_int_int n p0 p1 = some r) : FnD E 42 0 [.c (.lit (List.map eI64 p0)), .c (.lit (List.map eI64 p1))] [] (.c (I r)) [] := by
  refine zfn Tryd.func42 rfl ?_
  unfold slices_Compare_int_int at h
  refine za [0, 1] ?_
  refine aw_join h (fun A j => ∀ u, j u = some r → A (mk [(0, .c (.lit (List.map eI64 p0))), (1, .c (.lit (List.map eI64 p1)))] [] 0)) (fun u h => ?_) (fun j1 Aj1 hj1 h => ?_)
  refine aw_seq ?_
  refine zx fun _ => ?_
  refine zk 1 ?_
  refine zl eI64 p0 ?_
  refine zk 1 ?_
  refine zl eI64 p1 ?_
  refine zk 1 ?_
  refine ze [35] ?_
  refine zi h (fun h => ?_) fun h => ?_
  refine za [4] ?_
  cases h
  exact aw_ret zr
  refine aw_skip ?_
  refine za [4] ?_
  cases h
  exact aw_ret zr
  refine zx fun _ => ?_
  refine zk 1 ?_
  refine zl eI64 p0 ?_
  refine zk 1 ?_
  refine ze [0, 1, 9, 10, 11] ?_
  refine aw_block ?_
  refine aw_loopJ (fun n s => ∃ v5, slices_Compare_int_int_L0 p0 p1 j1 n v5 = some r ∧ s = mk [(0, .c (.lit (List.map eI64 p0))), (1, .c (.lit (List.map eI64 p1))), (9, .c (.lit (List.map eI64 p0))), (10, .c (I (List.length p0 : Int))), (11, .c (I v5))] [] 0) n _ (zv [] [0, 1, 9, 10, 11] 0) ⟨_, h, rfl⟩ (fun s ⟨v5, h, _⟩ => nomatch h) ?_
  rintro n s ⟨v5, h, rfl⟩
  rw [slices_Compare_int_int_L0] at h
  refine za [0, 1, 9, 10, 11, 12] ?_
  refine aw_seq ?_
  refine zi h (fun h => ?_) fun h => ?_
  refine aw_skip ?_
  refine aw_seq ?_
  refine aw_block ?_
  refine zx fun _ => ?_
  refine zk 1 ?_
  obtain ⟨e6, he, h⟩ := bindE h
  refine zd eI64 he ?_
  clear he
  refine zk 3 ?_
  refine ze [0, 1, 5, 6, 9, 10, 11] ?_
  refine aw_seq ?_
  refine zx fun _ => ?_
  refine zk 2 ?_
  refine zl eI64 p1 ?_
  refine zk 1 ?_
  refine ze [0, 1, 5, 6, 9, 10, 11, 19] ?_
  refine zi h (fun h => ?_) fun h => ?_
  refine za [4] ?_
  cases h
  exact aw_ret zr
  refine aw_skip ?_
  refine zx fun _ => ?_
  refine zk 2 ?_
  obtain ⟨e7, he, h⟩ := bindE h
  refine zd eI64 he ?_
  clear he
  refine zk 2 ?_
  refine zee [0, 1, 6, 7, 9, 10, 11] (L2 := [(0, .c (.lit (List.map eI64 p0))), (1, .c (.lit (List.map eI64 p1))), (9, .c (.lit (List.map eI64 p0))), (10, .c (I (List.length p0 : Int))), (11, .c (I v5)), (6, .c (I e6)), (7, .c (I e7))]) (G2 := []) 15 ?_
  refine zx fun _ => ?_
  refine zk 2 ?_
  obtain ⟨y8, he, h⟩ := bindE h
  refine zc fok56 (cmp_Compare_int_ok n _ _ y8 he) ?_
  clear he
  refine zk 1 ?_
  refine ze [0, 1, 8, 9, 10, 11] ?_
  refine za [0, 1, 8, 9, 10, 11, 28] ?_
  refine zi h (fun h => ?_) fun h => ?_
  refine za [4] ?_
  cases h
  exact aw_ret zr
  refine aw_skip ?_
  refine aw_out ?_
  refine zb ?_
  exact via (zv [] [0, 1, 9, 10, 11] 0) (⟨_, h, rfl⟩)
  exact aw_views (zv [] [0, 1] 0) (aw_exit (hj1 _ h))
def style_Cascade_1  (n : Nat) (p0 : Int) (p1 : Int) (p2 : GSheet) : Option Int := (idx p2.Rules p0).bind fun (e1 : GRule) => (style_weight n e1).bind fun (y2 : A2_Int) => (idx p2.Rules p1).bind fun (e3 : GRule) => (style_weight n e3).bind fun (y4 : A2_Int) => (slices_Compare_int_int n [y2.x0, y2.x1] [y4.x0, y4.x1]).bind fun (y5 : Int) => some y5
theorem style_Cascade_1_ok  (n : Nat) (p0 : Int) (p1 : Int) (p2 : GSheet) (r : Int) (h : style_Cascade_1 n p0 p1 p2 = some r) : FnD E 40 0 [.c (I p0), .c (I p1), .c (.imm [.lit (List.map eGRule p2.Rules)])] [] (.c (I r)) [] := by
  refine zfn Tryd.func40 rfl ?_
  unfold style_Cascade_1 at h
  refine za [0, 1, 2] ?_
  refine zdx [[], [0], [], [1, 2, 0], [3, 1, 2, 0], [4, 3, 1, 2, 0], [], [6], [], [7, 8, 6], [9, 7, 8, 6], [10, 5, 9, 7, 8, 6, 4, 3, 1, 2, 0], [], [], [12, 5, 11, 0, 1, 2, 3, 4, 10, 13, 9, 7, 8, 6], [13, 11, 14, 0, 1, 2, 3, 4, 5, 6, 7, 8, 9, 10, 12]] fun _ => ?_
  refine zk 3 ?_
  obtain ⟨e1, he, h⟩ := bindE h
  refine zd eGRule he ?_
  clear he
  refine zk 1 ?_
  obtain ⟨y2, he, h⟩ := bindE h
  refine zc fok41 (style_weight_ok n _ y2 he) ?_
  clear he
  refine zk 3 ?_
  obtain ⟨e3, he, h⟩ := bindE h
  refine zd eGRule he ?_
  clear he
  refine zk 1 ?_
  obtain ⟨y4, he, h⟩ := bindE h
  refine zc fok41 (style_weight_ok n _ y4 he) ?_
  clear he
  refine zk 4 ?_
  refine zee [6, 7] (L2 := [(6, .c (.ptr 13 0)), (7, .c (.ptr 14 0))]) (G2 := [(13, .blk 79 [I y2.x0, I y2.x1]), (14, .blk 79 [I y4.x0, I y4.x1])]) 17 ?_
  refine aw_views (view_frzB 13 (T := 79) (l := [I y2.x0, I y2.x1]) (l2 := [I y2.x0, I y2.x1]) (L2 := [(6, .c (.imm [I y2.x0, I y2.x1])), (7, .c (.ptr 14 0))]) (G2 := [(14, .blk 79 [I y4.x0, I y4.x1])]) (by kernel_rfl) (by kernel_rfl) (by kernel_rfl) (by kernel_rfl)) ?_
  refine aw_views (view_frzB 14 (T := 79) (l := [I y4.x0, I y4.x1]) (l2 := [I y4.x0, I y4.x1]) (L2 := [(6, .c (.imm [I y2.x0, I y2.x1])), (7, .c (.imm [I y4.x0, I y4.x1]))]) (G2 := []) (by kernel_rfl) (by kernel_rfl) (by kernel_rfl) (by kernel_rfl)) ?_
  refine zdx [[], [], [0, 1], [2, 0, 1]] fun _ => ?_
  refine zw (v := .c (.lit (List.map eI64 [y2.x0, y2.x1]))) [] (rdW_sliceI (l := [I y2.x0, I y2.x1]) (len := 2) (sz := 1) (r := List.map eI64 [y2.x0, y2.x1]) (by kernel_rfl) (by kernel_rfl) (by kernel_rfl)) ?_
  refine zw (v := .c (.lit (List.map eI64 [y4.x0, y4.x1]))) [] (rdW_sliceI (l := [I y4.x0, I y4.x1]) (len := 2) (sz := 1) (r := List.map eI64 [y4.x0, y4.x1]) (by kernel_rfl) (by kernel_rfl) (by kernel_rfl)) ?_
  obtain ⟨y5, he, h⟩ := bindE h
  refine zc fok42 (slices_Compare_int_int_ok n _ _ y5 he) ?_
  clear he
  refine zk 1 ?_
  refine ze [5] ?_
  cases h
  exact aw_ret zr
def slices_insertionSortCmpFunc_int_L1 (p1 : Int) (p3 : GSheet) (j35 : List Int → Option (List Int)) (p2 : Int) (v33 : Int) : Nat → Int → List Int → Option (List Int)
  | 0, _, _ => none
  | n + 1, v49, v50 => (gd [(decide (v49 > p1))] (inb v49 (List.length v50))).bind fun (k51 : Nat) => (gd [(decide (v49 > p1))] (v50[k51]?)).bind fun (e52 : Int) => (gd [(decide (v49 > p1))] (inb (IntKind.wrap .i64 (v49 - 1)) (List.length v50))).bind fun (k53 : Nat) => (gd [(decide (v49 > p1))] (v50[k53]?)).bind fun (e54 : Int) => (gd [(decide (v49 > p1))] (style_Cascade_1 n e52 e54 p3)).bind fun (y55 : Int) => (if ((decide (v49 > p1)) && (decide (y55 < 0))) = true then (inb (IntKind.wrap .i64 (v49 - 1)) (List.length v50)).bind fun (k56 : Nat) => (v50[k56]?).bind fun (e57 : Int) => (inb v49 (List.length v50)).bind fun (k58 : Nat) => (v50[k58]?).bind fun (e59 : Int) => (inb v49 (List.length v50)).bind fun (k60 : Nat) => (v50[k60]?).bind fun (e61 : Int) => (inb (IntKind.wrap .i64 (v49 - 1)) (List.length (List.set v50 k60 e57))).bind fun (k62 : Nat) => ((List.set v50 k60 e57)[k62]?).bind fun (e63 : Int) => slices_insertionSortCmpFunc_int_L1 p1 p3 j35 p2 v33 n (IntKind.wrap .i64 (v49 - 1)) (List.set (List.set v50 k60 e57) k62 e59) else j35 v50)
def slices_insertionSortCmpFunc_int_L0 (p2 : Int) (p1 : Int) (p3 : GSheet) : Nat → Int → List Int → Option (List Int)
  | 0, _, _ => none
  | n + 1, v33, v34 => (if (decide (v33 < p2)) = true then (withJ (fun (v66 : List Int) => slices_insertionSortCmpFunc_int_L0 p2 p1 p3 n (IntKind.wrap .i64 (v33 + 1)) v66) (fun (j35 : List Int → Option (List Int)) => slices_insertionSortCmpFunc_int_L1 p1 p3 j35 p2 v33 n v33 v34)) else some v34)
def slices_insertionSortCmpFunc_int  (n : Nat) (p0 : (List Int)) (p1 : Int) (p2 : Int) (p3 : GSheet) : Option (List Int) := slices_insertionSortCmpFunc_int_L0 p2 p1 p3 n (IntKind.wrap .i64 (p1 + 1)) p0
theorem slices_insertionSortCmpFunc_int_ok  (n : Nat) (p0 : (List Int)) (p1 : Int) (p2 : Int) (p3 : GSheet) (r : (List Int)) (h : slices_insertionSortCmpFunc_int n p0 p1 p2 p3 = some r) : FnD E 69 1 [.c (.row 0), .c (I p1), .c (I p2), .c (.fn 40 [.imm [.lit (List.map eGRule p3.Rules)]])] [(0, .vec 3 1 (List.map eI64 p0))] (.tup []) [(0, .vec 3 1 (List.map eI64 r))] := by
  refine zfn Tryd.func69 rfl ?_
  unfold slices_insertionSortCmpFunc_int at h
  refine za [0, 1, 2, 3, 8] ?_
  refine aw_block ?_
  refine aw_loopJ (fun n s => ∃ v33 v34, slices_insertionSortCmpFunc_int_L0 p2 p1 p3 n v33 v34 = some r ∧ s = mk [(0, .c (.row 0)), (1, .c (I p1)), (2, .c (I p2)), (3, .c (.fn 40 [.imm [.lit (List.map eGRule p3.Rules)]])), (8, .c (I v33))] [(0, .vec 3 1 (List.map eI64 v34))] 1) n _ (zv [(0, 0)] [0, 1, 2, 3, 8] 1) ⟨_, _, h, rfl⟩ (fun s ⟨v33, v34, h, _⟩ => nomatch h) ?_
  rintro n s ⟨v33, v34, h, rfl⟩
  rw [slices_insertionSortCmpFunc_int_L0] at h
  refine aw_seq ?_
  refine za [0, 1, 2, 3, 8, 14] ?_
  refine zi h (fun h => ?_) fun h => ?_
  refine aw_skip ?_
  refine aw_join h (fun A j => ∀ v66, j v66 = some r → A (mk [(0, .c (.row 0)), (1, .c (I p1)), (2, .c (I p2)), (3, .c (.fn 40 [.imm [.lit (List.map eGRule p3.Rules)]])), (8, .c (I v33))] [(0, .vec 3 1 (List.map eI64 v66))] 1)) (fun v66 h => ?_) (fun j35 Aj35 hj35 h => ?_)
  refine aw_out ?_
  refine zb ?_
  exact via (zv [(0, 0)] [0, 1, 2, 3, 8] 1) (⟨_, _, h, rfl⟩)
  refine aw_block ?_
  refine za [0, 1, 2, 3, 8, 9] ?_
  refine aw_block ?_
  refine aw_loopJ (fun n s => ∃ v49 v50, slices_insertionSortCmpFunc_int_L1 p1 p3 j35 p2 v33 n v49 v50 = some r ∧ s = mk [(0, .c (.row 0)), (1, .c (I p1)), (2, .c (I p2)), (3, .c (.fn 40 [.imm [.lit (List.map eGRule p3.Rules)]])), (8, .c (I v33)), (9, .c (I v49))] [(0, .vec 3 1 (List.map eI64 v50))] 1) n _ (zv [(0, 0)] [0, 1, 2, 3, 8, 9] 1) ⟨_, _, h, rfl⟩ (fun s ⟨v49, v50, h, _⟩ => nomatch h) ?_
  rintro n s ⟨v49, v50, h, rfl⟩
  rw [slices_insertionSortCmpFunc_int_L1] at h
  refine aw_seq ?_
  refine zdx [[], [], [0, 1], [2, 0, 1], [3, 2, 0, 1], [3, 2, 0, 1], [3, 2, 0, 1], [5, 6, 3, 2, 0, 1], [7, 3, 5, 6, 2, 0, 1], [3, 2, 0, 1], [3, 2, 0, 1], [10, 3, 2, 0, 1], [9, 11, 3, 2, 0, 1, 10], [12, 3, 9, 11, 2, 0, 1, 10], [4, 8, 13, 3, 2, 0, 1, 7, 5, 6, 12, 9, 11, 10], [14, 3, 4, 8, 13, 2, 0, 1, 7, 5, 6, 12, 9, 11, 10], [3, 15, 2, 0, 1, 14, 4, 8, 13, 7, 5, 6, 12, 9, 11, 10]] fun _ => ?_
  refine zk 4 ?_
  refine zE (.c (.fn 40 [.imm [.lit (List.map eGRule p3.Rules)]])) ?_
  refine zE (.c (.row 0)) ?_
  refine zE (.c (I v49)) ?_
  obtain ⟨k51, he, h⟩ := bindE h
  refine rx_E (e := [(decide (v49 > p1))]) [(23, .c (.row 0), some 1), (24, .c (I v49), some 1)] (v := .c (.ptr 0 (k51 * 1))) (foot := [0]) (by kernel_rfl) (by kernel_rfl) (by kernel_rfl) (fun hg => rd_rowA (enc := eI64) (l := v50) (n := 0) (sz := 1) (k := k51) (ix := v49) (gd_spec he hg) (by kernel_rfl)) rfl rfl ?_
  clear he
  obtain ⟨e52, he, h⟩ := bindE h
  refine rx_EW (e := [(decide (v49 > p1))]) [(25, .c (.ptr 0 (k51 * 1)), some 1)] (v := .c (I e52)) (foot := [0]) (by kernel_rfl) (by kernel_rfl) (by kernel_rfl) (fun hg => rdW_ldV (enc := eI64) (l := v50) (n := 0) (q := k51) (f := 0) (sz := 1) (e := e52) (j := ⟨.int .i64, 1, 8, [.int .i64 0]⟩) (gd_spec he hg) (by kernel_rfl) (by kernel_rfl)) rfl rfl ?_
  clear he
  refine zE (.c (.row 0)) ?_
  refine zE (.c (I v49)) ?_
  refine zE (.c (I (IntKind.wrap .i64 (v49 - 1)))) ?_
  obtain ⟨k53, he, h⟩ := bindE h
  refine rx_E (e := [(decide (v49 > p1))]) [(27, .c (.row 0), some 1), (29, .c (I (IntKind.wrap .i64 (v49 - 1))), some 1)] (v := .c (.ptr 0 (k53 * 1))) (foot := [0]) (by kernel_rfl) (by kernel_rfl) (by kernel_rfl) (fun hg => rd_rowA (enc := eI64) (l := v50) (n := 0) (sz := 1) (k := k53) (ix := (IntKind.wrap .i64 (v49 - 1))) (gd_spec he hg) (by kernel_rfl)) rfl rfl ?_
  clear he
  obtain ⟨e54, he, h⟩ := bindE h
  refine rx_EW (e := [(decide (v49 > p1))]) [(30, .c (.ptr 0 (k53 * 1)), some 1)] (v := .c (I e54)) (foot := [0]) (by kernel_rfl) (by kernel_rfl) (by kernel_rfl) (fun hg => rdW_ldV (enc := eI64) (l := v50) (n := 0) (q := k53) (f := 0) (sz := 1) (e := e54) (j := ⟨.int .i64, 1, 8, [.int .i64 0]⟩) (gd_spec he hg) (by kernel_rfl) (by kernel_rfl)) rfl rfl ?_
  clear he
  obtain ⟨y55, he, h⟩ := bindE h
  refine rx_EO (e := [(decide (v49 > p1))]) [(22, .c (.fn 40 [.imm [.lit (List.map eGRule p3.Rules)]]), some 1), (26, .c (I e52), some 1), (31, .c (I e54), some 1)] (v := .c (I y55)) (foot := []) (by kernel_rfl) (by kernel_rfl) (by kernel_rfl) (fun hg => opW_callV (F := 40) (As := [.c (I e52), .c (I e54), .c (.imm [.lit (List.map eGRule p3.Rules)])]) (Bs := [.c (I e52), .c (I e54), .c (.imm [.lit (List.map eGRule p3.Rules)])]) (r := .c (I y55)) (v := .c (I y55)) (by kernel_rfl) fok40 (by kernel_rfl) (style_Cascade_1_ok n _ _ _ y55 (gd_spec he hg)) (by kernel_rfl)) rfl rfl ?_
  clear he
  refine zE (.c (Bo (decide (y55 < 0)))) ?_
  refine zP (.bool ((decide (v49 > p1)) && (decide (y55 < 0)))) ?_
  refine zee [0, 1, 2, 3, 8, 9, 34] (L2 := [(0, .c (.row 0)), (1, .c (I p1)), (2, .c (I p2)), (3, .c (.fn 40 [.imm [.lit (List.map eGRule p3.Rules)]])), (8, .c (I v33)), (9, .c (I v49)), (34, .c (Bo ((decide (v49 > p1)) && (decide (y55 < 0)))))]) (G2 := [(0, .vec 3 1 (List.map eI64 v50))]) 18 ?_
  refine zi h (fun h => ?_) fun h => ?_
  refine aw_skip ?_
  refine aw_seq ?_
  refine aw_block ?_
  refine zdy [[], [], [], [], [3], [], [], [6], [5, 7, 6], [8, 5, 7, 6], [], [], [10, 11], [12, 10, 11], [0, 1, 5, 6, 7, 8, 9, 13, 12, 10, 11], [14, 9, 0, 1, 5, 6, 7, 8, 13, 12, 10, 11], [2, 4, 0, 1, 3, 5, 6, 7, 8, 9, 10, 11, 12, 13, 14, 15], [16, 13, 15, 0, 1, 2, 3, 4, 5, 6, 7, 8, 9, 10, 11, 12, 14]] fun _ => ?_
  refine zk 8 ?_
  obtain ⟨k56, he, h⟩ := bindE h
  refine rx_rd (v := .c (.ptr 0 (k56 * 1))) (foot := [0]) (rd_rowA (enc := eI64) (l := v50) (n := 0) (sz := 1) (k := k56) (ix := (IntKind.wrap .i64 (v49 - 1))) he (by kernel_rfl)) (by kernel_rfl) rfl rfl ?_
  have hb_k56 := inb_lt he; clear he
  obtain ⟨e57, he, h⟩ := bindE h
  refine zw (v := .c (I e57)) [0] (rdW_ldV (enc := eI64) (l := v50) (n := 0) (q := k56) (f := 0) (sz := 1) (e := e57) (j := ⟨.int .i64, 1, 8, [.int .i64 0]⟩) he (by kernel_rfl) (by kernel_rfl)) ?_
  clear he
  refine zk 2 ?_
  obtain ⟨k58, he, h⟩ := bindE h
  refine rx_rd (v := .c (.ptr 0 (k58 * 1))) (foot := [0]) (rd_rowA (enc := eI64) (l := v50) (n := 0) (sz := 1) (k := k58) (ix := v49) he (by kernel_rfl)) (by kernel_rfl) rfl rfl ?_
  have hb_k58 := inb_lt he; clear he
  obtain ⟨e59, he, h⟩ := bindE h
  refine zw (v := .c (I e59)) [0] (rdW_ldV (enc := eI64) (l := v50) (n := 0) (q := k58) (f := 0) (sz := 1) (e := e59) (j := ⟨.int .i64, 1, 8, [.int .i64 0]⟩) he (by kernel_rfl) (by kernel_rfl)) ?_
  clear he
  obtain ⟨k60, he, h⟩ := bindE h
  refine rx_rd (v := .c (.ptr 0 (k60 * 1))) (foot := [0]) (rd_rowA (enc := eI64) (l := v50) (n := 0) (sz := 1) (k := k60) (ix := v49) he (by kernel_rfl)) (by kernel_rfl) rfl rfl ?_
  have hb_k60 := inb_lt he; clear he
  obtain ⟨e61, he, h⟩ := bindE h
  refine rx_storeV (enc := eI64) (n := 0) (q := k60) (f := 0) (sz := 1) (T0 := 3) (lp := [I e57]) (l := v50) (e := e61) (e2 := e57) he (by kernel_rfl) (by simp only [List.length_cons, List.length_nil]; omega) (by kernel_rfl) (by kernel_rfl) rfl rfl ?_
  clear he
  obtain ⟨k62, he, h⟩ := bindE h
  refine rx_rd (v := .c (.ptr 0 (k62 * 1))) (foot := [0]) (rd_rowA (enc := eI64) (l := (List.set v50 k60 e57)) (n := 0) (sz := 1) (k := k62) (ix := (IntKind.wrap .i64 (v49 - 1))) he (by kernel_rfl)) (by kernel_rfl) rfl rfl ?_
  have hb_k62 := inb_lt he; clear he
  obtain ⟨e63, he, h⟩ := bindE h
  refine rx_storeV (enc := eI64) (n := 0) (q := k62) (f := 0) (sz := 1) (T0 := 3) (lp := [I e59]) (l := (List.set v50 k60 e57)) (e := e63) (e2 := e59) he (by kernel_rfl) (by simp only [List.length_cons, List.length_nil]; omega) (by kernel_rfl) (by kernel_rfl) rfl rfl ?_
  clear he
  refine x_last ?_
  refine aw_out ?_
  refine zb ?_
  exact via (zv [(0, 0)] [0, 1, 2, 3, 8, 9] 1) (⟨_, _, h, rfl⟩)
  exact aw_views (zv [(0, 0)] [0, 1, 2, 3, 8] 1) (aw_exit (hj35 _ h))
  cases h
  exact aw_exit zr
def slices_swapRangeCmpFunc_int_L0 (p3 : Int) (p2 : Int) (p1 : Int) : Nat → Int → List Int → Option (List Int)
  | 0, _, _ => none
  | n + 1, v9, v10 => (if (decide (v9 < p3)) = true then (inb (IntKind.wrap .i64 (p2 + v9)) (List.length v10)).bind fun (k11 : Nat) => (v10[k11]?).bind fun (e12 : Int) => (inb (IntKind.wrap .i64 (p1 + v9)) (List.length v10)).bind fun (k13 : Nat) => (v10[k13]?).bind fun (e14 : Int) => (inb (IntKind.wrap .i64 (p1 + v9)) (List.length v10)).bind fun (k15 : Nat) => (v10[k15]?).bind fun (e16 : Int) => (inb (IntKind.wrap .i64 (p2 + v9)) (List.length (List.set v10 k15 e12))).bind fun (k17 : Nat) => ((List.set v10 k15 e12)[k17]?).bind fun (e18 : Int) => slices_swapRangeCmpFunc_int_L0 p3 p2 p1 n (IntKind.wrap .i64 (v9 + 1)) (List.set (List.set v10 k15 e12) k17 e14) else some v10)
def slices_swapRangeCmpFunc_int  (n : Nat) (p0 : (List Int)) (p1 : Int) (p2 : Int) (p3 : Int) (p4 : GSheet) : Option (List Int) := slices_swapRangeCmpFunc_int_L0 p3 p2 p1 n 0 p0
theorem slices_swapRangeCmpFunc_int_ok  (n : Nat) (p0 : (List Int)) (p1 : Int) (p2 : Int) (p3 : Int) (p4 : GSheet) (r : (List Int)) (h : slices_swapRangeCmpFunc_int n p0 p1 p2 p3 p4 = some r) : FnD E 96 1 [.c (.row 0), .c (I p1), .c (I p2), .c (I p3), .c (.fn 40 [.imm [.lit (List.map eGRule p4.Rules)]])] [(0, .vec 3 1 (List.map eI64 p0))] (.tup []) [(0, .vec 3 1 (List.map eI64 r))] := by
  refine zfn Tryd.func96 rfl ?_
  unfold slices_swapRangeCmpFunc_int at h
  refine za [0, 1, 2, 3, 10] ?_
  refine aw_block ?_
  refine aw_loopJ (fun n s => ∃ v9 v10, slices_swapRangeCmpFunc_int_L0 p3 p2 p1 n v9 v10 = some r ∧ s = mk [(0, .c (.row 0)), (1, .c (I p1)), (2, .c (I p2)), (3, .c (I p3)), (10, .c (I v9))] [(0, .vec 3 1 (List.map eI64 v10))] 1) n _ (zv [(0, 0)] [0, 1, 2, 3, 10] 1) ⟨_, _, h, rfl⟩ (fun s ⟨v9, v10, h, _⟩ => nomatch h) ?_
  rintro n s ⟨v9, v10, h, rfl⟩
  rw [slices_swapRangeCmpFunc_int_L0] at h
  refine aw_seq ?_
  refine za [0, 1, 2, 3, 10, 13] ?_
  refine zi h (fun h => ?_) fun h => ?_
  refine aw_skip ?_
  refine aw_seq ?_
  refine aw_block ?_
  refine zdy [[], [], [], [1, 2], [], [], [], [5, 6], [], [], [], [9, 10], [8, 11, 9, 10], [12, 8, 11, 9, 10], [], [], [], [15, 16], [14, 17, 15, 16], [18, 14, 17, 15, 16], [0, 3, 1, 2, 8, 9, 10, 11, 12, 13, 19, 18, 14, 17, 15, 16], [20, 13, 0, 1, 2, 3, 8, 9, 10, 11, 12, 19, 18, 14, 17, 15, 16], [4, 7, 0, 1, 2, 3, 5, 6, 8, 9, 10, 11, 12, 13, 14, 15, 16, 17, 18, 19, 20, 21], [22, 19, 21, 0, 1, 2, 3, 4, 5, 6, 7, 8, 9, 10, 11, 12, 13, 14, 15, 16, 17, 18, 20]] fun _ => ?_
  refine zk 12 ?_
  obtain ⟨k11, he, h⟩ := bindE h
  refine rx_rd (v := .c (.ptr 0 (k11 * 1))) (foot := [0]) (rd_rowA (enc := eI64) (l := v10) (n := 0) (sz := 1) (k := k11) (ix := (IntKind.wrap .i64 (p2 + v9))) he (by kernel_rfl)) (by kernel_rfl) rfl rfl ?_
  have hb_k11 := inb_lt he; clear he
  obtain ⟨e12, he, h⟩ := bindE h
  refine zw (v := .c (I e12)) [0] (rdW_ldV (enc := eI64) (l := v10) (n := 0) (q := k11) (f := 0) (sz := 1) (e := e12) (j := ⟨.int .i64, 1, 8, [.int .i64 0]⟩) he (by kernel_rfl) (by kernel_rfl)) ?_
  clear he
  refine zk 4 ?_
  obtain ⟨k13, he, h⟩ := bindE h
  refine rx_rd (v := .c (.ptr 0 (k13 * 1))) (foot := [0]) (rd_rowA (enc := eI64) (l := v10) (n := 0) (sz := 1) (k := k13) (ix := (IntKind.wrap .i64 (p1 + v9))) he (by kernel_rfl)) (by kernel_rfl) rfl rfl ?_
  have hb_k13 := inb_lt he; clear he
  obtain ⟨e14, he, h⟩ := bindE h
  refine zw (v := .c (I e14)) [0] (rdW_ldV (enc := eI64) (l := v10) (n := 0) (q := k13) (f := 0) (sz := 1) (e := e14) (j := ⟨.int .i64, 1, 8, [.int .i64 0]⟩) he (by kernel_rfl) (by kernel_rfl)) ?_
  clear he
  obtain ⟨k15, he, h⟩ := bindE h
  refine rx_rd (v := .c (.ptr 0 (k15 * 1))) (foot := [0]) (rd_rowA (enc := eI64) (l := v10) (n := 0) (sz := 1) (k := k15) (ix := (IntKind.wrap .i64 (p1 + v9))) he (by kernel_rfl)) (by kernel_rfl) rfl rfl ?_
  have hb_k15 := inb_lt he; clear he
  obtain ⟨e16, he, h⟩ := bindE h
  refine rx_storeV (enc := eI64) (n := 0) (q := k15) (f := 0) (sz := 1) (T0 := 3) (lp := [I e12]) (l := v10) (e := e16) (e2 := e12) he (by kernel_rfl) (by simp only [List.length_cons, List.length_nil]; omega) (by kernel_rfl) (by kernel_rfl) rfl rfl ?_
  clear he
  obtain ⟨k17, he, h⟩ := bindE h
  refine rx_rd (v := .c (.ptr 0 (k17 * 1))) (foot := [0]) (rd_rowA (enc := eI64) (l := (List.set v10 k15 e12)) (n := 0) (sz := 1) (k := k17) (ix := (IntKind.wrap .i64 (p2 + v9))) he (by kernel_rfl)) (by kernel_rfl) rfl rfl ?_
  have hb_k17 := inb_lt he; clear he
  obtain ⟨e18, he, h⟩ := bindE h
  refine rx_storeV (enc := eI64) (n := 0) (q := k17) (f := 0) (sz := 1) (T0 := 3) (lp := [I e14]) (l := (List.set v10 k15 e12)) (e := e18) (e2 := e14) he (by kernel_rfl) (by simp only [List.length_cons, List.length_nil]; omega) (by kernel_rfl) (by kernel_rfl) rfl rfl ?_
  clear he
  refine x_last ?_
  refine aw_out ?_
  refine zb ?_
  exact via (zv [(0, 0)] [0, 1, 2, 3, 10] 1) (⟨_, _, h, rfl⟩)
  cases h
  exact aw_exit zr
def slices_rotateCmpFunc_int_L0 (p2 : Int) (p4 : GSheet) (j1 : Int → List Int → Option (List Int)) : Nat → Int → Int → List Int → Option (List Int)
  | 0, _, _, _ => none
  | n + 1, v4, v5, v6 => (if (v4 != v5) = true then (if (decide (v4 > v5)) = true then (slices_swapRangeCmpFunc_int n v6 (IntKind.wrap .i64 (p2 - v4)) p2 v5 p4).bind fun (y7 : (List Int)) => slices_rotateCmpFunc_int_L0 p2 p4 j1 n (IntKind.wrap .i64 (v4 - v5)) v5 y7 else (slices_swapRangeCmpFunc_int n v6 (IntKind.wrap .i64 (p2 - v4)) (IntKind.wrap .i64 ((IntKind.wrap .i64 (p2 + v5)) - v4)) v4 p4).bind fun (y8 : (List Int)) => slices_rotateCmpFunc_int_L0 p2 p4 j1 n v4 (IntKind.wrap .i64 (v5 - v4)) y8) else j1 v4 v6)
def slices_rotateCmpFunc_int  (n : Nat) (p0 : (List Int)) (p1 : Int) (p2 : Int) (p3 : Int) (p4 : GSheet) : Option (List Int) := (withJ (fun (v12 : Int) (v13 : List Int) => (slices_swapRangeCmpFunc_int n v13 (IntKind.wrap .i64 (p2 - v12)) p2 v12 p4).bind fun (y14 : (List Int)) => some y14) (fun (j1 : Int → List Int → Option (List Int)) => slices_rotateCmpFunc_int_L0 p2 p4 j1 n (IntKind.wrap .i64 (p2 - p1)) (IntKind.wrap .i64 (p3 - p2)) p0))
theorem slices_rotateCmpFunc_int_ok  (n : Nat) (p0 : (List Int)) (p1 : Int) (p2 : Int) (p3 : Int) (p4 : GSheet) (r : (List Int)) (h : slices_rotateCmpFunc_int n p0 p1 p2 p3 p4 = some r) : FnD E 87 1 [.c (.row 0), .c (I p1), .c (I p2), .c (I p3), .c (.fn 40 [.imm [.lit (List.map eGRule p4.Rules)]])] [(0, .vec 3 1 (List.map eI64 p0))] (.tup []) [(0, .vec 3 1 (List.map eI64 r))] := by
  refine zfn Tryd.func87 rfl ?_
  unfold slices_rotateCmpFunc_int at h
  refine za [0, 2, 3, 4, 10] ?_
  refine za [0, 2, 4, 10, 11] ?_
  refine aw_join h (fun A j => ∀ v12 v13, j v12 v13 = some r → A (mk [(0, .c (.row 0)), (2, .c (I p2)), (4, .c (.fn 40 [.imm [.lit (List.map eGRule p4.Rules)]])), (10, .c (I v12))] [(0, .vec 3 1 (List.map eI64 v13))] 1)) (fun v12 v13 h => ?_) (fun j1 Aj1 hj1 h => ?_)
  refine zy fun _ => ?_
  refine zk 7 ?_
  obtain ⟨y14, he, h⟩ := bindE h
  refine zo [(0, 0)] fok96 (slices_swapRangeCmpFunc_int_ok n _ _ _ _ _ y14 he) ?_
  clear he
  refine x_last ?_
  cases h
  exact zr
  refine aw_block ?_
  refine aw_loopJ (fun n s => ∃ v4 v5 v6, slices_rotateCmpFunc_int_L0 p2 p4 j1 n v4 v5 v6 = some r ∧ s = mk [(0, .c (.row 0)), (2, .c (I p2)), (4, .c (.fn 40 [.imm [.lit (List.map eGRule p4.Rules)]])), (10, .c (I v4)), (11, .c (I v5))] [(0, .vec 3 1 (List.map eI64 v6))] 1) n _ (zv [(0, 0)] [0, 2, 4, 10, 11] 1) ⟨_, _, _, h, rfl⟩ (fun s ⟨v4, v5, v6, h, _⟩ => nomatch h) ?_
  rintro n s ⟨v4, v5, v6, h, rfl⟩
  rw [slices_rotateCmpFunc_int_L0] at h
  refine aw_seq ?_
  refine za [0, 2, 4, 10, 11, 20] ?_
  refine zi h (fun h => ?_) fun h => ?_
  refine aw_skip ?_
  refine aw_block ?_
  refine za [0, 2, 4, 10, 11, 23] ?_
  refine zi h (fun h => ?_) fun h => ?_
  refine zx fun _ => ?_
  refine zk 7 ?_
  obtain ⟨y7, he, h⟩ := bindE h
  refine zo [(0, 0)] fok96 (slices_swapRangeCmpFunc_int_ok n _ _ _ _ _ y7 he) ?_
  clear he
  refine ze [0, 2, 4, 10, 11] ?_
  refine aw_out ?_
  refine zb ?_
  exact via (zv [(0, 0)] [0, 2, 4, 10, 11] 1) (⟨_, _, _, h, rfl⟩)
  refine zx fun _ => ?_
  refine zk 11 ?_
  obtain ⟨y8, he, h⟩ := bindE h
  refine zo [(0, 0)] fok96 (slices_swapRangeCmpFunc_int_ok n _ _ _ _ _ y8 he) ?_
  clear he
  refine ze [0, 2, 4, 10, 11] ?_
  refine aw_out ?_
  refine zb ?_
  exact via (zv [(0, 0)] [0, 2, 4, 10, 11] 1) (⟨_, _, _, h, rfl⟩)
  exact aw_views (zv [(0, 0)] [0, 2, 4, 10] 1) (aw_exit (hj1 _ _ h))
end Go.Proofs.YtojkihhnioeggaaDoor.S
