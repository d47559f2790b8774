/- Functions, and that the program's are they. Printed by ext.py. -/
import Derived.Test.YtojkihhnioeggaaDoorGI9
set_option linter.unusedVariables false
set_option linter.unusedSimpArgs false
set_option maxRecDepth 100000
set_option maxHeartbeats 4000000
namespace Go.Proofs.YtojkihhnioeggaaDoor.S
open Go Go.Bm
def Src_view_L1 (v45 : List GView) (v53 : ByteArray) (j54 : Bool → Option (GView × GSrc)) (p1 : Int) (y14 : (Int × GSrc)) (y15 : (Int × GSrc)) (v42 : Int) (v51 : List Int) (v52 : Int) (v4 : Int) (y5 : ((List GAttr) × GSrc)) (v13 : List GAction) (y47 : (GView × GSrc)) : Nat → Bool → Int → Option (GView × GSrc)
  | 0, _, _ => none
  | n + 1, v56, v57 => (if (decide (v57 < (List.length v45 : Int))) = true then (gd [(!v56), (!(sEq v53 (⟨#[]⟩ : ByteArray)))] (idx v45 v57)).bind fun (e58 : GView) => Src_view_L1 v45 v53 j54 p1 y14 y15 v42 v51 v52 v4 y5 v13 y47 n (v56 || ((!(sEq v53 (⟨#[]⟩ : ByteArray))) && (sEq e58.Key v53))) (IntKind.wrap .i64 (v57 + 1)) else j54 v56)
def Src_view_L0 (y14 : (Int × GSrc)) (self_Src_view : GSrc → Int → Option (GView × GSrc)) (p1 : Int) (y15 : (Int × GSrc)) (v4 : Int) (y5 : ((List GAttr) × GSrc)) (v13 : List GAction) (j16 : List GView → List Int → Int → Option (GView × GSrc)) : Nat → Int → List Int → Int → List GView → Option (GView × GSrc)
  | 0, _, _, _, _ => none
  | n + 1, v42, v43, v44, v45 => (if (decide (v42 < y14.1)) = true then (withJ (fun (v63 : List Int) (v64 : Int) (v65 : List GView) => Src_view_L0 y14 self_Src_view p1 y15 v4 y5 v13 j16 n (IntKind.wrap .i64 (v42 + 1)) v63 v64 v65) (fun (j46 : List Int → Int → List GView → Option (GView × GSrc)) => (self_Src_view (GSrc.mk v43 v44) (IntKind.wrap .i64 (p1 - 1))).bind fun (y47 : (GView × GSrc)) => (withJ (fun (v51 : List Int) (v52 : Int) (v53 : ByteArray) => (withJ (fun (v61 : Bool) => (if (!v61) = true then (apd 96 v45 [(GView.mk y47.1.Kind v53 y47.1.Attrs y47.1.Actions y47.1.Kids)]).bind fun (l62 : List GView) => j46 v51 v52 l62 else j46 v51 v52 v45)) (fun (j54 : Bool → Option (GView × GSrc)) => Src_view_L1 v45 v53 j54 p1 y14 y15 v42 v51 v52 v4 y5 v13 y47 n false 0))) (fun (j48 : List Int → Int → ByteArray → Option (GView × GSrc)) => (ifO [(!(y15.1 == 0))] (Src_N n y47.2 3) ((default : Int), y47.2)).bind fun (y49 : (Int × GSrc)) => (if ((y15.1 == 0) || (y49.1 == 0)) = true then (Src_N n y49.2 6).bind fun (y50 : (Int × GSrc)) => j48 y50.2.L y50.2.At (bytesText [107, (IntKind.wrap .u8 (IntKind.wrap .i64 (97 + y50.1)))]) else j48 y49.2.L y49.2.At y47.1.Key))))) else j16 v45 v43 v44)
def Src_view_body (self_Src_view : GSrc → Int → Option (GView × GSrc)) (n : Nat) (p0 : GSrc) (p1 : Int) : Option (GView × GSrc) := (Src_N n p0 (List.length [1, 1, 2, 3, 4, 5, 6, 7, 8, 9, 10, 11, 12, 13] : Int)).bind fun (y1 : (Int × GSrc)) => (idx [1, 1, 2, 3, 4, 5, 6, 7, 8, 9, 10, 11, 12, 13] y1.1).bind fun (e2 : Int) => (withJ (fun (v4 : Int) => (Src_attrs n y1.2 v4).bind fun (y5 : ((List GAttr) × GSrc)) => (withJ (fun (v11 : List Int) (v12 : Int) (v13 : List GAction) => (if (decide (p1 ≤ 0)) = true then some ((GView.mk v4 (⟨#[]⟩ : ByteArray) y5.1 v13 ([] : List GView)), (GSrc.mk v11 v12)) else (Src_N n (GSrc.mk v11 v12) 5).bind fun (y14 : (Int × GSrc)) => (Src_N n y14.2 2).bind fun (y15 : (Int × GSrc)) => (withJ (fun (v73 : List GView) (v74 : List Int) (v75 : Int) => some ((GView.mk v4 (⟨#[]⟩ : ByteArray) y5.1 v13 v73), (GSrc.mk v74 v75))) (fun (j16 : List GView → List Int → Int → Option (GView × GSrc)) => Src_view_L0 y14 self_Src_view p1 y15 v4 y5 v13 j16 n 0 y15.2.L y15.2.At ([] : List GView))))) (fun (j6 : List Int → Int → List GAction → Option (GView × GSrc)) => (Src_N n y5.2 3).bind fun (y7 : (Int × GSrc)) => (if (y7.1 == 0) = true then (Src_Value n y7.2 0).bind fun (y8 : (GValue × GSrc)) => j6 y8.2.L y8.2.At [(GAction.mk (⟨#[112, 114, 101, 115, 115]⟩ : ByteArray) (⟨#[47]⟩ : ByteArray) (⟨#[103, 111]⟩ : ByteArray) [y8.1])] else j6 y7.2.L y7.2.At ([] : List GAction))))) (fun (j3 : Int → Option (GView × GSrc)) => (if (decide (p1 > 2)) = true then j3 1 else j3 e2)))
theorem Src_view_body_ok (self_Src_view : GSrc → Int → Option (GView × GSrc)) (ih_Src_view : ∀ (p0 : GSrc) (p1 : Int) (r : (GView × GSrc)), self_Src_view p0 p1 = some r → FnD E 50 1 [.c (.ptr 0 0), .c (I p1)] [(0, .blk 90 [.lit (List.map eI64 p0.L), I p0.At])] (.agg [I r.1.Kind, Sx r.1.Key, .lit (List.map eGAttr r.1.Attrs), .lit (List.map eGAction r.1.Actions), .lit (List.map eGView r.1.Kids)]) [(0, .blk 90 [.lit (List.map eI64 r.2.L), I r.2.At])]) (n : Nat) (p0 : GSrc) (p1 : Int) (r : (GView × GSrc)) (h : Src_view_body self_Src_view n p0 p1 = some r) : FnD E 50 1 [.c (.ptr 0 0), .c (I p1)] [(0, .blk 90 [.lit (List.map eI64 p0.L), I p0.At])] (.agg [I r.1.Kind, Sx r.1.Key, .lit (List.map eGAttr r.1.Attrs), .lit (List.map eGAction r.1.Actions), .lit (List.map eGView r.1.Kids)]) [(0, .blk 90 [.lit (List.map eI64 r.2.L), I r.2.At])] := by
  refine zfn Tryd.func50 rfl ?_
  unfold Src_view_body at h
  refine za [0, 1, 4] ?_
  refine za [0, 1, 4, 5] ?_
  refine zx fun _ => ?_
  refine zk 3 ?_
  refine zl eI64 [1, 1, 2, 3, 4, 5, 6, 7, 8, 9, 10, 11, 12, 13] ?_
  obtain ⟨y1, he, h⟩ := bindE h
  refine zo [(0, 0)] fok20 (Src_N_ok n _ _ y1 he) ?_
  clear he
  obtain ⟨e2, he, h⟩ := bindE h
  refine zd eI64 he ?_
  clear he
  refine zk 4 ?_
  refine ze [0, 1, 4, 6] ?_
  refine aw_join h (fun A j => ∀ v4, j v4 = some r → A (mk [(0, .c (.ptr 0 0)), (1, .c (I p1)), (4, .c (.ptr 1 0)), (6, .c (.ptr 2 0))] [(0, .blk 90 [.lit (List.map eI64 y1.2.L), I y1.2.At]), (1, .blk 75 [I 0, Sx (⟨#[]⟩ : ByteArray), NilS, NilS, NilS]), (2, .blk 75 [I v4, Sx (⟨#[]⟩ : ByteArray), NilS, NilS, NilS])] 3)) (fun v4 h => ?_) (fun j3 Aj3 hj3 h => ?_)
  refine zx fun _ => ?_
  refine zk 3 ?_
  obtain ⟨y5, he, h⟩ := bindE h
  refine zo [(0, 0)] fok62 (Src_attrs_ok n _ _ y5 he) ?_
  clear he
  refine zk 2 ?_
  refine ze [0, 1, 4, 6] ?_
  refine aw_join h (fun A j => ∀ v11 v12 v13, j v11 v12 v13 = some r → A (mk [(0, .c (.ptr 0 0)), (1, .c (I p1)), (4, .c (.ptr 1 0)), (6, .c (.ptr 2 0))] [(0, .blk 90 [.lit (List.map eI64 v11), I v12]), (1, .blk 75 [I 0, Sx (⟨#[]⟩ : ByteArray), NilS, NilS, NilS]), (2, .blk 75 [I v4, Sx (⟨#[]⟩ : ByteArray), .lit (List.map eGAttr y5.1), .app 3 (List.map eGAction v13), NilS]), (3, .tok 138 4 (List.length v13))] 4)) (fun v11 v12 v13 h => ?_) (fun j6 Aj6 hj6 h => ?_)
  refine aw_seq ?_
  refine za [0, 1, 4, 6, 40] ?_
  refine zi h (fun h => ?_) fun h => ?_
  refine za [4] ?_
  cases h
  exact aw_ret zr
  refine aw_skip ?_
  refine zx fun _ => ?_
  refine zk 1 ?_
  obtain ⟨y14, he, h⟩ := bindE h
  refine zo [(0, 0)] fok20 (Src_N_ok n _ _ y14 he) ?_
  clear he
  refine zk 1 ?_
  refine ze [0, 1, 4, 6, 7] ?_
  refine zx fun _ => ?_
  refine zk 1 ?_
  obtain ⟨y15, he, h⟩ := bindE h
  refine zo [(0, 0)] fok20 (Src_N_ok n _ _ y15 he) ?_
  clear he
  refine zk 2 ?_
  refine ze [0, 1, 4, 6, 7, 8] ?_
  refine aw_join h (fun A j => ∀ v73 v74 v75, j v73 v74 v75 = some r → A (mk [(4, .c (.ptr 1 0)), (6, .c (.ptr 2 0))] [(0, .blk 90 [.lit (List.map eI64 v74), I v75]), (1, .blk 75 [I 0, Sx (⟨#[]⟩ : ByteArray), NilS, NilS, NilS]), (2, .blk 75 [I v4, Sx (⟨#[]⟩ : ByteArray), .lit (List.map eGAttr y5.1), .app 3 (List.map eGAction v13), .app 4 (List.map eGView v73)]), (3, .tok 138 4 (List.length v13)), (4, .tok 75 5 (List.length v73))] 5)) (fun v73 v74 v75 h => ?_) (fun j16 Aj16 hj16 h => ?_)
  refine za [4] ?_
  cases h
  exact aw_ret zr
  refine za [0, 1, 4, 6, 7, 8, 9] ?_
  refine aw_block ?_
  refine aw_loopJ (fun n s => ∃ v42 v43 v44 v45, Src_view_L0 y14 self_Src_view p1 y15 v4 y5 v13 j16 n v42 v43 v44 v45 = some r ∧ s = mk [(0, .c (.ptr 0 0)), (1, .c (I p1)), (4, .c (.ptr 1 0)), (6, .c (.ptr 2 0)), (7, .c (I y14.1)), (8, .c (Bo (y15.1 == 0))), (9, .c (I v42))] [(0, .blk 90 [.lit (List.map eI64 v43), I v44]), (1, .blk 75 [I 0, Sx (⟨#[]⟩ : ByteArray), NilS, NilS, NilS]), (2, .blk 75 [I v4, Sx (⟨#[]⟩ : ByteArray), .lit (List.map eGAttr y5.1), .app 3 (List.map eGAction v13), .app 4 (List.map eGView v45)]), (3, .tok 138 4 (List.length v13)), (4, .tok 75 5 (List.length v45))] 5) n _ (Views.trans (view_nilC (n := 2) (T0 := 75) (l := [I v4, Sx (⟨#[]⟩ : ByteArray), .lit (List.map eGAttr y5.1), .app 3 (List.map eGAction v13), NilS]) (G2 := [(0, .blk 90 [.lit (List.map eI64 y15.2.L), I y15.2.At]), (1, .blk 75 [I 0, Sx (⟨#[]⟩ : ByteArray), NilS, NilS, NilS]), (2, .blk 75 [I v4, Sx (⟨#[]⟩ : ByteArray), .lit (List.map eGAttr y5.1), .app 3 (List.map eGAction v13), .app 14 (List.map eGView ([] : List GView))]), (3, .tok 138 4 (List.length v13)), (14, .tok 75 5 (List.length ([] : List GView)))]) (lim2 := 15) 4 75 5 (by kernel_rfl) (by kernel_rfl) (by kernel_rfl) (by kernel_rfl)) (zv [(0, 0), (1, 1), (2, 2), (3, 3), (14, 4)] [0, 1, 4, 6, 7, 8, 9] 5)) ⟨_, _, _, _, h, rfl⟩ (fun s ⟨v42, v43, v44, v45, h, _⟩ => nomatch h) ?_
  rintro n s ⟨v42, v43, v44, v45, h, rfl⟩
  rw [Src_view_L0] at h
  refine aw_seq ?_
  refine za [0, 1, 4, 6, 7, 8, 9, 49] ?_
  refine zi h (fun h => ?_) fun h => ?_
  refine aw_skip ?_
  refine aw_join h (fun A j => ∀ v63 v64 v65, j v63 v64 v65 = some r → A (mk [(0, .c (.ptr 0 0)), (1, .c (I p1)), (4, .c (.ptr 1 0)), (6, .c (.ptr 2 0)), (7, .c (I y14.1)), (8, .c (Bo (y15.1 == 0))), (9, .c (I v42))] [(0, .blk 90 [.lit (List.map eI64 v63), I v64]), (1, .blk 75 [I 0, Sx (⟨#[]⟩ : ByteArray), NilS, NilS, NilS]), (2, .blk 75 [I v4, Sx (⟨#[]⟩ : ByteArray), .lit (List.map eGAttr y5.1), .app 3 (List.map eGAction v13), .app 4 (List.map eGView v65)]), (3, .tok 138 4 (List.length v13)), (4, .tok 75 5 (List.length v65))] 5)) (fun v63 v64 v65 h => ?_) (fun j46 Aj46 hj46 h => ?_)
  refine aw_out ?_
  refine zb ?_
  exact via (zv [(0, 0), (1, 1), (2, 2), (3, 3), (4, 4)] [0, 1, 4, 6, 7, 8, 9] 5) (⟨_, _, _, _, h, rfl⟩)
  refine aw_block ?_
  refine zx fun _ => ?_
  refine zk 3 ?_
  obtain ⟨y47, he, h⟩ := bindE h
  refine zo [(0, 0)] fok50 (ih_Src_view _ _ y47 he) ?_
  clear he
  refine zk 2 ?_
  refine ze [0, 1, 4, 6, 7, 8, 9, 10] ?_
  refine aw_join h (fun A j => ∀ v51 v52 v53, j v51 v52 v53 = some r → A (mk [(0, .c (.ptr 0 0)), (1, .c (I p1)), (4, .c (.ptr 1 0)), (6, .c (.ptr 2 0)), (7, .c (I y14.1)), (8, .c (Bo (y15.1 == 0))), (9, .c (I v42)), (10, .c (.ptr 3 0))] [(0, .blk 90 [.lit (List.map eI64 v51), I v52]), (1, .blk 75 [I 0, Sx (⟨#[]⟩ : ByteArray), NilS, NilS, NilS]), (2, .blk 75 [I v4, Sx (⟨#[]⟩ : ByteArray), .lit (List.map eGAttr y5.1), .app 4 (List.map eGAction v13), .app 5 (List.map eGView v45)]), (3, .blk 75 [I y47.1.Kind, Sx v53, .lit (List.map eGAttr y47.1.Attrs), .lit (List.map eGAction y47.1.Actions), .lit (List.map eGView y47.1.Kids)]), (4, .tok 138 4 (List.length v13)), (5, .tok 75 5 (List.length v45))] 6)) (fun v51 v52 v53 h => ?_) (fun j48 Aj48 hj48 h => ?_)
  refine za [0, 1, 4, 6, 7, 8, 9, 10, 11] ?_
  refine aw_join h (fun A j => ∀ v61, j v61 = some r → A (mk [(0, .c (.ptr 0 0)), (1, .c (I p1)), (4, .c (.ptr 1 0)), (6, .c (.ptr 2 0)), (7, .c (I y14.1)), (8, .c (Bo (y15.1 == 0))), (9, .c (I v42)), (10, .c (.ptr 3 0)), (11, .c (Bo v61))] [(0, .blk 90 [.lit (List.map eI64 v51), I v52]), (1, .blk 75 [I 0, Sx (⟨#[]⟩ : ByteArray), NilS, NilS, NilS]), (2, .blk 75 [I v4, Sx (⟨#[]⟩ : ByteArray), .lit (List.map eGAttr y5.1), .app 4 (List.map eGAction v13), .app 5 (List.map eGView v45)]), (3, .blk 75 [I y47.1.Kind, Sx v53, .lit (List.map eGAttr y47.1.Attrs), .lit (List.map eGAction y47.1.Actions), .lit (List.map eGView y47.1.Kids)]), (4, .tok 138 4 (List.length v13)), (5, .tok 75 5 (List.length v45))] 6)) (fun v61 h => ?_) (fun j54 Aj54 hj54 h => ?_)
  refine za [0, 1, 4, 6, 7, 8, 9, 10, 94] ?_
  refine zi h (fun h => ?_) fun h => ?_
  refine aw_out ?_
  refine zy fun _ => ?_
  refine zk 3 ?_
  refine rx_bs (e := 75) (sz := 5) (len := 1) (r := [I y47.1.Kind, Sx v53, .lit (List.map eGAttr y47.1.Attrs), .lit (List.map eGAction y47.1.Actions), .lit (List.map eGView y47.1.Kids)]) (l' := List.map eGView [(GView.mk y47.1.Kind v53 y47.1.Attrs y47.1.Actions y47.1.Kids)]) (nm := 11) (by kernel_rfl) (by simp only [List.map_cons, List.map_nil, eGView_eq]; kernel_rfl) (by kernel_rfl) (by kernel_rfl) rfl rfl rfl ?_
  obtain ⟨l62, he, h⟩ := bindE h
  refine rx_append (enc := eGView) (l := v45) (els := [(GView.mk y47.1.Kind v53 y47.1.Attrs y47.1.Actions y47.1.Kids)]) (r := l62) (old := some 5) (e := 75) (sz := 5) (bytes := 96) (k := (List.length v45)) (nm := 12) he (by kernel_rfl) (by kernel_rfl) (fun x => by rw [eGView_eq]; rfl) (by kernel_rfl) (by kernel_rfl) rfl rfl rfl ?_
  clear he
  refine zk 2 ?_
  refine x_last ?_
  exact via (zv [(0, 0), (1, 1), (2, 2), (4, 3), (12, 4)] [0, 1, 4, 6, 7, 8, 9] 5) (hj46 _ _ _ h)
  exact aw_views (zv [(0, 0), (1, 1), (2, 2), (4, 3), (5, 4)] [0, 1, 4, 6, 7, 8, 9] 5) (aw_skip (hj46 _ _ _ h))
  refine za [0, 1, 4, 6, 7, 8, 9, 10, 11, 12] ?_
  refine aw_block ?_
  refine aw_loopJ (fun n s => ∃ v56 v57, Src_view_L1 v45 v53 j54 p1 y14 y15 v42 v51 v52 v4 y5 v13 y47 n v56 v57 = some r ∧ s = mk [(0, .c (.ptr 0 0)), (1, .c (I p1)), (4, .c (.ptr 1 0)), (6, .c (.ptr 2 0)), (7, .c (I y14.1)), (8, .c (Bo (y15.1 == 0))), (9, .c (I v42)), (10, .c (.ptr 3 0)), (11, .c (Bo v56)), (12, .c (I v57))] [(0, .blk 90 [.lit (List.map eI64 v51), I v52]), (1, .blk 75 [I 0, Sx (⟨#[]⟩ : ByteArray), NilS, NilS, NilS]), (2, .blk 75 [I v4, Sx (⟨#[]⟩ : ByteArray), .lit (List.map eGAttr y5.1), .app 4 (List.map eGAction v13), .app 5 (List.map eGView v45)]), (3, .blk 75 [I y47.1.Kind, Sx v53, .lit (List.map eGAttr y47.1.Attrs), .lit (List.map eGAction y47.1.Actions), .lit (List.map eGView y47.1.Kids)]), (4, .tok 138 4 (List.length v13)), (5, .tok 75 5 (List.length v45))] 6) n _ (zv [(0, 0), (1, 1), (2, 2), (3, 3), (4, 4), (5, 5)] [0, 1, 4, 6, 7, 8, 9, 10, 11, 12] 6) ⟨_, _, h, rfl⟩ (fun s ⟨v56, v57, h, _⟩ => nomatch h) ?_
  rintro n s ⟨v56, v57, h, rfl⟩
  rw [Src_view_L1] at h
  refine aw_seq ?_
  refine zx fun _ => ?_
  refine zk 3 ?_
  refine zl eGView v45 ?_
  refine zk 1 ?_
  refine ze [0, 1, 4, 6, 7, 8, 9, 10, 11, 12, 73] ?_
  refine zi h (fun h => ?_) fun h => ?_
  refine aw_skip ?_
  refine aw_seq ?_
  refine aw_block ?_
  refine zdy [[], [0], [1, 0], [2, 1, 0], [3, 1, 2, 0], [4, 1, 3, 2, 0], [5, 4, 1, 3, 2, 0], [6, 5, 4, 1, 3, 2, 0], [5, 4, 1, 3, 2, 0], [7, 8, 5, 6, 4, 1, 3, 2, 0], [9, 5, 7, 8, 6, 4, 1, 3, 2, 0], [10, 5, 9, 7, 8, 6, 4, 1, 3, 2, 0], [5, 4, 1, 3, 2, 0], [12, 5, 4, 1, 3, 2, 0], [11, 13, 5, 10, 9, 7, 8, 6, 4, 1, 3, 2, 0, 12], [5, 14, 1, 4, 3, 2, 0, 11, 13, 10, 9, 7, 8, 6, 12], [1, 15, 0, 5, 14, 4, 3, 2, 11, 13, 10, 9, 7, 8, 6, 12], [16, 5, 0, 1, 2, 3, 4, 6, 7, 8, 9, 10, 11, 12, 13, 14, 15]] fun _ => ?_
  refine zk 2 ?_
  refine zE (.c (.ptr 3 1)) ?_
  refine zE (.c (Sx v53)) ?_
  refine zE (.c (Bo (!(sEq v53 (⟨#[]⟩ : ByteArray))))) ?_
  refine zF [(!v56)] (.c (Bo (!(sEq v53 (⟨#[]⟩ : ByteArray))))) ?_
  refine zE (.c (.ptr 2 4)) ?_
  refine zE (.c (.app 5 (List.map eGView v45))) ?_
  refine zE (.c (I v57)) ?_
  obtain ⟨e58, he, h⟩ := bindE h
  refine rx_E (e := [(!v56), (!(sEq v53 (⟨#[]⟩ : ByteArray)))]) [(83, .c (.app 5 (List.map eGView v45)), some 2), (84, .c (I v57), some 2)] (v := .c (.imm [I e58.Kind, Sx e58.Key, .lit (List.map eGAttr e58.Attrs), .lit (List.map eGAction e58.Actions), .lit (List.map eGView e58.Kids)])) (foot := []) (by kernel_rfl) (by kernel_rfl) (by kernel_rfl) (fun hg => rd_idx (enc := eGView) (sz := 5) (l := v45) (ix := v57) (gd_spec he hg) (by kernel_rfl) (eGView_eq e58) (by kernel_rfl)) rfl rfl ?_
  clear he
  refine zE (.c (.imm [Sx e58.Key, .lit (List.map eGAttr e58.Attrs), .lit (List.map eGAction e58.Actions), .lit (List.map eGView e58.Kids)])) ?_
  refine zE (.c (Sx e58.Key)) ?_
  refine zE (.c (.ptr 3 1)) ?_
  refine zE (.c (Sx v53)) ?_
  refine zE (.c (Bo (sEq e58.Key v53))) ?_
  refine zP (.bool ((!(sEq v53 (⟨#[]⟩ : ByteArray))) && (sEq e58.Key v53))) ?_
  refine zP (.bool (v56 || ((!(sEq v53 (⟨#[]⟩ : ByteArray))) && (sEq e58.Key v53)))) ?_
  refine zk 1 ?_
  refine x_last ?_
  refine aw_out ?_
  refine zb ?_
  exact via (zv [(0, 0), (1, 1), (2, 2), (3, 3), (4, 4), (5, 5)] [0, 1, 4, 6, 7, 8, 9, 10, 11, 12] 6) (⟨_, _, h, rfl⟩)
  exact aw_views (zv [(0, 0), (1, 1), (2, 2), (3, 3), (4, 4), (5, 5)] [0, 1, 4, 6, 7, 8, 9, 10, 11] 6) (aw_exit (hj54 _ h))
  refine zx fun _ => ?_
  refine zk 2 ?_
  refine zE (.c (.ptr 0 0)) ?_
  obtain ⟨y49, he, h⟩ := bindE h
  refine rx_EcallO (e := [(!(y15.1 == 0))]) [(58, .c (.ptr 0 0), some 1)] (F := 20) (As := [.c (.ptr 0 0), .c (I 3)]) (Bs := [.c (.ptr 0 0), .c (I 3)]) (σ := [(0, 0)]) (k := 1) (Gc := [(0, .blk 90 [.lit (List.map eI64 y47.2.L), I y47.2.At])]) (Gf := [(0, .blk 90 [.lit (List.map eI64 y49.2.L), I y49.2.At])]) (r := .c (I y49.1)) (v := .c (I y49.1)) (by kernel_rfl) (by kernel_rfl) (by kernel_rfl) (by kernel_rfl) (by kernel_rfl) (by kernel_rfl) fok20 ⟨.inr ⟨(by kernel_rfl), (by kernel_rfl)⟩, ⟨.inl (by kernel_rfl), trivial⟩⟩ (fun hg => Src_N_ok n _ _ y49 (ifO_t he hg)) (by kernel_rfl) (by kernel_rfl) (by kernel_rfl) (fun hg => by rw [ifO_f he hg]; kernel_rfl) (by kernel_rfl) rfl rfl rfl ?_
  clear he
  refine zE (.c (Bo (y49.1 == 0))) ?_
  refine zP (.bool ((y15.1 == 0) || (y49.1 == 0))) ?_
  refine ze [0, 1, 4, 6, 7, 8, 9, 10, 61] ?_
  refine zi h (fun h => ?_) fun h => ?_
  refine aw_out ?_
  refine zy fun _ => ?_
  refine zk 1 ?_
  obtain ⟨y50, he, h⟩ := bindE h
  refine zo [(0, 0)] fok20 (Src_N_ok n _ _ y50 he) ?_
  clear he
  refine zk 3 ?_
  refine zw (v := .c (Sx (bytesText [107, (IntKind.wrap .u8 (IntKind.wrap .i64 (97 + y50.1)))]))) [] (rdW_bytesText (ns := [107, (IntKind.wrap .u8 (IntKind.wrap .i64 (97 + y50.1)))]) (by kernel_rfl)) ?_
  refine zk 2 ?_
  refine x_last ?_
  exact via (zv [(0, 0), (1, 1), (2, 2), (12, 3), (3, 4), (4, 5)] [0, 1, 4, 6, 7, 8, 9, 10] 6) (hj48 _ _ _ h)
  exact aw_views (zv [(0, 0), (1, 1), (2, 2), (12, 3), (3, 4), (4, 5)] [0, 1, 4, 6, 7, 8, 9, 10] 6) (aw_skip (hj48 _ _ _ h))
  exact aw_views (zv [(0, 0), (1, 1), (2, 2), (3, 3), (4, 4)] [4, 6] 5) (aw_exit (hj16 _ _ _ h))
  refine zx fun _ => ?_
  refine zk 1 ?_
  obtain ⟨y7, he, h⟩ := bindE h
  refine zo [(0, 0)] fok20 (Src_N_ok n _ _ y7 he) ?_
  clear he
  refine zk 1 ?_
  refine ze [0, 1, 4, 6, 32] ?_
  refine zi h (fun h => ?_) fun h => ?_
  refine aw_out ?_
  refine zy fun _ => ?_
  refine zk 1 ?_
  obtain ⟨y8, he, h⟩ := bindE h
  refine zo [(0, 0)] fok63 (Src_Value_ok n _ _ y8 he) ?_
  clear he
  refine rx_bs (e := 70) (sz := 4) (len := 1) (r := [I y8.1.Kind, I y8.1.N, Sx y8.1.S, .lit (List.map eGValue y8.1.L)]) (l' := List.map eGValue [y8.1]) (nm := 14) (by kernel_rfl) (by simp only [List.map_cons, List.map_nil, eGValue_eq]; kernel_rfl) (by kernel_rfl) (by kernel_rfl) rfl rfl rfl ?_
  refine zk 4 ?_
  refine x_last ?_
  exact via (zv [(0, 0), (1, 1), (2, 2), (16, 3)] [0, 1, 4, 6] 4) (hj6 _ _ _ h)
  exact aw_views (Views.trans (view_nilC (n := 2) (T0 := 75) (l := [I v4, Sx (⟨#[]⟩ : ByteArray), .lit (List.map eGAttr y5.1), NilS, NilS]) (G2 := [(0, .blk 90 [.lit (List.map eI64 y7.2.L), I y7.2.At]), (1, .blk 75 [I 0, Sx (⟨#[]⟩ : ByteArray), NilS, NilS, NilS]), (2, .blk 75 [I v4, Sx (⟨#[]⟩ : ByteArray), .lit (List.map eGAttr y5.1), .app 12 (List.map eGAction ([] : List GAction)), NilS]), (12, .tok 138 4 (List.length ([] : List GAction)))]) (lim2 := 13) 3 138 4 (by kernel_rfl) (by kernel_rfl) (by kernel_rfl) (by kernel_rfl)) (zv [(0, 0), (1, 1), (2, 2), (12, 3)] [0, 1, 4, 6] 4)) (aw_skip (hj6 _ _ _ h))
  refine za [0, 1, 4, 6, 23] ?_
  refine zi h (fun h => ?_) fun h => ?_
  refine aw_out ?_
  refine zb ?_
  exact via (zv [(0, 0), (1, 1), (12, 2)] [0, 1, 4, 6] 3) (hj3 _ h)
  exact aw_views (zv [(0, 0), (1, 1), (12, 2)] [0, 1, 4, 6] 3) (aw_skip (hj3 _ h))
def Src_view : Nat → GSrc → Int → Option (GView × GSrc)
  | 0, _, _ => none
  | n + 1, p0, p1 => Src_view_body (fun a0 a1 => Src_view n a0 a1) n p0 p1
theorem Src_view_ok (n : Nat) : (∀ (p0 : GSrc) (p1 : Int) (r : (GView × GSrc)), Src_view n p0 p1 = some r → FnD E 50 1 [.c (.ptr 0 0), .c (I p1)] [(0, .blk 90 [.lit (List.map eI64 p0.L), I p0.At])] (.agg [I r.1.Kind, Sx r.1.Key, .lit (List.map eGAttr r.1.Attrs), .lit (List.map eGAction r.1.Actions), .lit (List.map eGView r.1.Kids)]) [(0, .blk 90 [.lit (List.map eI64 r.2.L), I r.2.At])]) := by
  induction n with
  | zero => intro p0 p1 r h; rw [Src_view] at h; cases h
  | succ n ih => intro p0 p1 r h; rw [Src_view] at h; exact Src_view_body_ok _ ih n _ _ r h
def Src_View  (n : Nat) (p0 : GSrc) (p1 : Int) : Option (GView × GSrc) := (Src_view n p0 p1).bind fun (y1 : (GView × GSrc)) => (ref14_Validate n y1.1).bind fun (y2 : Int) => (if (y2 != 0) = true then some ((GView.mk 1 (⟨#[]⟩ : ByteArray) ([] : List GAttr) ([] : List GAction) ([] : List GView)), y1.2) else some (y1.1, y1.2))
theorem Src_View_ok  (n : Nat) (p0 : GSrc) (p1 : Int) (r : (GView × GSrc)) (h : Src_View n p0 p1 = some r) : FnD E 35 1 [.c (.ptr 0 0), .c (I p1)] [(0, .blk 90 [.lit (List.map eI64 p0.L), I p0.At])] (.agg [I r.1.Kind, Sx r.1.Key, .lit (List.map eGAttr r.1.Attrs), .lit (List.map eGAction r.1.Actions), .lit (List.map eGView r.1.Kids)]) [(0, .blk 90 [.lit (List.map eI64 r.2.L), I r.2.At])] := by
  refine zfn Tryd.func35 rfl ?_
  unfold Src_View at h
  refine za [0, 1, 4] ?_
  refine zx fun _ => ?_
  refine zk 2 ?_
  obtain ⟨y1, he, h⟩ := bindE h
  refine zo [(0, 0)] fok50 (Src_view_ok n _ _ y1 he) ?_
  clear he
  refine zk 2 ?_
  refine ze [4, 5] ?_
  refine aw_seq ?_
  refine zx fun _ => ?_
  refine zk 1 ?_
  obtain ⟨y2, he, h⟩ := bindE h
  refine zc fok47 (ref14_Validate_ok n _ y2 he) ?_
  clear he
  refine zk 1 ?_
  refine ze [4, 5, 11] ?_
  refine zi h (fun h => ?_) fun h => ?_
  refine za [4] ?_
  cases h
  exact aw_ret zr
  refine aw_skip ?_
  refine za [4] ?_
  cases h
  exact aw_ret zr
def Src_Tree  (n : Nat) (p0 : GSrc) (p1 : Int) : Option (GTree × GSrc) := (Src_View n p0 p1).bind fun (y1 : (GView × GSrc)) => (Src_Range n y1.2 1 5).bind fun (y2 : (Int × GSrc)) => (ref14_Build n y1.1 y2.1).bind fun (y3 : (GTree × Int)) => some (y3.1, y2.2)
theorem Src_Tree_ok  (n : Nat) (p0 : GSrc) (p1 : Int) (r : (GTree × GSrc)) (h : Src_Tree n p0 p1 = some r) : FnD E 22 1 [.c (.ptr 0 0), .c (I p1)] [(0, .blk 90 [.lit (List.map eI64 p0.L), I p0.At])] (.agg [I r.1.Root, I r.1.Next, .lit (List.map eGNode r.1.Nodes)]) [(0, .blk 90 [.lit (List.map eI64 r.2.L), I r.2.At])] := by
  refine zfn Tryd.func22 rfl ?_
  unfold Src_Tree at h
  refine za [0, 1, 4] ?_
  refine zx fun _ => ?_
  refine zk 2 ?_
  obtain ⟨y1, he, h⟩ := bindE h
  refine zo [(0, 0)] fok35 (Src_View_ok n _ _ y1 he) ?_
  clear he
  refine zk 1 ?_
  obtain ⟨y2, he, h⟩ := bindE h
  refine zo [(0, 0)] fok21 (Src_Range_ok n _ _ _ y2 he) ?_
  clear he
  obtain ⟨y3, he, h⟩ := bindE h
  refine zc fok27 (ref14_Build_ok n _ _ y3 he) ?_
  clear he
  refine zk 6 ?_
  refine ze [4, 5] ?_
  refine za [4] ?_
  cases h
  exact aw_ret zr
def Src_Mode  (n : Nat) (p0 : GSrc) : Option (GMode × GSrc) := (Src_N n p0 2).bind fun (y1 : (Int × GSrc)) => (Src_N n y1.2 2).bind fun (y2 : (Int × GSrc)) => (Src_N n y2.2 5).bind fun (y3 : (Int × GSrc)) => (idx [100, 100, 50, 150, 400] y3.1).bind fun (e4 : Int) => some ((GMode.mk (y1.1 == 1) (y2.1 == 1) e4), y3.2)
theorem Src_Mode_ok  (n : Nat) (p0 : GSrc) (r : (GMode × GSrc)) (h : Src_Mode n p0 = some r) : FnD E 23 1 [.c (.ptr 0 0)] [(0, .blk 90 [.lit (List.map eI64 p0.L), I p0.At])] (.agg [Bo r.1.Dark, Bo r.1.High, I r.1.Scale]) [(0, .blk 90 [.lit (List.map eI64 r.2.L), I r.2.At])] := by
  refine zfn Tryd.func23 rfl ?_
  unfold Src_Mode at h
  refine za [0, 2] ?_
  refine zx fun _ => ?_
  refine zk 1 ?_
  obtain ⟨y1, he, h⟩ := bindE h
  refine zo [(0, 0)] fok20 (Src_N_ok n _ _ y1 he) ?_
  clear he
  refine zk 2 ?_
  obtain ⟨y2, he, h⟩ := bindE h
  refine zo [(0, 0)] fok20 (Src_N_ok n _ _ y2 he) ?_
  clear he
  refine zk 3 ?_
  obtain ⟨y3, he, h⟩ := bindE h
  refine zo [(0, 0)] fok20 (Src_N_ok n _ _ y3 he) ?_
  clear he
  obtain ⟨e4, he, h⟩ := bindE h
  refine zd eI64 he ?_
  clear he
  refine zk 3 ?_
  refine ze [2] ?_
  cases h
  exact aw_ret zr
def ref17_Find_L0 (p0 : (List GStyled)) (p1 : Int) (j1 : Unit → Option A22_Int) : Nat → Int → Option A22_Int
  | 0, _ => none
  | n + 1, v4 => (if (decide (v4 < (List.length p0 : Int))) = true then (idx p0 v4).bind fun (e5 : GStyled) => (if (e5.ID == p1) = true then (idx p0 v4).bind fun (e6 : GStyled) => some e6.Style else ref17_Find_L0 p0 p1 j1 n (IntKind.wrap .i64 (v4 + 1))) else j1 ())
def ref17_Find  (n : Nat) (p0 : (List GStyled)) (p1 : Int) : Option A22_Int := (withJ (fun (_ : Unit) => some (A22_Int.mk 0 0 0 0 0 0 0 0 0 0 0 0 0 0 0 0 0 0 0 0 0 0)) (fun (j1 : Unit → Option A22_Int) => ref17_Find_L0 p0 p1 j1 n 0))
theorem ref17_Find_ok  (n : Nat) (p0 : (List GStyled)) (p1 : Int) (r : A22_Int) (h : ref17_Find n p0 p1 = some r) : FnD E 26 0 [.c (.lit (List.map eGStyled p0)), .c (I p1)] [] (.agg [I r.x0, I r.x1, I r.x2, I r.x3, I r.x4, I r.x5, I r.x6, I r.x7, I r.x8, I r.x9, I r.x10, I r.x11, I r.x12, I r.x13, I r.x14, I r.x15, I r.x16, I r.x17, I r.x18, I r.x19, I r.x20, I r.x21]) [] := by
  refine zfn Tryd.func26 rfl ?_
  unfold ref17_Find at h
  refine za [0, 1, 4] ?_
  refine aw_join h (fun A j => ∀ u, j u = some r → A (mk [(4, .c (.ptr 0 0))] [(0, .blk 25 [I 0, I 0, I 0, I 0, I 0, I 0, I 0, I 0, I 0, I 0, I 0, I 0, I 0, I 0, I 0, I 0, I 0, I 0, I 0, I 0, I 0, I 0])] 1)) (fun u h => ?_) (fun j1 Aj1 hj1 h => ?_)
  refine za [4] ?_
  cases h
  exact aw_ret zr
  refine za [0, 1, 4, 5] ?_
  refine aw_block ?_
  refine aw_loopJ (fun n s => ∃ v4, ref17_Find_L0 p0 p1 j1 n v4 = some r ∧ s = mk [(0, .c (.lit (List.map eGStyled p0))), (1, .c (I p1)), (4, .c (.ptr 0 0)), (5, .c (I v4))] [(0, .blk 25 [I 0, I 0, I 0, I 0, I 0, I 0, I 0, I 0, I 0, I 0, I 0, I 0, I 0, I 0, I 0, I 0, I 0, I 0, I 0, I 0, I 0, I 0])] 1) n _ (zv [(0, 0)] [0, 1, 4, 5] 1) ⟨_, h, rfl⟩ (fun s ⟨v4, h, _⟩ => nomatch h) ?_
  rintro n s ⟨v4, h, rfl⟩
  rw [ref17_Find_L0] at h
  refine aw_seq ?_
  refine zx fun _ => ?_
  refine zk 2 ?_
  refine zl eGStyled p0 ?_
  refine zk 1 ?_
  refine ze [0, 1, 4, 5, 9] ?_
  refine zi h (fun h => ?_) fun h => ?_
  refine aw_skip ?_
  refine aw_seq ?_
  refine aw_block ?_
  refine zx fun _ => ?_
  refine zk 2 ?_
  obtain ⟨e5, he, h⟩ := bindE h
  refine zd eGStyled he ?_
  clear he
  refine zk 4 ?_
  refine ze [0, 1, 4, 5, 18] ?_
  refine zi h (fun h => ?_) fun h => ?_
  refine zx fun _ => ?_
  refine zk 2 ?_
  obtain ⟨e6, he, h⟩ := bindE h
  refine zd eGStyled he ?_
  clear he
  refine zk 3 ?_
  refine ze [4] ?_
  cases h
  exact aw_ret zr
  refine aw_skip ?_
  refine aw_out ?_
  refine zb ?_
  exact via (zv [(0, 0)] [0, 1, 4, 5] 1) (⟨_, h, rfl⟩)
  exact aw_views (zv [(0, 0)] [4] 1) (aw_exit (hj1 _ h))
def law17_StyleInherits_L0 (y6 : ((List GStyled) × Int)) (y3 : (GMode × GSrc)) (y2 : (GTree × GSrc)) (y5 : (Int × GSrc)) (y4 : (Int × GSrc)) (j7 : Unit → Option Bool) : Nat → Int → Option Bool
  | 0, _ => none
  | n + 1, v21 => (if (decide (v21 < (List.length y6.1 : Int))) = true then (theme_Size n y3.1 16).bind fun (y22 : Int) => (withJ (fun (v27 : Int) => (withJ (fun (v32 : Int) (v33 : Int) => (idx y6.1 v21).bind fun (e34 : GStyled) => (if (((((e34.Style.x2 != v32) || (e34.Style.x9 != v33)) || (e34.Style.x0 != 0)) || (e34.Style.x1 != (-1 : Int))) || (e34.Style.x11 != 1)) = true then some false else law17_StyleInherits_L0 y6 y3 y2 y5 y4 j7 n (IntKind.wrap .i64 (v21 + 1)))) (fun (j28 : Int → Int → Option Bool) => (idx y2.1.Nodes v21).bind fun (e29 : GNode) => (idx [(GRule.mk y5.1 (⟨#[]⟩ : ByteArray) 0 0 (⟨#[]⟩ : ByteArray) [(GDecl.mk 2 0 y4.1 (⟨#[]⟩ : ByteArray)), (GDecl.mk 9 0 5 (⟨#[]⟩ : ByteArray))])] 0).bind fun (e30 : GRule) => (if (e29.Kind == e30.Kind) = true then (theme_Size n y3.1 y4.1).bind fun (y31 : Int) => j28 y31 5 else j28 v27 0)))) (fun (j23 : Int → Option Bool) => (idx y2.1.Nodes v21).bind fun (e24 : GNode) => (if (e24.Parent != 0) = true then (idx y2.1.Nodes v21).bind fun (e25 : GNode) => (ref17_Find n y6.1 e25.Parent).bind fun (y26 : A22_Int) => j23 y26.x2 else j23 y22))) else j7 ())
def law17_StyleInherits  (n : Nat) (p0 : (List Int)) : Option Bool := (base_New n p0).bind fun (y1 : GSrc) => (Src_Tree n y1 3).bind fun (y2 : (GTree × GSrc)) => (Src_Mode n y2.2).bind fun (y3 : (GMode × GSrc)) => (Src_Range n y3.2 1 60).bind fun (y4 : (Int × GSrc)) => (Src_Range n y4.2 1 13).bind fun (y5 : (Int × GSrc)) => (style_Cascade n (GSheet.mk [(GRule.mk y5.1 (⟨#[]⟩ : ByteArray) 0 0 (⟨#[]⟩ : ByteArray) [(GDecl.mk 2 0 y4.1 (⟨#[]⟩ : ByteArray)), (GDecl.mk 9 0 5 (⟨#[]⟩ : ByteArray))])]) (GTheme.mk ([] : List GToken)) y3.1 y2.1 ([] : List GNodeStates)).bind fun (y6 : ((List GStyled) × Int)) => (if ((y6.2 != 0) || ((List.length y6.1 : Int) != (List.length y2.1.Nodes : Int))) = true then some false else (withJ (fun (_ : Unit) => (law17_awake n).bind fun (y36 : Bool) => some y36) (fun (j7 : Unit → Option Bool) => law17_StyleInherits_L0 y6 y3 y2 y5 y4 j7 n 0)))
theorem law17_StyleInherits_ok  (n : Nat) (p0 : (List Int)) (r : Bool) (h : law17_StyleInherits n p0 = some r) : FnD E 6 0 [.c (.lit (List.map eI64 p0))] [] (.c (Bo r)) [] := by
  refine zfn Tryd.func6 rfl ?_
  unfold law17_StyleInherits at h
  refine za [0] ?_
  refine zx fun _ => ?_
  refine zk 1 ?_
  obtain ⟨y1, he, h⟩ := bindE h
  refine rx_callN (F := 18) (As := [.c (.lit (List.map eI64 p0))]) (Bs := [.c (.lit (List.map eI64 p0))]) (σ := [(0, 2)]) (k := 0) (kn := 0) (nm := 2) (Gc := []) (Gf := [(0, .blk 90 [.lit (List.map eI64 y1.L), I y1.At])]) (r := .c (.ptr 0 0)) (v := .c (.ptr 2 0)) (by kernel_rfl) fok18 ⟨.inl (by kernel_rfl), trivial⟩ (base_New_ok n _ y1 he) (by kernel_rfl) (by kernel_rfl) (by kernel_rfl) (by kernel_rfl) (by kernel_rfl) (by kernel_rfl) rfl rfl rfl ?_
  clear he
  refine zk 1 ?_
  refine ze [3] ?_
  refine zx fun _ => ?_
  refine zk 1 ?_
  obtain ⟨y2, he, h⟩ := bindE h
  refine zo [(0, 2)] fok22 (Src_Tree_ok n _ _ y2 he) ?_
  clear he
  refine zk 2 ?_
  refine ze [3, 4] ?_
  refine zx fun _ => ?_
  refine zk 1 ?_
  obtain ⟨y3, he, h⟩ := bindE h
  refine zo [(0, 2)] fok23 (Src_Mode_ok n _ y3 he) ?_
  clear he
  refine zk 2 ?_
  refine zee [3, 4, 5] (L2 := [(3, .c (.ptr 2 0)), (4, .c (.ptr 6 0)), (5, .c (.ptr 10 0))]) (G2 := [(2, .blk 90 [.lit (List.map eI64 y3.2.L), I y3.2.At]), (6, .blk 49 [I y2.1.Root, I y2.1.Next, .lit (List.map eGNode y2.1.Nodes)]), (10, .blk 52 [Bo y3.1.Dark, Bo y3.1.High, I y3.1.Scale])]) 12 ?_
  refine zx fun _ => ?_
  refine zk 1 ?_
  obtain ⟨y4, he, h⟩ := bindE h
  refine zo [(0, 2)] fok21 (Src_Range_ok n _ _ _ y4 he) ?_
  clear he
  refine zk 1 ?_
  refine ze [3, 4, 5, 6] ?_
  refine zx fun _ => ?_
  refine zk 1 ?_
  obtain ⟨y5, he, h⟩ := bindE h
  refine zo [(0, 2)] fok21 (Src_Range_ok n _ _ _ y5 he) ?_
  clear he
  refine zk 9 ?_
  refine ze [4, 5, 6, 7] ?_
  refine zx fun _ => ?_
  refine zk 4 ?_
  obtain ⟨y6, he, h⟩ := bindE h
  refine zc fok24 (style_Cascade_ok n _ _ _ _ _ y6 he) ?_
  clear he
  refine zk 5 ?_
  refine ze [4, 5, 6, 7, 8, 9] ?_
  refine aw_seq ?_
  refine zx fun _ => ?_
  refine zk 3 ?_
  refine zE (.c (.lit (List.map eGStyled y6.1))) ?_
  refine rx_E (e := [(!(y6.2 != 0))]) [(42, .c (.lit (List.map eGStyled y6.1)), some 1)] (v := .c (I (List.length y6.1 : Int))) (foot := []) (by kernel_rfl) (by kernel_rfl) (by kernel_rfl) (fun hg => rd_len (enc := eGStyled) (l := y6.1) (by kernel_rfl)) rfl rfl ?_
  refine zE (.c (.ptr 6 2)) ?_
  refine zE (.c (.lit (List.map eGNode y2.1.Nodes))) ?_
  refine rx_E (e := [(!(y6.2 != 0))]) [(45, .c (.lit (List.map eGNode y2.1.Nodes)), some 1)] (v := .c (I (List.length y2.1.Nodes : Int))) (foot := []) (by kernel_rfl) (by kernel_rfl) (by kernel_rfl) (fun hg => rd_len (enc := eGNode) (l := y2.1.Nodes) (by kernel_rfl)) rfl rfl ?_
  refine zE (.c (Bo ((List.length y6.1 : Int) != (List.length y2.1.Nodes : Int)))) ?_
  refine zP (.bool ((y6.2 != 0) || ((List.length y6.1 : Int) != (List.length y2.1.Nodes : Int)))) ?_
  refine zee [4, 5, 6, 7, 8, 48] (L2 := [(4, .c (.ptr 6 0)), (5, .c (.ptr 10 0)), (6, .c (I y4.1)), (7, .c (.ptr 24 0)), (8, .c (.lit (List.map eGStyled y6.1))), (48, .c (Bo ((y6.2 != 0) || ((List.length y6.1 : Int) != (List.length y2.1.Nodes : Int)))))]) (G2 := [(2, .blk 90 [.lit (List.map eI64 y5.2.L), I y5.2.At]), (6, .blk 49 [I y2.1.Root, I y2.1.Next, .lit (List.map eGNode y2.1.Nodes)]), (10, .blk 52 [Bo y3.1.Dark, Bo y3.1.High, I y3.1.Scale]), (20, .tok 45 4 (List.length [(GDecl.mk 2 0 y4.1 (⟨#[]⟩ : ByteArray)), (GDecl.mk 9 0 5 (⟨#[]⟩ : ByteArray))])), (22, .tok 33 6 (List.length [(GRule.mk y5.1 (⟨#[]⟩ : ByteArray) 0 0 (⟨#[]⟩ : ByteArray) [(GDecl.mk 2 0 y4.1 (⟨#[]⟩ : ByteArray)), (GDecl.mk 9 0 5 (⟨#[]⟩ : ByteArray))])])), (24, .blk 30 [.app 22 (List.map eGRule [(GRule.mk y5.1 (⟨#[]⟩ : ByteArray) 0 0 (⟨#[]⟩ : ByteArray) [(GDecl.mk 2 0 y4.1 (⟨#[]⟩ : ByteArray)), (GDecl.mk 9 0 5 (⟨#[]⟩ : ByteArray))])])])]) 46 ?_
  refine zi h (fun h => ?_) fun h => ?_
  refine za [2] ?_
  cases h
  exact aw_ret zr
  refine aw_skip ?_
  refine aw_join h (fun A j => ∀ u, j u = some r → A (mk [] [] 0)) (fun u h => ?_) (fun j7 Aj7 hj7 h => ?_)
  refine zx fun _ => ?_
  obtain ⟨y36, he, h⟩ := bindE h
  refine zc fok15 (law17_awake_ok n  y36 he) ?_
  clear he
  refine zk 1 ?_
  refine ze [2] ?_
  cases h
  exact aw_ret zr
  refine za [4, 5, 6, 7, 8, 10] ?_
  refine aw_block ?_
  refine aw_loopJ (fun n s => ∃ v21, law17_StyleInherits_L0 y6 y3 y2 y5 y4 j7 n v21 = some r ∧ s = mk [(4, .c (.ptr 0 0)), (5, .c (.ptr 1 0)), (6, .c (I y4.1)), (7, .c (.ptr 2 0)), (8, .c (.lit (List.map eGStyled y6.1))), (10, .c (I v21))] [(0, .blk 49 [I y2.1.Root, I y2.1.Next, .lit (List.map eGNode y2.1.Nodes)]), (1, .blk 52 [Bo y3.1.Dark, Bo y3.1.High, I y3.1.Scale]), (2, .blk 30 [.app 3 (List.map eGRule [(GRule.mk y5.1 (⟨#[]⟩ : ByteArray) 0 0 (⟨#[]⟩ : ByteArray) [(GDecl.mk 2 0 y4.1 (⟨#[]⟩ : ByteArray)), (GDecl.mk 9 0 5 (⟨#[]⟩ : ByteArray))])])]), (3, .tok 33 6 (List.length [(GRule.mk y5.1 (⟨#[]⟩ : ByteArray) 0 0 (⟨#[]⟩ : ByteArray) [(GDecl.mk 2 0 y4.1 (⟨#[]⟩ : ByteArray)), (GDecl.mk 9 0 5 (⟨#[]⟩ : ByteArray))])]))] 4) n _ (zv [(6, 0), (10, 1), (24, 2), (22, 3)] [4, 5, 6, 7, 8, 10] 4) ⟨_, h, rfl⟩ (fun s ⟨v21, h, _⟩ => nomatch h) ?_
  rintro n s ⟨v21, h, rfl⟩
  rw [law17_StyleInherits_L0] at h
  refine aw_seq ?_
  refine zx fun _ => ?_
  refine zk 2 ?_
  refine zl eGStyled y6.1 ?_
  refine zk 1 ?_
  refine ze [4, 5, 6, 7, 8, 10, 52] ?_
  refine zi h (fun h => ?_) fun h => ?_
  refine aw_skip ?_
  refine aw_seq ?_
  refine aw_block ?_
  refine zx fun _ => ?_
  refine zk 1 ?_
  obtain ⟨y22, he, h⟩ := bindE h
  refine zc fok25 (theme_Size_ok n _ _ y22 he) ?_
  clear he
  refine zk 2 ?_
  refine ze [4, 5, 6, 7, 8, 10, 11, 12] ?_
  refine aw_join h (fun A j => ∀ v27, j v27 = some r → A (mk [(4, .c (.ptr 0 0)), (5, .c (.ptr 1 0)), (6, .c (I y4.1)), (7, .c (.ptr 2 0)), (8, .c (.lit (List.map eGStyled y6.1))), (10, .c (I v21)), (11, .c (I v27)), (12, .c (I 0))] [(0, .blk 49 [I y2.1.Root, I y2.1.Next, .lit (List.map eGNode y2.1.Nodes)]), (1, .blk 52 [Bo y3.1.Dark, Bo y3.1.High, I y3.1.Scale]), (2, .blk 30 [.app 3 (List.map eGRule [(GRule.mk y5.1 (⟨#[]⟩ : ByteArray) 0 0 (⟨#[]⟩ : ByteArray) [(GDecl.mk 2 0 y4.1 (⟨#[]⟩ : ByteArray)), (GDecl.mk 9 0 5 (⟨#[]⟩ : ByteArray))])])]), (3, .tok 33 6 (List.length [(GRule.mk y5.1 (⟨#[]⟩ : ByteArray) 0 0 (⟨#[]⟩ : ByteArray) [(GDecl.mk 2 0 y4.1 (⟨#[]⟩ : ByteArray)), (GDecl.mk 9 0 5 (⟨#[]⟩ : ByteArray))])]))] 4)) (fun v27 h => ?_) (fun j23 Aj23 hj23 h => ?_)
  refine aw_join h (fun A j => ∀ v32 v33, j v32 v33 = some r → A (mk [(4, .c (.ptr 0 0)), (5, .c (.ptr 1 0)), (6, .c (I y4.1)), (7, .c (.ptr 2 0)), (8, .c (.lit (List.map eGStyled y6.1))), (10, .c (I v21)), (11, .c (I v32)), (12, .c (I v33))] [(0, .blk 49 [I y2.1.Root, I y2.1.Next, .lit (List.map eGNode y2.1.Nodes)]), (1, .blk 52 [Bo y3.1.Dark, Bo y3.1.High, I y3.1.Scale]), (2, .blk 30 [.app 3 (List.map eGRule [(GRule.mk y5.1 (⟨#[]⟩ : ByteArray) 0 0 (⟨#[]⟩ : ByteArray) [(GDecl.mk 2 0 y4.1 (⟨#[]⟩ : ByteArray)), (GDecl.mk 9 0 5 (⟨#[]⟩ : ByteArray))])])]), (3, .tok 33 6 (List.length [(GRule.mk y5.1 (⟨#[]⟩ : ByteArray) 0 0 (⟨#[]⟩ : ByteArray) [(GDecl.mk 2 0 y4.1 (⟨#[]⟩ : ByteArray)), (GDecl.mk 9 0 5 (⟨#[]⟩ : ByteArray))])]))] 4)) (fun v32 v33 h => ?_) (fun j28 Aj28 hj28 h => ?_)
  refine zx fun _ => ?_
  refine zk 2 ?_
  obtain ⟨e34, he, h⟩ := bindE h
  refine zd eGStyled he ?_
  clear he
  refine zk 4 ?_
  refine ze [4, 5, 6, 7, 8, 10, 11, 12, 13] ?_
  refine zx fun _ => ?_
  refine zk 5 ?_
  refine zE (.c (.ptr 9 9)) ?_
  refine zE (.c (I e34.Style.x9)) ?_
  refine zE (.c (I v33)) ?_
  refine zE (.c (Bo (e34.Style.x9 != v33))) ?_
  refine zP (.bool ((e34.Style.x2 != v32) || (e34.Style.x9 != v33))) ?_
  refine zk 1 ?_
  refine zE (.c (.ptr 9 0)) ?_
  refine zE (.c (I e34.Style.x0)) ?_
  refine zE (.c (Bo (e34.Style.x0 != 0))) ?_
  refine zP (.bool (((e34.Style.x2 != v32) || (e34.Style.x9 != v33)) || (e34.Style.x0 != 0))) ?_
  refine zk 1 ?_
  refine zE (.c (.ptr 9 1)) ?_
  refine zE (.c (I e34.Style.x1)) ?_
  refine zE (.c (Bo (e34.Style.x1 != (-1 : Int)))) ?_
  refine zP (.bool ((((e34.Style.x2 != v32) || (e34.Style.x9 != v33)) || (e34.Style.x0 != 0)) || (e34.Style.x1 != (-1 : Int)))) ?_
  refine zk 1 ?_
  refine zE (.c (.ptr 9 11)) ?_
  refine zE (.c (I e34.Style.x11)) ?_
  refine zE (.c (Bo (e34.Style.x11 != 1))) ?_
  refine zP (.bool (((((e34.Style.x2 != v32) || (e34.Style.x9 != v33)) || (e34.Style.x0 != 0)) || (e34.Style.x1 != (-1 : Int))) || (e34.Style.x11 != 1))) ?_
  refine zee [4, 5, 6, 7, 8, 10, 117] (L2 := [(4, .c (.ptr 0 0)), (5, .c (.ptr 1 0)), (6, .c (I y4.1)), (7, .c (.ptr 2 0)), (8, .c (.lit (List.map eGStyled y6.1))), (10, .c (I v21)), (117, .c (Bo (((((e34.Style.x2 != v32) || (e34.Style.x9 != v33)) || (e34.Style.x0 != 0)) || (e34.Style.x1 != (-1 : Int))) || (e34.Style.x11 != 1))))]) (G2 := [(0, .blk 49 [I y2.1.Root, I y2.1.Next, .lit (List.map eGNode y2.1.Nodes)]), (1, .blk 52 [Bo y3.1.Dark, Bo y3.1.High, I y3.1.Scale]), (2, .blk 30 [.app 3 (List.map eGRule [(GRule.mk y5.1 (⟨#[]⟩ : ByteArray) 0 0 (⟨#[]⟩ : ByteArray) [(GDecl.mk 2 0 y4.1 (⟨#[]⟩ : ByteArray)), (GDecl.mk 9 0 5 (⟨#[]⟩ : ByteArray))])])]), (3, .tok 33 6 (List.length [(GRule.mk y5.1 (⟨#[]⟩ : ByteArray) 0 0 (⟨#[]⟩ : ByteArray) [(GDecl.mk 2 0 y4.1 (⟨#[]⟩ : ByteArray)), (GDecl.mk 9 0 5 (⟨#[]⟩ : ByteArray))])])), (9, .blk 25 [I e34.Style.x0, I e34.Style.x1, I e34.Style.x2, I e34.Style.x3, I e34.Style.x4, I e34.Style.x5, I e34.Style.x6, I e34.Style.x7, I e34.Style.x8, I e34.Style.x9, I e34.Style.x10, I e34.Style.x11, I e34.Style.x12, I e34.Style.x13, I e34.Style.x14, I e34.Style.x15, I e34.Style.x16, I e34.Style.x17, I e34.Style.x18, I e34.Style.x19, I e34.Style.x20, I e34.Style.x21])]) 36 ?_
  refine zi h (fun h => ?_) fun h => ?_
  refine za [2] ?_
  cases h
  exact aw_ret zr
  refine aw_skip ?_
  refine aw_out ?_
  refine zb ?_
  exact via (zv [(0, 0), (1, 1), (2, 2), (3, 3)] [4, 5, 6, 7, 8, 10] 4) (⟨_, h, rfl⟩)
  refine zdx [[], [0], [], [1, 2, 0], [3, 1, 2, 0], [4, 3, 1, 2, 0], [], [6], [7, 6], [8, 7, 6], [9, 8, 7, 6], [5, 10, 4, 3, 1, 2, 0, 9, 8, 7, 6]] fun _ => ?_
  refine zk 3 ?_
  obtain ⟨e29, he, h⟩ := bindE h
  refine zd eGNode he ?_
  clear he
  refine zk 4 ?_
  obtain ⟨e30, he, h⟩ := bindE h
  refine zd eGRule he ?_
  clear he
  refine zk 3 ?_
  refine ze [4, 5, 6, 7, 8, 10, 11, 12, 84] ?_
  refine zi h (fun h => ?_) fun h => ?_
  refine aw_out ?_
  refine zy fun _ => ?_
  refine zk 2 ?_
  obtain ⟨y31, he, h⟩ := bindE h
  refine zc fok25 (theme_Size_ok n _ _ y31 he) ?_
  clear he
  refine zk 2 ?_
  refine x_last ?_
  exact via (zv [(0, 0), (1, 1), (2, 2), (3, 3)] [4, 5, 6, 7, 8, 10, 11, 12] 4) (hj28 _ _ h)
  exact aw_views (zv [(0, 0), (1, 1), (2, 2), (3, 3)] [4, 5, 6, 7, 8, 10, 11, 12] 4) (aw_skip (hj28 _ _ h))
  refine zx fun _ => ?_
  refine zk 3 ?_
  obtain ⟨e24, he, h⟩ := bindE h
  refine zd eGNode he ?_
  clear he
  refine zk 3 ?_
  refine ze [4, 5, 6, 7, 8, 10, 11, 12, 63] ?_
  refine zi h (fun h => ?_) fun h => ?_
  refine aw_out ?_
  refine zy fun _ => ?_
  refine zk 4 ?_
  obtain ⟨e25, he, h⟩ := bindE h
  refine zd eGNode he ?_
  clear he
  refine zk 2 ?_
  obtain ⟨y26, he, h⟩ := bindE h
  refine zc fok26 (ref17_Find_ok n _ _ y26 he) ?_
  clear he
  refine zk 2 ?_
  refine x_last ?_
  exact via (zv [(0, 0), (1, 1), (2, 2), (3, 3)] [4, 5, 6, 7, 8, 10, 11, 12] 4) (hj23 _ h)
  exact aw_views (zv [(0, 0), (1, 1), (2, 2), (3, 3)] [4, 5, 6, 7, 8, 10, 11, 12] 4) (aw_skip (hj23 _ h))
  exact aw_views (zv [] [] 0) (aw_exit (hj7 _ h))
end Go.Proofs.YtojkihhnioeggaaDoor.S
