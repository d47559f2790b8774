/- Functions, and that the program's are they. Printed by ext.py. -/
import Derived.Test.YtojkihhnioeggaaDoorGI0
set_option linter.unusedVariables false
set_option linter.unusedSimpArgs false
set_option maxRecDepth 100000
set_option maxHeartbeats 4000000
namespace Go.Proofs.YtojkihhnioeggaaDoor.S
open Go Go.Bm
def ref14_validate_L5 (p0 : GView) (self_ref14_validate : GView → Int → Int → Option (Int × Int)) (p1 : Int) (j63 : Int → Option (Int × Int)) : Nat → Int → Int → Option (Int × Int)
  | 0, _, _ => none
  | n + 1, v66, v67 => (if (decide (v67 < (List.length p0.Kids : Int))) = true then (idx p0.Kids v67).bind fun (e68 : GView) => (self_ref14_validate e68 (IntKind.wrap .i64 (p1 + 1)) v66).bind fun (y69 : (Int × Int)) => (if (y69.2 != 0) = true then some (y69.1, y69.2) else ref14_validate_L5 p0 self_ref14_validate p1 j63 n y69.1 (IntKind.wrap .i64 (v67 + 1))) else j63 v66)
def ref14_validate_L4 (v52 : Int) (p0 : GView) (p2 : Int) (j53 : Unit → Option (Int × Int)) (p1 : Int) : Nat → Int → Option (Int × Int)
  | 0, _ => none
  | n + 1, v57 => (if (decide (v57 < v52)) = true then (idx p0.Kids v52).bind fun (e58 : GView) => (gd [(!(sEq e58.Key (⟨#[]⟩ : ByteArray)))] (idx p0.Kids v52)).bind fun (e59 : GView) => (gd [(!(sEq e58.Key (⟨#[]⟩ : ByteArray)))] (idx p0.Kids v57)).bind fun (e60 : GView) => (if ((!(sEq e58.Key (⟨#[]⟩ : ByteArray))) && (sEq e59.Key e60.Key)) = true then some ((IntKind.wrap .i64 (p2 + 1)), 6) else ref14_validate_L4 v52 p0 p2 j53 p1 n (IntKind.wrap .i64 (v57 + 1))) else j53 ())
def ref14_validate_L3 (p0 : GView) (p2 : Int) (p1 : Int) (j42 : Unit → Option (Int × Int)) : Nat → Int → Option (Int × Int)
  | 0, _ => none
  | n + 1, v52 => (if (decide (v52 < (List.length p0.Kids : Int))) = true then (withJ (fun (_ : Unit) => ref14_validate_L3 p0 p2 p1 j42 n (IntKind.wrap .i64 (v52 + 1))) (fun (j53 : Unit → Option (Int × Int)) => ref14_validate_L4 v52 p0 p2 j53 p1 n 0)) else j42 ())
def ref14_validate_L2 (e31 : GAction) (p2 : Int) (j30 : Unit → Option (Int × Int)) (p1 : Int) (v29 : Int) (p0 : GView) : Nat → Int → Option (Int × Int)
  | 0, _ => none
  | n + 1, v37 => (if (decide (v37 < (List.length e31.Args : Int))) = true then (idx e31.Args v37).bind fun (e38 : GValue) => (ref11_Check n e38).bind fun (y39 : Int) => (if (y39 != 0) = true then some ((IntKind.wrap .i64 (p2 + 1)), y39) else ref14_validate_L2 e31 p2 j30 p1 v29 p0 n (IntKind.wrap .i64 (v37 + 1))) else j30 ())
def ref14_validate_L1 (p0 : GView) (p2 : Int) (p1 : Int) (j17 : Unit → Option (Int × Int)) : Nat → Int → Option (Int × Int)
  | 0, _ => none
  | n + 1, v29 => (if (decide (v29 < (List.length p0.Actions : Int))) = true then (withJ (fun (_ : Unit) => ref14_validate_L1 p0 p2 p1 j17 n (IntKind.wrap .i64 (v29 + 1))) (fun (j30 : Unit → Option (Int × Int)) => (idx p0.Actions v29).bind fun (e31 : GAction) => (ref11_Name n e31.Event).bind fun (y32 : Bool) => (gd [(!(!y32))] (ref11_Name n e31.Handler)).bind fun (y33 : Bool) => (if ((!y32) || (!y33)) = true then some ((IntKind.wrap .i64 (p2 + 1)), 4) else (gd [(decide (v29 > 0))] (idx p0.Actions (IntKind.wrap .i64 (v29 - 1)))).bind fun (e34 : GAction) => (if ((decide (v29 > 0)) && (sLe e31.Event e34.Event)) = true then some ((IntKind.wrap .i64 (p2 + 1)), 10) else (if ((decide ((ByteArray.size e31.Instance : Int) > 400)) || (decide ((List.length e31.Args : Int) > 100))) = true then some ((IntKind.wrap .i64 (p2 + 1)), 2) else ref14_validate_L2 e31 p2 j30 p1 v29 p0 n 0))))) else j17 ())
def ref14_validate_L0 (p0 : GView) (p2 : Int) (j2 : Unit → Option (Int × Int)) (p1 : Int) : Nat → Int → Option (Int × Int)
  | 0, _ => none
  | n + 1, v9 => (if (decide (v9 < (List.length p0.Attrs : Int))) = true then (idx p0.Attrs v9).bind fun (e10 : GAttr) => (ref11_Name n e10.Name).bind fun (y11 : Bool) => (if (!y11) = true then some ((IntKind.wrap .i64 (p2 + 1)), 4) else (gd [(decide (v9 > 0))] (idx p0.Attrs v9)).bind fun (e12 : GAttr) => (gd [(decide (v9 > 0))] (idx p0.Attrs (IntKind.wrap .i64 (v9 - 1)))).bind fun (e13 : GAttr) => (if ((decide (v9 > 0)) && (sLe e12.Name e13.Name)) = true then some ((IntKind.wrap .i64 (p2 + 1)), 10) else (idx p0.Attrs v9).bind fun (e14 : GAttr) => (ref11_Check n e14.Value).bind fun (y15 : Int) => (if (y15 != 0) = true then some ((IntKind.wrap .i64 (p2 + 1)), y15) else ref14_validate_L0 p0 p2 j2 p1 n (IntKind.wrap .i64 (v9 + 1))))) else j2 ())
def ref14_validate_body (self_ref14_validate : GView → Int → Int → Option (Int × Int)) (n : Nat) (p0 : GView) (p1 : Int) (p2 : Int) : Option (Int × Int) := (if (decide (p1 > 16)) = true then some ((IntKind.wrap .i64 (p2 + 1)), 8) else (if (decide ((IntKind.wrap .i64 (p2 + 1)) > 400)) = true then some ((IntKind.wrap .i64 (p2 + 1)), 2) else (if ((decide (p0.Kind < 1)) || (decide (p0.Kind > 13))) = true then some ((IntKind.wrap .i64 (p2 + 1)), 9) else (ref14_Key n p0.Key).bind fun (y1 : Bool) => (if (!y1) = true then some ((IntKind.wrap .i64 (p2 + 1)), 4) else (if (((decide ((List.length p0.Attrs : Int) > 24)) || (decide ((List.length p0.Actions : Int) > 24))) || (decide ((List.length p0.Kids : Int) > 100))) = true then some ((IntKind.wrap .i64 (p2 + 1)), 2) else (withJ (fun (_ : Unit) => (withJ (fun (_ : Unit) => (withJ (fun (_ : Unit) => (withJ (fun (v72 : Int) => some (v72, 0)) (fun (j63 : Int → Option (Int × Int)) => ref14_validate_L5 p0 self_ref14_validate p1 j63 n (IntKind.wrap .i64 (p2 + 1)) 0))) (fun (j42 : Unit → Option (Int × Int)) => ref14_validate_L3 p0 p2 p1 j42 n 0))) (fun (j17 : Unit → Option (Int × Int)) => ref14_validate_L1 p0 p2 p1 j17 n 0))) (fun (j2 : Unit → Option (Int × Int)) => ref14_validate_L0 p0 p2 j2 p1 n 0)))))))
theorem ref14_validate_body_ok (self_ref14_validate : GView → Int → Int → Option (Int × Int)) (ih_ref14_validate : ∀ (p0 : GView) (p1 : Int) (p2 : Int) (r : (Int × Int)), self_ref14_validate p0 p1 p2 = some r → FnD E 61 0 [.agg [I p0.Kind, Sx p0.Key, .lit (List.map eGAttr p0.Attrs), .lit (List.map eGAction p0.Actions), .lit (List.map eGView p0.Kids)], .c (I p1), .c (I p2)] [] (.tup [.c (I r.1), .c (I r.2)]) []) (n : Nat) (p0 : GView) (p1 : Int) (p2 : Int) (r : (Int × Int)) (h : ref14_validate_body self_ref14_validate n p0 p1 p2 = some r) : FnD E 61 0 [.agg [I p0.Kind, Sx p0.Key, .lit (List.map eGAttr p0.Attrs), .lit (List.map eGAction p0.Actions), .lit (List.map eGView p0.Kids)], .c (I p1), .c (I p2)] [] (.tup [.c (I r.1), .c (I r.2)]) [] := by
  refine zfn Tryd.func61 rfl ?_
  unfold ref14_validate_body at h
  refine za [1, 2, 3] ?_
  refine za [1, 2, 3] ?_
  refine aw_seq ?_
  refine za [1, 2, 3, 22] ?_
  refine zi h (fun h => ?_) fun h => ?_
  refine za [6, 7] ?_
  cases h
  exact aw_ret zr
  refine aw_skip ?_
  refine aw_seq ?_
  refine za [1, 2, 3, 25] ?_
  refine zi h (fun h => ?_) fun h => ?_
  refine za [6, 7] ?_
  cases h
  exact aw_ret zr
  refine aw_skip ?_
  refine aw_seq ?_
  refine zx fun _ => ?_
  refine zk 4 ?_
  refine zE (.c (.ptr 0 0)) ?_
  refine zE (.c (I p0.Kind)) ?_
  refine zE (.c (Bo (decide (p0.Kind > 13)))) ?_
  refine zP (.bool ((decide (p0.Kind < 1)) || (decide (p0.Kind > 13)))) ?_
  refine ze [1, 2, 3, 34] ?_
  refine zi h (fun h => ?_) fun h => ?_
  refine za [6, 7] ?_
  cases h
  exact aw_ret zr
  refine aw_skip ?_
  refine aw_seq ?_
  refine zx fun _ => ?_
  refine zk 2 ?_
  obtain ⟨y1, he, h⟩ := bindE h
  refine zc fok76 (ref14_Key_ok n _ y1 he) ?_
  clear he
  refine zk 1 ?_
  refine zee [1, 2, 3, 39] (L2 := [(1, .c (I p1)), (2, .c (I (IntKind.wrap .i64 (p2 + 1)))), (3, .c (.ptr 0 0)), (39, .c (Bo (!y1)))]) (G2 := [(0, .blk 75 [I p0.Kind, Sx p0.Key, .lit (List.map eGAttr p0.Attrs), .lit (List.map eGAction p0.Actions), .lit (List.map eGView p0.Kids)])]) 22 ?_
  refine zi h (fun h => ?_) fun h => ?_
  refine za [6, 7] ?_
  cases h
  exact aw_ret zr
  refine aw_skip ?_
  refine aw_seq ?_
  refine zx fun _ => ?_
  refine zk 2 ?_
  refine zl eGAttr p0.Attrs ?_
  refine zk 2 ?_
  refine zE (.c (.ptr 0 3)) ?_
  refine zE (.c (.lit (List.map eGAction p0.Actions))) ?_
  refine rx_E (e := [(!(decide ((List.length p0.Attrs : Int) > 24)))]) [(47, .c (.lit (List.map eGAction p0.Actions)), some 1)] (v := .c (I (List.length p0.Actions : Int))) (foot := []) (by kernel_rfl) (by kernel_rfl) (by kernel_rfl) (fun hg => rd_len (enc := eGAction) (l := p0.Actions) (by kernel_rfl)) rfl rfl ?_
  refine zE (.c (Bo (decide ((List.length p0.Actions : Int) > 24)))) ?_
  refine zP (.bool ((decide ((List.length p0.Attrs : Int) > 24)) || (decide ((List.length p0.Actions : Int) > 24)))) ?_
  refine zk 1 ?_
  refine zE (.c (.ptr 0 4)) ?_
  refine zE (.c (.lit (List.map eGView p0.Kids))) ?_
  refine rx_E (e := [(!((decide ((List.length p0.Attrs : Int) > 24)) || (decide ((List.length p0.Actions : Int) > 24))))]) [(53, .c (.lit (List.map eGView p0.Kids)), some 1)] (v := .c (I (List.length p0.Kids : Int))) (foot := []) (by kernel_rfl) (by kernel_rfl) (by kernel_rfl) (fun hg => rd_len (enc := eGView) (l := p0.Kids) (by kernel_rfl)) rfl rfl ?_
  refine zE (.c (Bo (decide ((List.length p0.Kids : Int) > 100)))) ?_
  refine zP (.bool (((decide ((List.length p0.Attrs : Int) > 24)) || (decide ((List.length p0.Actions : Int) > 24))) || (decide ((List.length p0.Kids : Int) > 100)))) ?_
  refine zee [1, 2, 3, 56] (L2 := [(1, .c (I p1)), (2, .c (I (IntKind.wrap .i64 (p2 + 1)))), (3, .c (.ptr 0 0)), (56, .c (Bo (((decide ((List.length p0.Attrs : Int) > 24)) || (decide ((List.length p0.Actions : Int) > 24))) || (decide ((List.length p0.Kids : Int) > 100)))))]) (G2 := [(0, .blk 75 [I p0.Kind, Sx p0.Key, .lit (List.map eGAttr p0.Attrs), .lit (List.map eGAction p0.Actions), .lit (List.map eGView p0.Kids)])]) 38 ?_
  refine zi h (fun h => ?_) fun h => ?_
  refine za [6, 7] ?_
  cases h
  exact aw_ret zr
  refine aw_skip ?_
  refine aw_join h (fun A j => ∀ u, j u = some r → A (mk [(1, .c (I p1)), (2, .c (I (IntKind.wrap .i64 (p2 + 1)))), (3, .c (.ptr 0 0))] [(0, .blk 75 [I p0.Kind, Sx p0.Key, .lit (List.map eGAttr p0.Attrs), .lit (List.map eGAction p0.Actions), .lit (List.map eGView p0.Kids)])] 1)) (fun u h => ?_) (fun j2 Aj2 hj2 h => ?_)
  refine aw_join h (fun A j => ∀ u, j u = some r → A (mk [(1, .c (I p1)), (2, .c (I (IntKind.wrap .i64 (p2 + 1)))), (3, .c (.ptr 0 0))] [(0, .blk 75 [I p0.Kind, Sx p0.Key, .lit (List.map eGAttr p0.Attrs), .lit (List.map eGAction p0.Actions), .lit (List.map eGView p0.Kids)])] 1)) (fun u h => ?_) (fun j17 Aj17 hj17 h => ?_)
  refine aw_join h (fun A j => ∀ u, j u = some r → A (mk [(1, .c (I p1)), (2, .c (I (IntKind.wrap .i64 (p2 + 1)))), (3, .c (.ptr 0 0))] [(0, .blk 75 [I p0.Kind, Sx p0.Key, .lit (List.map eGAttr p0.Attrs), .lit (List.map eGAction p0.Actions), .lit (List.map eGView p0.Kids)])] 1)) (fun u h => ?_) (fun j42 Aj42 hj42 h => ?_)
  refine aw_join h (fun A j => ∀ v72, j v72 = some r → A (mk [(2, .c (I v72))] [] 0)) (fun v72 h => ?_) (fun j63 Aj63 hj63 h => ?_)
  refine za [6, 7] ?_
  cases h
  exact aw_ret zr
  refine za [1, 2, 3, 16] ?_
  refine aw_block ?_
  refine aw_loopJ (fun n s => ∃ v66 v67, ref14_validate_L5 p0 self_ref14_validate p1 j63 n v66 v67 = some r ∧ s = mk [(1, .c (I p1)), (2, .c (I v66)), (3, .c (.ptr 0 0)), (16, .c (I v67))] [(0, .blk 75 [I p0.Kind, Sx p0.Key, .lit (List.map eGAttr p0.Attrs), .lit (List.map eGAction p0.Actions), .lit (List.map eGView p0.Kids)])] 1) n _ (zv [(0, 0)] [1, 2, 3, 16] 1) ⟨_, _, h, rfl⟩ (fun s ⟨v66, v67, h, _⟩ => nomatch h) ?_
  rintro n s ⟨v66, v67, h, rfl⟩
  rw [ref14_validate_L5] at h
  refine aw_seq ?_
  refine zx fun _ => ?_
  refine zk 3 ?_
  refine zl eGView p0.Kids ?_
  refine zk 1 ?_
  refine ze [1, 2, 3, 16, 209] ?_
  refine zi h (fun h => ?_) fun h => ?_
  refine aw_skip ?_
  refine aw_seq ?_
  refine aw_block ?_
  refine zx fun _ => ?_
  refine zk 3 ?_
  obtain ⟨e68, he, h⟩ := bindE h
  refine rx_rd (v := .c (.imm [I e68.Kind, Sx e68.Key, .lit (List.map eGAttr e68.Attrs), .lit (List.map eGAction e68.Actions), .lit (List.map eGView e68.Kids)])) (foot := []) (rd_idx (enc := eGView) (sz := 5) (l := p0.Kids) (ix := v67) he (by kernel_rfl) (eGView_eq e68) (by kernel_rfl)) (by kernel_rfl) rfl rfl ?_
  clear he
  refine zk 4 ?_
  obtain ⟨y69, he, h⟩ := bindE h
  refine zc fok61 (ih_ref14_validate _ _ _ y69 he) ?_
  clear he
  refine zk 5 ?_
  refine ze [1, 3, 16, 17, 18] ?_
  refine za [1, 2, 3, 16, 18] ?_
  refine za [1, 2, 3, 16, 18, 226] ?_
  refine zi h (fun h => ?_) fun h => ?_
  refine za [6, 7] ?_
  cases h
  exact aw_ret zr
  refine aw_skip ?_
  refine aw_out ?_
  refine zb ?_
  exact via (zv [(0, 0)] [1, 2, 3, 16] 1) (⟨_, _, h, rfl⟩)
  exact aw_views (zv [] [2] 0) (aw_exit (hj63 _ h))
  refine za [1, 2, 3, 14] ?_
  refine aw_block ?_
  refine aw_loopJ (fun n s => ∃ v52, ref14_validate_L3 p0 p2 p1 j42 n v52 = some r ∧ s = mk [(1, .c (I p1)), (2, .c (I (IntKind.wrap .i64 (p2 + 1)))), (3, .c (.ptr 0 0)), (14, .c (I v52))] [(0, .blk 75 [I p0.Kind, Sx p0.Key, .lit (List.map eGAttr p0.Attrs), .lit (List.map eGAction p0.Actions), .lit (List.map eGView p0.Kids)])] 1) n _ (zv [(0, 0)] [1, 2, 3, 14] 1) ⟨_, h, rfl⟩ (fun s ⟨v52, h, _⟩ => nomatch h) ?_
  rintro n s ⟨v52, h, rfl⟩
  rw [ref14_validate_L3] at h
  refine aw_seq ?_
  refine zx fun _ => ?_
  refine zk 3 ?_
  refine zl eGView p0.Kids ?_
  refine zk 1 ?_
  refine ze [1, 2, 3, 14, 174] ?_
  refine zi h (fun h => ?_) fun h => ?_
  refine aw_skip ?_
  refine aw_join h (fun A j => ∀ u, j u = some r → A (mk [(1, .c (I p1)), (2, .c (I (IntKind.wrap .i64 (p2 + 1)))), (3, .c (.ptr 0 0)), (14, .c (I v52))] [(0, .blk 75 [I p0.Kind, Sx p0.Key, .lit (List.map eGAttr p0.Attrs), .lit (List.map eGAction p0.Actions), .lit (List.map eGView p0.Kids)])] 1)) (fun u h => ?_) (fun j53 Aj53 hj53 h => ?_)
  refine aw_out ?_
  refine zb ?_
  exact via (zv [(0, 0)] [1, 2, 3, 14] 1) (⟨_, h, rfl⟩)
  refine aw_block ?_
  refine za [1, 2, 3, 14, 15] ?_
  refine aw_block ?_
  refine aw_loopJ (fun n s => ∃ v57, ref14_validate_L4 v52 p0 p2 j53 p1 n v57 = some r ∧ s = mk [(1, .c (I p1)), (2, .c (I (IntKind.wrap .i64 (p2 + 1)))), (3, .c (.ptr 0 0)), (14, .c (I v52)), (15, .c (I v57))] [(0, .blk 75 [I p0.Kind, Sx p0.Key, .lit (List.map eGAttr p0.Attrs), .lit (List.map eGAction p0.Actions), .lit (List.map eGView p0.Kids)])] 1) n _ (zv [(0, 0)] [1, 2, 3, 14, 15] 1) ⟨_, h, rfl⟩ (fun s ⟨v57, h, _⟩ => nomatch h) ?_
  rintro n s ⟨v57, h, rfl⟩
  rw [ref14_validate_L4] at h
  refine aw_seq ?_
  refine za [1, 2, 3, 14, 15, 179] ?_
  refine zi h (fun h => ?_) fun h => ?_
  refine aw_skip ?_
  refine aw_seq ?_
  refine aw_block ?_
  refine zdx [[], [0], [], [1, 2, 0], [3, 1, 2, 0], [4, 3, 1, 2, 0], [5, 4, 3, 1, 2, 0], [6, 5, 4, 3, 1, 2, 0], [7, 6, 5, 4, 3, 1, 2, 0], [8, 7, 6, 5, 4, 3, 1, 2, 0], [7, 6, 5, 4, 3, 1, 2, 0], [9, 10, 7, 8, 6, 5, 4, 3, 1, 2, 0], [11, 7, 9, 10, 8, 6, 5, 4, 3, 1, 2, 0], [12, 7, 11, 9, 10, 8, 6, 5, 4, 3, 1, 2, 0], [7, 6, 5, 4, 3, 1, 2, 0], [14, 7, 6, 5, 4, 3, 1, 2, 0], [7, 6, 5, 4, 3, 1, 2, 0], [15, 16, 7, 14, 6, 5, 4, 3, 1, 2, 0], [17, 7, 15, 16, 14, 6, 5, 4, 3, 1, 2, 0], [18, 7, 17, 15, 16, 14, 6, 5, 4, 3, 1, 2, 0], [13, 19, 7, 12, 11, 9, 10, 8, 6, 5, 4, 3, 1, 2, 0, 18, 17, 15, 16, 14], [7, 20, 6, 5, 4, 3, 1, 2, 0, 13, 19, 12, 11, 9, 10, 8, 18, 17, 15, 16, 14]] fun _ => ?_
  refine zk 3 ?_
  obtain ⟨e58, he, h⟩ := bindE h
  refine rx_rd (v := .c (.imm [I e58.Kind, Sx e58.Key, .lit (List.map eGAttr e58.Attrs), .lit (List.map eGAction e58.Actions), .lit (List.map eGView e58.Kids)])) (foot := []) (rd_idx (enc := eGView) (sz := 5) (l := p0.Kids) (ix := v52) he (by kernel_rfl) (eGView_eq e58) (by kernel_rfl)) (by kernel_rfl) rfl rfl ?_
  clear he
  refine zk 4 ?_
  refine zE (.c (.ptr 0 4)) ?_
  refine zE (.c (.lit (List.map eGView p0.Kids))) ?_
  refine zE (.c (I v52)) ?_
  obtain ⟨e59, he, h⟩ := bindE h
  refine rx_E (e := [(!(sEq e58.Key (⟨#[]⟩ : ByteArray)))]) [(191, .c (.lit (List.map eGView p0.Kids)), some 1), (192, .c (I v52), some 1)] (v := .c (.imm [I e59.Kind, Sx e59.Key, .lit (List.map eGAttr e59.Attrs), .lit (List.map eGAction e59.Actions), .lit (List.map eGView e59.Kids)])) (foot := []) (by kernel_rfl) (by kernel_rfl) (by kernel_rfl) (fun hg => rd_idx (enc := eGView) (sz := 5) (l := p0.Kids) (ix := v52) (gd_spec he hg) (by kernel_rfl) (eGView_eq e59) (by kernel_rfl)) rfl rfl ?_
  clear he
  refine zE (.c (.imm [Sx e59.Key, .lit (List.map eGAttr e59.Attrs), .lit (List.map eGAction e59.Actions), .lit (List.map eGView e59.Kids)])) ?_
  refine zE (.c (Sx e59.Key)) ?_
  refine zE (.c (.ptr 0 4)) ?_
  refine zE (.c (.lit (List.map eGView p0.Kids))) ?_
  refine zE (.c (I v57)) ?_
  obtain ⟨e60, he, h⟩ := bindE h
  refine rx_E (e := [(!(sEq e58.Key (⟨#[]⟩ : ByteArray)))]) [(197, .c (.lit (List.map eGView p0.Kids)), some 1), (198, .c (I v57), some 1)] (v := .c (.imm [I e60.Kind, Sx e60.Key, .lit (List.map eGAttr e60.Attrs), .lit (List.map eGAction e60.Actions), .lit (List.map eGView e60.Kids)])) (foot := []) (by kernel_rfl) (by kernel_rfl) (by kernel_rfl) (fun hg => rd_idx (enc := eGView) (sz := 5) (l := p0.Kids) (ix := v57) (gd_spec he hg) (by kernel_rfl) (eGView_eq e60) (by kernel_rfl)) rfl rfl ?_
  clear he
  refine zE (.c (.imm [Sx e60.Key, .lit (List.map eGAttr e60.Attrs), .lit (List.map eGAction e60.Actions), .lit (List.map eGView e60.Kids)])) ?_
  refine zE (.c (Sx e60.Key)) ?_
  refine zE (.c (Bo (sEq e59.Key e60.Key))) ?_
  refine zP (.bool ((!(sEq e58.Key (⟨#[]⟩ : ByteArray))) && (sEq e59.Key e60.Key))) ?_
  refine zee [1, 2, 3, 14, 15, 203] (L2 := [(1, .c (I p1)), (2, .c (I (IntKind.wrap .i64 (p2 + 1)))), (3, .c (.ptr 0 0)), (14, .c (I v52)), (15, .c (I v57)), (203, .c (Bo ((!(sEq e58.Key (⟨#[]⟩ : ByteArray))) && (sEq e59.Key e60.Key))))]) (G2 := [(0, .blk 75 [I p0.Kind, Sx p0.Key, .lit (List.map eGAttr p0.Attrs), .lit (List.map eGAction p0.Actions), .lit (List.map eGView p0.Kids)])]) 26 ?_
  refine zi h (fun h => ?_) fun h => ?_
  refine za [6, 7] ?_
  cases h
  exact aw_ret zr
  refine aw_skip ?_
  refine aw_out ?_
  refine zb ?_
  exact via (zv [(0, 0)] [1, 2, 3, 14, 15] 1) (⟨_, h, rfl⟩)
  exact aw_views (zv [(0, 0)] [1, 2, 3, 14] 1) (aw_exit (hj53 _ h))
  exact aw_views (zv [(0, 0)] [1, 2, 3] 1) (aw_exit (hj42 _ h))
  refine za [1, 2, 3, 10] ?_
  refine aw_block ?_
  refine aw_loopJ (fun n s => ∃ v29, ref14_validate_L1 p0 p2 p1 j17 n v29 = some r ∧ s = mk [(1, .c (I p1)), (2, .c (I (IntKind.wrap .i64 (p2 + 1)))), (3, .c (.ptr 0 0)), (10, .c (I v29))] [(0, .blk 75 [I p0.Kind, Sx p0.Key, .lit (List.map eGAttr p0.Attrs), .lit (List.map eGAction p0.Actions), .lit (List.map eGView p0.Kids)])] 1) n _ (zv [(0, 0)] [1, 2, 3, 10] 1) ⟨_, h, rfl⟩ (fun s ⟨v29, h, _⟩ => nomatch h) ?_
  rintro n s ⟨v29, h, rfl⟩
  rw [ref14_validate_L1] at h
  refine aw_seq ?_
  refine zx fun _ => ?_
  refine zk 3 ?_
  refine zl eGAction p0.Actions ?_
  refine zk 1 ?_
  refine ze [1, 2, 3, 10, 108] ?_
  refine zi h (fun h => ?_) fun h => ?_
  refine aw_skip ?_
  refine aw_join h (fun A j => ∀ u, j u = some r → A (mk [(1, .c (I p1)), (2, .c (I (IntKind.wrap .i64 (p2 + 1)))), (3, .c (.ptr 0 0)), (10, .c (I v29))] [(0, .blk 75 [I p0.Kind, Sx p0.Key, .lit (List.map eGAttr p0.Attrs), .lit (List.map eGAction p0.Actions), .lit (List.map eGView p0.Kids)])] 1)) (fun u h => ?_) (fun j30 Aj30 hj30 h => ?_)
  refine aw_out ?_
  refine zb ?_
  exact via (zv [(0, 0)] [1, 2, 3, 10] 1) (⟨_, h, rfl⟩)
  refine aw_block ?_
  refine zx fun _ => ?_
  refine zk 3 ?_
  obtain ⟨e31, he, h⟩ := bindE h
  refine zd eGAction he ?_
  clear he
  refine zk 3 ?_
  refine ze [1, 2, 3, 10, 11] ?_
  refine aw_seq ?_
  refine zx fun _ => ?_
  refine zk 2 ?_
  obtain ⟨y32, he, h⟩ := bindE h
  refine zc fok31 (ref11_Name_ok n _ y32 he) ?_
  clear he
  refine zk 2 ?_
  refine zE (.c (.ptr 11 2)) ?_
  refine zE (.c (Sx e31.Handler)) ?_
  obtain ⟨y33, he, h⟩ := bindE h
  refine zk1 [(!(!y32))] fok31 (fun hg => ref11_Name_ok n _ y33 (gd_spec he hg)) ?_
  clear he
  refine zE (.c (Bo (!y33))) ?_
  refine zP (.bool ((!y32) || (!y33))) ?_
  refine zee [1, 2, 3, 10, 11, 125] (L2 := [(1, .c (I p1)), (2, .c (I (IntKind.wrap .i64 (p2 + 1)))), (3, .c (.ptr 0 0)), (10, .c (I v29)), (11, .c (.ptr 11 0)), (125, .c (Bo ((!y32) || (!y33))))]) (G2 := [(0, .blk 75 [I p0.Kind, Sx p0.Key, .lit (List.map eGAttr p0.Attrs), .lit (List.map eGAction p0.Actions), .lit (List.map eGView p0.Kids)]), (11, .blk 138 [Sx e31.Event, Sx e31.Instance, Sx e31.Handler, .lit (List.map eGValue e31.Args)])]) 23 ?_
  refine zi h (fun h => ?_) fun h => ?_
  refine za [6, 7] ?_
  cases h
  exact aw_ret zr
  refine aw_skip ?_
  refine aw_seq ?_
  refine zdx [[], [0], [1, 0], [2, 1, 0], [3, 2, 1, 0], [2, 1, 0], [5, 2, 1, 0], [2, 1, 0], [7, 2, 1, 0], [6, 8, 2, 5, 1, 0, 7], [9, 2, 6, 8, 5, 1, 0, 7], [10, 2, 9, 6, 8, 5, 1, 0, 7], [4, 11, 2, 3, 1, 0, 10, 9, 6, 8, 5, 7], [2, 12, 1, 0, 4, 11, 3, 10, 9, 6, 8, 5, 7]] fun _ => ?_
  refine zk 3 ?_
  refine zE (.c (.ptr 11 0)) ?_
  refine zE (.c (Sx e31.Event)) ?_
  refine zE (.c (.ptr 0 3)) ?_
  refine zE (.c (.lit (List.map eGAction p0.Actions))) ?_
  refine zE (.c (I v29)) ?_
  refine zE (.c (I (IntKind.wrap .i64 (v29 - 1)))) ?_
  obtain ⟨e34, he, h⟩ := bindE h
  refine rx_E (e := [(decide (v29 > 0))]) [(133, .c (.lit (List.map eGAction p0.Actions)), some 1), (135, .c (I (IntKind.wrap .i64 (v29 - 1))), some 1)] (v := .c (.imm [Sx e34.Event, Sx e34.Instance, Sx e34.Handler, .lit (List.map eGValue e34.Args)])) (foot := []) (by kernel_rfl) (by kernel_rfl) (by kernel_rfl) (fun hg => rd_idx (enc := eGAction) (sz := 4) (l := p0.Actions) (ix := (IntKind.wrap .i64 (v29 - 1))) (gd_spec he hg) (by kernel_rfl) (by kernel_rfl) (by kernel_rfl)) rfl rfl ?_
  clear he
  refine zE (.c (.imm [Sx e34.Event, Sx e34.Instance, Sx e34.Handler, .lit (List.map eGValue e34.Args)])) ?_
  refine zE (.c (Sx e34.Event)) ?_
  refine zE (.c (Bo (sLe e31.Event e34.Event))) ?_
  refine zP (.bool ((decide (v29 > 0)) && (sLe e31.Event e34.Event))) ?_
  refine zee [1, 2, 3, 10, 11, 140] (L2 := [(1, .c (I p1)), (2, .c (I (IntKind.wrap .i64 (p2 + 1)))), (3, .c (.ptr 0 0)), (10, .c (I v29)), (11, .c (.ptr 11 0)), (140, .c (Bo ((decide (v29 > 0)) && (sLe e31.Event e34.Event))))]) (G2 := [(0, .blk 75 [I p0.Kind, Sx p0.Key, .lit (List.map eGAttr p0.Attrs), .lit (List.map eGAction p0.Actions), .lit (List.map eGView p0.Kids)]), (11, .blk 138 [Sx e31.Event, Sx e31.Instance, Sx e31.Handler, .lit (List.map eGValue e31.Args)])]) 37 ?_
  refine zi h (fun h => ?_) fun h => ?_
  refine za [6, 7] ?_
  cases h
  exact aw_ret zr
  refine aw_skip ?_
  refine aw_seq ?_
  refine zx fun _ => ?_
  refine zk 5 ?_
  refine zE (.c (.ptr 11 3)) ?_
  refine zE (.c (.lit (List.map eGValue e31.Args))) ?_
  refine rx_E (e := [(!(decide ((ByteArray.size e31.Instance : Int) > 400)))]) [(148, .c (.lit (List.map eGValue e31.Args)), some 1)] (v := .c (I (List.length e31.Args : Int))) (foot := []) (by kernel_rfl) (by kernel_rfl) (by kernel_rfl) (fun hg => rd_len (enc := eGValue) (l := e31.Args) (by kernel_rfl)) rfl rfl ?_
  refine zE (.c (Bo (decide ((List.length e31.Args : Int) > 100)))) ?_
  refine zP (.bool ((decide ((ByteArray.size e31.Instance : Int) > 400)) || (decide ((List.length e31.Args : Int) > 100)))) ?_
  refine ze [1, 2, 3, 10, 11, 151] ?_
  refine zi h (fun h => ?_) fun h => ?_
  refine za [6, 7] ?_
  cases h
  exact aw_ret zr
  refine aw_skip ?_
  refine za [1, 2, 3, 10, 11, 12] ?_
  refine aw_block ?_
  refine aw_loopJ (fun n s => ∃ v37, ref14_validate_L2 e31 p2 j30 p1 v29 p0 n v37 = some r ∧ s = mk [(1, .c (I p1)), (2, .c (I (IntKind.wrap .i64 (p2 + 1)))), (3, .c (.ptr 0 0)), (10, .c (I v29)), (11, .c (.ptr 1 0)), (12, .c (I v37))] [(0, .blk 75 [I p0.Kind, Sx p0.Key, .lit (List.map eGAttr p0.Attrs), .lit (List.map eGAction p0.Actions), .lit (List.map eGView p0.Kids)]), (1, .blk 138 [Sx e31.Event, Sx e31.Instance, Sx e31.Handler, .lit (List.map eGValue e31.Args)])] 2) n _ (zv [(0, 0), (11, 1)] [1, 2, 3, 10, 11, 12] 2) ⟨_, h, rfl⟩ (fun s ⟨v37, h, _⟩ => nomatch h) ?_
  rintro n s ⟨v37, h, rfl⟩
  rw [ref14_validate_L2] at h
  refine aw_seq ?_
  refine zx fun _ => ?_
  refine zk 3 ?_
  refine zl eGValue e31.Args ?_
  refine zk 1 ?_
  refine ze [1, 2, 3, 10, 11, 12, 157] ?_
  refine zi h (fun h => ?_) fun h => ?_
  refine aw_skip ?_
  refine aw_seq ?_
  refine aw_block ?_
  refine zx fun _ => ?_
  refine zk 3 ?_
  obtain ⟨e38, he, h⟩ := bindE h
  refine rx_rd (v := .c (.imm [I e38.Kind, I e38.N, Sx e38.S, .lit (List.map eGValue e38.L)])) (foot := []) (rd_idx (enc := eGValue) (sz := 4) (l := e31.Args) (ix := v37) he (by kernel_rfl) (eGValue_eq e38) (by kernel_rfl)) (by kernel_rfl) rfl rfl ?_
  clear he
  refine zk 1 ?_
  obtain ⟨y39, he, h⟩ := bindE h
  refine zc fok77 (ref11_Check_ok n _ y39 he) ?_
  clear he
  refine zk 1 ?_
  refine ze [1, 2, 3, 10, 11, 12, 13] ?_
  refine za [1, 2, 3, 10, 11, 12, 13, 167] ?_
  refine zi h (fun h => ?_) fun h => ?_
  refine za [6, 7] ?_
  cases h
  exact aw_ret zr
  refine aw_skip ?_
  refine aw_out ?_
  refine zb ?_
  exact via (zv [(0, 0), (1, 1)] [1, 2, 3, 10, 11, 12] 2) (⟨_, h, rfl⟩)
  exact aw_views (zv [(0, 0)] [1, 2, 3, 10] 1) (aw_exit (hj30 _ h))
  exact aw_views (zv [(0, 0)] [1, 2, 3] 1) (aw_exit (hj17 _ h))
  refine za [1, 2, 3, 8] ?_
  refine aw_block ?_
  refine aw_loopJ (fun n s => ∃ v9, ref14_validate_L0 p0 p2 j2 p1 n v9 = some r ∧ s = mk [(1, .c (I p1)), (2, .c (I (IntKind.wrap .i64 (p2 + 1)))), (3, .c (.ptr 0 0)), (8, .c (I v9))] [(0, .blk 75 [I p0.Kind, Sx p0.Key, .lit (List.map eGAttr p0.Attrs), .lit (List.map eGAction p0.Actions), .lit (List.map eGView p0.Kids)])] 1) n _ (zv [(0, 0)] [1, 2, 3, 8] 1) ⟨_, h, rfl⟩ (fun s ⟨v9, h, _⟩ => nomatch h) ?_
  rintro n s ⟨v9, h, rfl⟩
  rw [ref14_validate_L0] at h
  refine aw_seq ?_
  refine zx fun _ => ?_
  refine zk 3 ?_
  refine zl eGAttr p0.Attrs ?_
  refine zk 1 ?_
  refine ze [1, 2, 3, 8, 62] ?_
  refine zi h (fun h => ?_) fun h => ?_
  refine aw_skip ?_
  refine aw_seq ?_
  refine aw_block ?_
  refine aw_seq ?_
  refine zx fun _ => ?_
  refine zk 3 ?_
  obtain ⟨e10, he, h⟩ := bindE h
  refine zd eGAttr he ?_
  clear he
  refine zk 2 ?_
  obtain ⟨y11, he, h⟩ := bindE h
  refine zc fok31 (ref11_Name_ok n _ y11 he) ?_
  clear he
  refine zk 1 ?_
  refine ze [1, 2, 3, 8, 72] ?_
  refine zi h (fun h => ?_) fun h => ?_
  refine za [6, 7] ?_
  cases h
  exact aw_ret zr
  refine aw_skip ?_
  refine aw_seq ?_
  refine zdx [[], [0], [1, 0], [2, 1, 0], [3, 2, 1, 0], [2, 1, 0], [4, 5, 2, 3, 1, 0], [6, 2, 4, 5, 3, 1, 0], [7, 2, 6, 4, 5, 3, 1, 0], [2, 1, 0], [9, 2, 1, 0], [2, 1, 0], [11, 2, 1, 0], [10, 12, 2, 9, 1, 0, 11], [13, 2, 10, 12, 9, 1, 0, 11], [14, 2, 13, 10, 12, 9, 1, 0, 11], [8, 15, 2, 7, 6, 4, 5, 3, 1, 0, 14, 13, 10, 12, 9, 11], [2, 16, 1, 0, 8, 15, 7, 6, 4, 5, 3, 14, 13, 10, 12, 9, 11]] fun _ => ?_
  refine zk 3 ?_
  refine zE (.c (.ptr 0 2)) ?_
  refine zE (.c (.lit (List.map eGAttr p0.Attrs))) ?_
  refine zE (.c (I v9)) ?_
  obtain ⟨e12, he, h⟩ := bindE h
  refine rx_E (e := [(decide (v9 > 0))]) [(78, .c (.lit (List.map eGAttr p0.Attrs)), some 1), (79, .c (I v9), some 1)] (v := .c (.imm [Sx e12.Name, I e12.Value.Kind, I e12.Value.N, Sx e12.Value.S, .lit (List.map eGValue e12.Value.L)])) (foot := []) (by kernel_rfl) (by kernel_rfl) (by kernel_rfl) (fun hg => rd_idx (enc := eGAttr) (sz := 5) (l := p0.Attrs) (ix := v9) (gd_spec he hg) (by kernel_rfl) (by kernel_rfl) (by kernel_rfl)) rfl rfl ?_
  clear he
  refine zE (.c (.imm [Sx e12.Name, I e12.Value.Kind, I e12.Value.N, Sx e12.Value.S, .lit (List.map eGValue e12.Value.L)])) ?_
  refine zE (.c (Sx e12.Name)) ?_
  refine zE (.c (.ptr 0 2)) ?_
  refine zE (.c (.lit (List.map eGAttr p0.Attrs))) ?_
  refine zE (.c (I v9)) ?_
  refine zE (.c (I (IntKind.wrap .i64 (v9 - 1)))) ?_
  obtain ⟨e13, he, h⟩ := bindE h
  refine rx_E (e := [(decide (v9 > 0))]) [(84, .c (.lit (List.map eGAttr p0.Attrs)), some 1), (86, .c (I (IntKind.wrap .i64 (v9 - 1))), some 1)] (v := .c (.imm [Sx e13.Name, I e13.Value.Kind, I e13.Value.N, Sx e13.Value.S, .lit (List.map eGValue e13.Value.L)])) (foot := []) (by kernel_rfl) (by kernel_rfl) (by kernel_rfl) (fun hg => rd_idx (enc := eGAttr) (sz := 5) (l := p0.Attrs) (ix := (IntKind.wrap .i64 (v9 - 1))) (gd_spec he hg) (by kernel_rfl) (by kernel_rfl) (by kernel_rfl)) rfl rfl ?_
  clear he
  refine zE (.c (.imm [Sx e13.Name, I e13.Value.Kind, I e13.Value.N, Sx e13.Value.S, .lit (List.map eGValue e13.Value.L)])) ?_
  refine zE (.c (Sx e13.Name)) ?_
  refine zE (.c (Bo (sLe e12.Name e13.Name))) ?_
  refine zP (.bool ((decide (v9 > 0)) && (sLe e12.Name e13.Name))) ?_
  refine zee [1, 2, 3, 8, 91] (L2 := [(1, .c (I p1)), (2, .c (I (IntKind.wrap .i64 (p2 + 1)))), (3, .c (.ptr 0 0)), (8, .c (I v9)), (91, .c (Bo ((decide (v9 > 0)) && (sLe e12.Name e13.Name))))]) (G2 := [(0, .blk 75 [I p0.Kind, Sx p0.Key, .lit (List.map eGAttr p0.Attrs), .lit (List.map eGAction p0.Actions), .lit (List.map eGView p0.Kids)])]) 32 ?_
  refine zi h (fun h => ?_) fun h => ?_
  refine za [6, 7] ?_
  cases h
  exact aw_ret zr
  refine aw_skip ?_
  refine zx fun _ => ?_
  refine zk 3 ?_
  obtain ⟨e14, he, h⟩ := bindE h
  refine zd eGAttr he ?_
  clear he
  refine zk 2 ?_
  obtain ⟨y15, he, h⟩ := bindE h
  refine zc fok77 (ref11_Check_ok n _ y15 he) ?_
  clear he
  refine zk 1 ?_
  refine ze [1, 2, 3, 8, 9] ?_
  refine za [1, 2, 3, 8, 9, 101] ?_
  refine zi h (fun h => ?_) fun h => ?_
  refine za [6, 7] ?_
  cases h
  exact aw_ret zr
  refine aw_skip ?_
  refine aw_out ?_
  refine zb ?_
  exact via (zv [(0, 0)] [1, 2, 3, 8] 1) (⟨_, h, rfl⟩)
  exact aw_views (zv [(0, 0)] [1, 2, 3] 1) (aw_exit (hj2 _ h))
def ref14_validate : Nat → GView → Int → Int → Option (Int × Int)
  | 0, _, _, _ => none
  | n + 1, p0, p1, p2 => ref14_validate_body (fun a0 a1 a2 => ref14_validate n a0 a1 a2) n p0 p1 p2
theorem ref14_validate_ok (n : Nat) : (∀ (p0 : GView) (p1 : Int) (p2 : Int) (r : (Int × Int)), ref14_validate n p0 p1 p2 = some r → FnD E 61 0 [.agg [I p0.Kind, Sx p0.Key, .lit (List.map eGAttr p0.Attrs), .lit (List.map eGAction p0.Actions), .lit (List.map eGView p0.Kids)], .c (I p1), .c (I p2)] [] (.tup [.c (I r.1), .c (I r.2)]) []) := by
  induction n with
  | zero => intro p0 p1 p2 r h; rw [ref14_validate] at h; cases h
  | succ n ih => intro p0 p1 p2 r h; rw [ref14_validate] at h; exact ref14_validate_body_ok _ ih n _ _ _ r h
def ref14_Validate  (n : Nat) (p0 : GView) : Option Int := (ref14_validate n p0 1 0).bind fun (y1 : (Int × Int)) => some y1.2
theorem ref14_Validate_ok  (n : Nat) (p0 : GView) (r : Int) (h : ref14_Validate n p0 = some r) : FnD E 47 0 [.agg [I p0.Kind, Sx p0.Key, .lit (List.map eGAttr p0.Attrs), .lit (List.map eGAction p0.Actions), .lit (List.map eGView p0.Kids)]] [] (.c (I r)) [] := by
  refine zfn Tryd.func47 rfl ?_
  unfold ref14_Validate at h
  refine za [1] ?_
  refine zx fun _ => ?_
  refine zk 1 ?_
  obtain ⟨y1, he, h⟩ := bindE h
  refine zc fok61 (ref14_validate_ok n _ _ _ y1 he) ?_
  clear he
  refine zk 5 ?_
  refine ze [4] ?_
  refine za [2] ?_
  cases h
  exact aw_ret zr
def ref14_build_L0 (p0 : GView) (self_ref14_build : GView → Int → GTree → Option GTree) (p2 : GTree) (j2 : List Int → Int → Int → List GNode → Option GTree) : Nat → List Int → Int → Int → Int → List GNode → Option GTree
  | 0, _, _, _, _, _ => none
  | n + 1, v6, v7, v8, v9, v10 => (if (decide (v7 < (List.length p0.Kids : Int))) = true then (apd 8 v6 [v9]).bind fun (l11 : List Int) => (idx p0.Kids v7).bind fun (e12 : GView) => (self_ref14_build e12 p2.Next (GTree.mk v8 v9 v10)).bind fun (y13 : GTree) => ref14_build_L0 p0 self_ref14_build p2 j2 n l11 (IntKind.wrap .i64 (v7 + 1)) y13.Root y13.Next y13.Nodes else j2 v6 v8 v9 v10)
def ref14_build_body (self_ref14_build : GView → Int → GTree → Option GTree) (n : Nat) (p0 : GView) (p1 : Int) (p2 : GTree) : Option GTree := (apd 112 p2.Nodes [(GNode.mk p2.Next p1 p0.Kind p0.Key p0.Attrs p0.Actions ([] : List Int))]).bind fun (l1 : List GNode) => (withJ (fun (v19 : List Int) (v20 : Int) (v21 : Int) (v22 : List GNode) => (inb (List.length p2.Nodes : Int) (List.length v22)).bind fun (k23 : Nat) => (v22[k23]?).bind fun (e24 : GNode) => some (GTree.mk v20 v21 (List.set v22 k23 (GNode.mk e24.ID e24.Parent e24.Kind e24.Key e24.Attrs e24.Actions v19)))) (fun (j2 : List Int → Int → Int → List GNode → Option GTree) => ref14_build_L0 p0 self_ref14_build p2 j2 n ([] : List Int) 0 p2.Root (IntKind.wrap .i64 (p2.Next + 1)) l1))
theorem ref14_build_body_ok (self_ref14_build : GView → Int → GTree → Option GTree) (ih_ref14_build : ∀ (p0 : GView) (p1 : Int) (p2 : GTree) (r : GTree), self_ref14_build p0 p1 p2 = some r → FnD E 48 1 [.agg [I p0.Kind, Sx p0.Key, .lit (List.map eGAttr p0.Attrs), .lit (List.map eGAction p0.Actions), .lit (List.map eGView p0.Kids)], .c (I p1), .agg [I p2.Root, I p2.Next, .row 0]] [(0, .vec 64 7 (List.map eGNode p2.Nodes))] (.agg [I r.Root, I r.Next, .row 1]) [(1, .vec 64 7 (List.map eGNode r.Nodes))]) (n : Nat) (p0 : GView) (p1 : Int) (p2 : GTree) (r : GTree) (h : ref14_build_body self_ref14_build n p0 p1 p2 = some r) : FnD E 48 1 [.agg [I p0.Kind, Sx p0.Key, .lit (List.map eGAttr p0.Attrs), .lit (List.map eGAction p0.Actions), .lit (List.map eGView p0.Kids)], .c (I p1), .agg [I p2.Root, I p2.Next, .row 0]] [(0, .vec 64 7 (List.map eGNode p2.Nodes))] (.agg [I r.Root, I r.Next, .row 1]) [(1, .vec 64 7 (List.map eGNode r.Nodes))] := by
  refine zfn Tryd.func48 rfl ?_
  unfold ref14_build_body at h
  refine za [1, 3, 5, 6] ?_
  refine za [1, 3, 5, 6, 7] ?_
  refine zx fun _ => ?_
  refine zk 2 ?_
  refine rx_rd (v := .c (I (List.length p2.Nodes : Int))) (foot := [0]) (rd_lenV (enc := eGNode) (l := p2.Nodes) (n := 0) (by kernel_rfl)) (by kernel_rfl) rfl rfl ?_
  refine zk 1 ?_
  refine ze [1, 3, 5, 6, 7, 8] ?_
  refine zx fun _ => ?_
  refine zk 14 ?_
  obtain ⟨l1, he, h⟩ := bindE h
  refine rx_appendV (enc := eGNode) (l := p2.Nodes) (els := [(GNode.mk p2.Next p1 p0.Kind p0.Key p0.Attrs p0.Actions ([] : List Int))]) (r := l1) (m := 0) (e := 64) (sz := 7) (bytes := 112) (nm := 25) he (by kernel_rfl) (fun x => by kernel_rfl) (by kernel_rfl) (by kernel_rfl) rfl rfl rfl ?_
  clear he
  refine zk 2 ?_
  refine ze [3, 5, 6, 7, 8] ?_
  refine za [3, 5, 6, 7, 8] ?_
  refine za [3, 5, 6, 7, 8, 9] ?_
  refine aw_join h (fun A j => ∀ v19 v20 v21 v22, j v19 v20 v21 v22 = some r → A (mk [(5, .c (.ptr 1 0)), (6, .c (.ptr 2 0)), (8, .c (I (List.length p2.Nodes : Int))), (9, .c (.app 3 (List.map eI64 v19)))] [(1, .blk 49 [I v20, I v21, .row 4]), (2, .blk 49 [I 0, I 0, NilS]), (3, .tok 3 1 (List.length v19)), (4, .vec 64 7 (List.map eGNode v22))] 5)) (fun v19 v20 v21 v22 h => ?_) (fun j2 Aj2 hj2 h => ?_)
  refine zx fun _ => ?_
  refine zk 4 ?_
  obtain ⟨k23, he, h⟩ := bindE h
  refine rx_rd (v := .c (.ptr 4 (k23 * 7))) (foot := [4]) (rd_rowA (enc := eGNode) (l := v22) (n := 4) (sz := 7) (k := k23) (ix := (List.length p2.Nodes : Int)) he (by kernel_rfl)) (by kernel_rfl) rfl rfl ?_
  have hb_k23 := inb_lt he; clear he
  refine zk 1 ?_
  obtain ⟨e24, he, h⟩ := bindE h
  refine rx_storeV (enc := eGNode) (n := 4) (q := k23) (f := 6) (sz := 7) (T0 := 64) (lp := [.lit (List.map eI64 v19)]) (l := v22) (e := e24) (e2 := (GNode.mk e24.ID e24.Parent e24.Kind e24.Key e24.Attrs e24.Actions v19)) he (by kernel_rfl) (by simp only [List.length_cons, List.length_nil]; omega) (by kernel_rfl) (by kernel_rfl) rfl rfl ?_
  clear he
  refine ze [5, 6] ?_
  refine za [6] ?_
  have h := Option.some.inj h
  subst h
  refine aw_views (views_of rfl [(4, 1), (2, 2)] [6] (L2 := [(6, .c (.ptr 2 0))]) (G2 := [(1, .vec 64 7 (List.map eGNode (List.set v22 k23 (GNode.mk e24.ID e24.Parent e24.Kind e24.Key e24.Attrs e24.Actions v19)))), (2, .blk 49 [I v20, I v21, .row 1])]) (lim2 := 3) (by kernel_rfl)) ?_
  exact aw_ret (fin_own (.inl rfl) (by kernel_rfl) (by kernel_rfl))
  refine za [3, 5, 6, 7, 8, 9, 10] ?_
  refine aw_block ?_
  refine aw_loopJ (fun n s => ∃ v6 v7 v8 v9 v10, ref14_build_L0 p0 self_ref14_build p2 j2 n v6 v7 v8 v9 v10 = some r ∧ s = mk [(3, .c (.ptr 1 0)), (5, .c (.ptr 2 0)), (6, .c (.ptr 3 0)), (7, .c (I p2.Next)), (8, .c (I (List.length p2.Nodes : Int))), (9, .c (.app 4 (List.map eI64 v6))), (10, .c (I v7))] [(1, .blk 75 [I p0.Kind, Sx p0.Key, .lit (List.map eGAttr p0.Attrs), .lit (List.map eGAction p0.Actions), .lit (List.map eGView p0.Kids)]), (2, .blk 49 [I v8, I v9, .row 5]), (3, .blk 49 [I 0, I 0, NilS]), (4, .tok 3 1 (List.length v6)), (5, .vec 64 7 (List.map eGNode v10))] 6) n _ (Views.trans (view_nilS (L2 := [(3, .c (.ptr 1 0)), (5, .c (.ptr 2 0)), (6, .c (.ptr 3 0)), (7, .c (I p2.Next)), (8, .c (I (List.length p2.Nodes : Int))), (9, .c (.app 35 (List.map eI64 ([] : List Int)))), (10, .c (I 0))]) (G2 := [(1, .blk 75 [I p0.Kind, Sx p0.Key, .lit (List.map eGAttr p0.Attrs), .lit (List.map eGAction p0.Actions), .lit (List.map eGView p0.Kids)]), (2, .blk 49 [I p2.Root, I (IntKind.wrap .i64 (p2.Next + 1)), .row 25]), (3, .blk 49 [I 0, I 0, NilS]), (24, .tok 64 7 (List.length [(GNode.mk p2.Next p1 p0.Kind p0.Key p0.Attrs p0.Actions ([] : List Int))])), (25, .vec 64 7 (List.map eGNode l1)), (35, .tok 3 1 (List.length ([] : List Int)))]) (lim2 := 36) 9 3 1 (by kernel_rfl) (by kernel_rfl) (by kernel_rfl) (by kernel_rfl)) (zv [(1, 1), (2, 2), (3, 3), (35, 4), (25, 5)] [3, 5, 6, 7, 8, 9, 10] 6)) ⟨_, _, _, _, _, h, rfl⟩ (fun s ⟨v6, v7, v8, v9, v10, h, _⟩ => nomatch h) ?_
  rintro n s ⟨v6, v7, v8, v9, v10, h, rfl⟩
  rw [ref14_build_L0] at h
  refine aw_seq ?_
  refine zx fun _ => ?_
  refine zk 3 ?_
  refine zl eGView p0.Kids ?_
  refine zk 1 ?_
  refine ze [3, 5, 6, 7, 8, 9, 10, 40] ?_
  refine zi h (fun h => ?_) fun h => ?_
  refine aw_skip ?_
  refine aw_seq ?_
  refine aw_block ?_
  refine zx fun _ => ?_
  refine zk 4 ?_
  obtain ⟨l11, he, h⟩ := bindE h
  refine rx_append (enc := eI64) (l := v6) (els := [v9]) (r := l11) (old := some 4) (e := 3) (sz := 1) (bytes := 8) (k := (List.length v6)) (nm := 15) he (by kernel_rfl) (by kernel_rfl) (fun x => by kernel_rfl) (by kernel_rfl) (by kernel_rfl) rfl rfl rfl ?_
  clear he
  refine zk 1 ?_
  refine ze [3, 5, 6, 7, 8, 9, 10] ?_
  refine zdy [[], [0], [], [1, 2, 0], [3, 1, 2, 0], [], [], [4, 5, 6, 3, 1, 2, 0], [7, 0, 1, 2, 3, 4, 5, 6]] fun _ => ?_
  refine zk 3 ?_
  obtain ⟨e12, he, h⟩ := bindE h
  refine rx_rd (v := .c (.imm [I e12.Kind, Sx e12.Key, .lit (List.map eGAttr e12.Attrs), .lit (List.map eGAction e12.Actions), .lit (List.map eGView e12.Kids)])) (foot := []) (rd_idx (enc := eGView) (sz := 5) (l := p0.Kids) (ix := v7) he (by kernel_rfl) (eGView_eq e12) (by kernel_rfl)) (by kernel_rfl) rfl rfl ?_
  clear he
  refine zk 3 ?_
  obtain ⟨y13, he, h⟩ := bindE h
  refine rx_callN (F := 48) (As := [.agg [I e12.Kind, Sx e12.Key, .lit (List.map eGAttr e12.Attrs), .lit (List.map eGAction e12.Actions), .lit (List.map eGView e12.Kids)], .c (I p2.Next), .agg [I v8, I v9, .row 5]]) (Bs := [.agg [I e12.Kind, Sx e12.Key, .lit (List.map eGAttr e12.Attrs), .lit (List.map eGAction e12.Actions), .lit (List.map eGView e12.Kids)], .c (I p2.Next), .agg [I v8, I v9, .row 0]]) (σ := [(0, 5), (1, 24)]) (k := 1) (kn := 1) (nm := 24) (Gc := [(0, .vec 64 7 (List.map eGNode v10))]) (Gf := [(1, .vec 64 7 (List.map eGNode y13.Nodes))]) (r := .agg [I y13.Root, I y13.Next, .row 1]) (v := .agg [I y13.Root, I y13.Next, .row 24]) (by kernel_rfl) fok48 ⟨.inl (by kernel_rfl), ⟨.inl (by kernel_rfl), ⟨.inr ⟨(by kernel_rfl), (by kernel_rfl)⟩, trivial⟩⟩⟩ (ih_ref14_build _ _ _ y13 he) (by kernel_rfl) (by kernel_rfl) (by kernel_rfl) (by kernel_rfl) (by kernel_rfl) (by kernel_rfl) rfl rfl rfl ?_
  clear he
  refine zk 1 ?_
  refine x_last ?_
  refine aw_out ?_
  refine zb ?_
  exact via (zv [(1, 1), (2, 2), (3, 3), (15, 4), (24, 5)] [3, 5, 6, 7, 8, 9, 10] 6) (⟨_, _, _, _, _, h, rfl⟩)
  exact aw_views (zv [(2, 1), (3, 2), (4, 3), (5, 4)] [5, 6, 8, 9] 5) (aw_exit (hj2 _ _ _ _ h))
def ref14_build : Nat → GView → Int → GTree → Option GTree
  | 0, _, _, _ => none
  | n + 1, p0, p1, p2 => ref14_build_body (fun a0 a1 a2 => ref14_build n a0 a1 a2) n p0 p1 p2
theorem ref14_build_ok (n : Nat) : (∀ (p0 : GView) (p1 : Int) (p2 : GTree) (r : GTree), ref14_build n p0 p1 p2 = some r → FnD E 48 1 [.agg [I p0.Kind, Sx p0.Key, .lit (List.map eGAttr p0.Attrs), .lit (List.map eGAction p0.Actions), .lit (List.map eGView p0.Kids)], .c (I p1), .agg [I p2.Root, I p2.Next, .row 0]] [(0, .vec 64 7 (List.map eGNode p2.Nodes))] (.agg [I r.Root, I r.Next, .row 1]) [(1, .vec 64 7 (List.map eGNode r.Nodes))]) := by
  induction n with
  | zero => intro p0 p1 p2 r h; rw [ref14_build] at h; cases h
  | succ n ih => intro p0 p1 p2 r h; rw [ref14_build] at h; exact ref14_build_body_ok _ ih n _ _ _ r h
def ref14_Build  (n : Nat) (p0 : GView) (p1 : Int) : Option (GTree × Int) := (ref14_Validate n p0).bind fun (y1 : Int) => (if (y1 != 0) = true then some ((GTree.mk 0 0 ([] : List GNode)), y1) else (if ((decide (p1 < 1)) || (decide (p1 > 1099511627376))) = true then some ((GTree.mk 0 0 ([] : List GNode)), 1) else (ref14_build n p0 0 (GTree.mk p1 p1 ([] : List GNode))).bind fun (y2 : GTree) => some (y2, 0)))
theorem ref14_Build_ok  (n : Nat) (p0 : GView) (p1 : Int) (r : (GTree × Int)) (h : ref14_Build n p0 p1 = some r) : FnD E 27 0 [.agg [I p0.Kind, Sx p0.Key, .lit (List.map eGAttr p0.Attrs), .lit (List.map eGAction p0.Actions), .lit (List.map eGView p0.Kids)], .c (I p1)] [] (.tup [.agg [I r.1.Root, I r.1.Next, .lit (List.map eGNode r.1.Nodes)], .c (I r.2)]) [] := by
  refine zfn Tryd.func27 rfl ?_
  unfold ref14_Build at h
  refine za [1, 2, 4] ?_
  refine aw_seq ?_
  refine zx fun _ => ?_
  refine zk 1 ?_
  obtain ⟨y1, he, h⟩ := bindE h
  refine zc fok47 (ref14_Validate_ok n _ y1 he) ?_
  clear he
  refine zk 1 ?_
  refine ze [1, 2, 4, 6] ?_
  refine za [1, 2, 4, 6, 11] ?_
  refine zi h (fun h => ?_) fun h => ?_
  refine za [4, 5] ?_
  cases h
  exact aw_ret zr
  refine aw_skip ?_
  refine aw_seq ?_
  refine zx fun _ => ?_
  refine zk 3 ?_
  refine zE (.c (I p1)) ?_
  refine zE (.c (Bo (decide (p1 > 1099511627376)))) ?_
  refine zP (.bool ((decide (p1 < 1)) || (decide (p1 > 1099511627376)))) ?_
  refine ze [1, 2, 4, 19] ?_
  refine zi h (fun h => ?_) fun h => ?_
  refine za [4, 5] ?_
  cases h
  exact aw_ret zr
  refine aw_skip ?_
  refine za [2, 4, 7] ?_
  refine zx fun _ => ?_
  refine zk 2 ?_
  obtain ⟨y2, he, h⟩ := bindE h
  refine rx_callN (F := 48) (As := [.agg [I p0.Kind, Sx p0.Key, .lit (List.map eGAttr p0.Attrs), .lit (List.map eGAction p0.Actions), .lit (List.map eGView p0.Kids)], .c (I 0), .agg [I p1, I p1, NilS]]) (Bs := [.agg [I p0.Kind, Sx p0.Key, .lit (List.map eGAttr p0.Attrs), .lit (List.map eGAction p0.Actions), .lit (List.map eGView p0.Kids)], .c (I 0), .agg [I p1, I p1, NilS]]) (σ := [(1, 21)]) (k := 0) (kn := 1) (nm := 21) (Gc := []) (Gf := [(1, .vec 64 7 (List.map eGNode y2.Nodes))]) (r := .agg [I y2.Root, I y2.Next, .row 1]) (v := .agg [I y2.Root, I y2.Next, .row 21]) (by kernel_rfl) fok48 ⟨.inl (by kernel_rfl), ⟨.inl (by kernel_rfl), ⟨.inr ⟨(by kernel_rfl), (by kernel_rfl)⟩, trivial⟩⟩⟩ (FnD.nil1 (ref14_build_ok n _ _ _ y2 he) rfl rfl) (by kernel_rfl) (by kernel_rfl) (by kernel_rfl) (by kernel_rfl) (by kernel_rfl) (by kernel_rfl) rfl rfl rfl ?_
  clear he
  refine zk 2 ?_
  refine zee [4, 5] (L2 := [(4, .c (.ptr 1 0)), (5, .c (I 0))]) (G2 := [(0, .blk 75 [I p0.Kind, Sx p0.Key, .lit (List.map eGAttr p0.Attrs), .lit (List.map eGAction p0.Actions), .lit (List.map eGView p0.Kids)]), (1, .blk 49 [I y2.Root, I y2.Next, .row 21]), (17, .blk 49 [I p1, I p1, NilS]), (21, .vec 64 7 (List.map eGNode y2.Nodes))]) 24 ?_
  refine aw_views (view_frzV 21 (T := 64) (sz := 7) (l := List.map eGNode y2.Nodes) (L2 := [(4, .c (.ptr 1 0)), (5, .c (I 0))]) (G2 := [(0, .blk 75 [I p0.Kind, Sx p0.Key, .lit (List.map eGAttr p0.Attrs), .lit (List.map eGAction p0.Actions), .lit (List.map eGView p0.Kids)]), (1, .blk 49 [I y2.Root, I y2.Next, .lit (List.map eGNode y2.Nodes)]), (17, .blk 49 [I p1, I p1, NilS])]) (by kernel_rfl) (by kernel_rfl) (by kernel_rfl)) ?_
  cases h
  exact aw_ret zr
def expr_Name_L0 (p0 : ByteArray) (j1 : Unit → Option Bool) : Nat → Int → Option Bool
  | 0, _ => none
  | n + 1, v3 => (if (decide (v3 < (ByteArray.size p0 : Int))) = true then (sidx p0 v3).bind fun (u4 : Int) => (if ((!(((decide (u4 ≥ 97)) && (decide (u4 ≤ 122))) || ((decide (u4 ≥ 65)) && (decide (u4 ≤ 90))))) && ((v3 == 0) || ((((decide (u4 < 48)) || (decide (u4 > 57))) && (u4 != 45)) && (u4 != 95)))) = true then some false else expr_Name_L0 p0 j1 n (IntKind.wrap .i64 (v3 + 1))) else j1 ())
def expr_Name  (n : Nat) (p0 : ByteArray) : Option Bool := (if (((ByteArray.size p0 : Int) == 0) || (decide ((ByteArray.size p0 : Int) > 24))) = true then some false else (withJ (fun (_ : Unit) => some true) (fun (j1 : Unit → Option Bool) => expr_Name_L0 p0 j1 n 0)))
theorem expr_Name_ok  (n : Nat) (p0 : ByteArray) (r : Bool) (h : expr_Name n p0 = some r) : FnD E 29 0 [.c (Sx p0)] [] (.c (Bo r)) [] := by
  refine zfn Tryd.func29 rfl ?_
  unfold expr_Name at h
  refine za [0] ?_
  refine aw_seq ?_
  refine zx fun _ => ?_
  refine zk 4 ?_
  refine zE (.c (Sx p0)) ?_
  refine zE (.c (I (ByteArray.size p0 : Int))) ?_
  refine zE (.c (Bo (decide ((ByteArray.size p0 : Int) > 24)))) ?_
  refine zP (.bool (((ByteArray.size p0 : Int) == 0) || (decide ((ByteArray.size p0 : Int) > 24)))) ?_
  refine ze [0, 13] ?_
  refine zi h (fun h => ?_) fun h => ?_
  refine za [2] ?_
  cases h
  exact aw_ret zr
  refine aw_skip ?_
  refine aw_join h (fun A j => ∀ u, j u = some r → A (mk [] [] 0)) (fun u h => ?_) (fun j1 Aj1 hj1 h => ?_)
  refine za [2] ?_
  cases h
  exact aw_ret zr
  refine za [0, 15, 16] ?_
  refine aw_block ?_
  refine aw_loopJ (fun n s => ∃ v3, expr_Name_L0 p0 j1 n v3 = some r ∧ s = mk [(0, .c (Sx p0)), (15, .c (I (ByteArray.size p0 : Int))), (16, .c (I v3))] [] 0) n _ (zv [] [0, 15, 16] 0) ⟨_, h, rfl⟩ (fun s ⟨v3, h, _⟩ => nomatch h) ?_
  rintro n s ⟨v3, h, rfl⟩
  rw [expr_Name_L0] at h
  refine za [0, 15, 16, 17] ?_
  refine aw_seq ?_
  refine zi h (fun h => ?_) fun h => ?_
  refine aw_skip ?_
  refine aw_seq ?_
  refine aw_block ?_
  refine za [0, 3, 15, 16] ?_
  refine zx fun _ => ?_
  refine zk 2 ?_
  obtain ⟨u4, he, h⟩ := bindE h
  refine zs he ?_
  clear he
  refine zk 1 ?_
  refine ze [0, 3, 4, 15, 16] ?_
  refine zx fun _ => ?_
  refine zk 3 ?_
  refine zE (.c (U8 u4)) ?_
  refine zE (.c (Bo (decide (u4 ≤ 122)))) ?_
  refine zP (.bool ((decide (u4 ≥ 97)) && (decide (u4 ≤ 122)))) ?_
  refine zk 1 ?_
  refine zE (.c (U8 u4)) ?_
  refine zE (.c (Bo (decide (u4 ≥ 65)))) ?_
  refine zF [(!((decide (u4 ≥ 97)) && (decide (u4 ≤ 122))))] (.c (Bo (decide (u4 ≥ 65)))) ?_
  refine zE (.c (U8 u4)) ?_
  refine zE (.c (Bo (decide (u4 ≤ 90)))) ?_
  refine zP (.bool ((decide (u4 ≥ 65)) && (decide (u4 ≤ 90)))) ?_
  refine zP (.bool (((decide (u4 ≥ 97)) && (decide (u4 ≤ 122))) || ((decide (u4 ≥ 65)) && (decide (u4 ≤ 90))))) ?_
  refine zk 1 ?_
  refine zee [0, 3, 4, 5, 15, 16] (L2 := [(0, .c (Sx p0)), (15, .c (I (ByteArray.size p0 : Int))), (16, .c (I v3)), (3, .c (I v3)), (4, .c (U8 u4)), (5, .c (Bo (((decide (u4 ≥ 97)) && (decide (u4 ≤ 122))) || ((decide (u4 ≥ 65)) && (decide (u4 ≤ 90))))))]) (G2 := []) 22 ?_
  refine zx fun _ => ?_
  refine zk 3 ?_
  refine zE (.c (I v3)) ?_
  refine zE (.c (Bo (v3 == 0))) ?_
  refine zF [(!(((decide (u4 ≥ 97)) && (decide (u4 ≤ 122))) || ((decide (u4 ≥ 65)) && (decide (u4 ≤ 90)))))] (.c (Bo (v3 == 0))) ?_
  refine zE (.c (U8 u4)) ?_
  refine zE (.c (Bo (decide (u4 < 48)))) ?_
  refine zF [(!(((decide (u4 ≥ 97)) && (decide (u4 ≤ 122))) || ((decide (u4 ≥ 65)) && (decide (u4 ≤ 90))))), (!(v3 == 0))] (.c (Bo (decide (u4 < 48)))) ?_
  refine zE (.c (U8 u4)) ?_
  refine zE (.c (Bo (decide (u4 > 57)))) ?_
  refine zP (.bool ((decide (u4 < 48)) || (decide (u4 > 57)))) ?_
  refine zF [(!(((decide (u4 ≥ 97)) && (decide (u4 ≤ 122))) || ((decide (u4 ≥ 65)) && (decide (u4 ≤ 90))))), (!(v3 == 0))] (.c (Bo ((decide (u4 < 48)) || (decide (u4 > 57))))) ?_
  refine zE (.c (U8 u4)) ?_
  refine zE (.c (Bo (u4 != 45))) ?_
  refine zP (.bool (((decide (u4 < 48)) || (decide (u4 > 57))) && (u4 != 45))) ?_
  refine zF [(!(((decide (u4 ≥ 97)) && (decide (u4 ≤ 122))) || ((decide (u4 ≥ 65)) && (decide (u4 ≤ 90))))), (!(v3 == 0))] (.c (Bo (((decide (u4 < 48)) || (decide (u4 > 57))) && (u4 != 45)))) ?_
  refine zE (.c (U8 u4)) ?_
  refine zE (.c (Bo (u4 != 95))) ?_
  refine zP (.bool ((((decide (u4 < 48)) || (decide (u4 > 57))) && (u4 != 45)) && (u4 != 95))) ?_
  refine zP (.bool ((v3 == 0) || ((((decide (u4 < 48)) || (decide (u4 > 57))) && (u4 != 45)) && (u4 != 95)))) ?_
  refine zP (.bool ((!(((decide (u4 ≥ 97)) && (decide (u4 ≤ 122))) || ((decide (u4 ≥ 65)) && (decide (u4 ≤ 90))))) && ((v3 == 0) || ((((decide (u4 < 48)) || (decide (u4 > 57))) && (u4 != 45)) && (u4 != 95))))) ?_
  refine zee [0, 15, 16, 57] (L2 := [(0, .c (Sx p0)), (15, .c (I (ByteArray.size p0 : Int))), (16, .c (I v3)), (57, .c (Bo ((!(((decide (u4 ≥ 97)) && (decide (u4 ≤ 122))) || ((decide (u4 ≥ 65)) && (decide (u4 ≤ 90))))) && ((v3 == 0) || ((((decide (u4 < 48)) || (decide (u4 > 57))) && (u4 != 45)) && (u4 != 95))))))]) (G2 := []) 44 ?_
  refine zi h (fun h => ?_) fun h => ?_
  refine za [2] ?_
  cases h
  exact aw_ret zr
  refine aw_skip ?_
  refine aw_out ?_
  refine zb ?_
  exact via (zv [] [0, 15, 16] 0) (⟨_, h, rfl⟩)
  exact aw_views (zv [] [] 0) (aw_exit (hj1 _ h))
def style_declaration  (n : Nat) (p0 : GDecl) (p1 : Int) : Option Int := (style_exists n p0.Prop_).bind fun (y1 : Bool) => (if (!y1) = true then some 1 else (withJ (fun (v3 : Bool) => (if v3 = true then some 9 else (gd [(p0.Source == 0)] (style_InRange n p0.Prop_ p0.N)).bind fun (y4 : Bool) => (if ((p0.Source == 0) && (!y4)) = true then some 1 else (gd [(p0.Source == 1)] (expr_Name n p0.Token)).bind fun (y5 : Bool) => (if ((p0.Source == 1) && (!y5)) = true then some 4 else (if (((p0.Prop_ == 5) || (p0.Prop_ == 21)) && ((bAnd .i64 p1 7) != 0)) = true then some 13 else some 0))))) (fun (j2 : Bool → Option Int) => (if ((decide (p0.Source < 0)) || (decide (p0.Source > 3))) = true then j2 ((decide (p0.Source < 0)) || (decide (p0.Source > 3))) else (if ((p0.N != 0) && (p0.Source != 0)) = true then j2 ((p0.N != 0) && (p0.Source != 0)) else j2 ((!(sEq p0.Token (⟨#[]⟩ : ByteArray))) && (p0.Source != 1)))))))
theorem style_declaration_ok  (n : Nat) (p0 : GDecl) (p1 : Int) (r : Int) (h : style_declaration n p0 p1 = some r) : FnD E 30 0 [.agg [I p0.Prop_, I p0.Source, I p0.N, Sx p0.Token], .c (I p1)] [] (.c (I r)) [] := by
  refine zfn Tryd.func30 rfl ?_
  unfold style_declaration at h
  refine za [1, 2] ?_
  refine aw_seq ?_
  refine aw_block ?_
  refine zx fun _ => ?_
  refine zk 2 ?_
  obtain ⟨y1, he, h⟩ := bindE h
  refine zc fok28 (style_exists_ok n _ y1 he) ?_
  clear he
  refine zk 2 ?_
  refine ze [1, 2, 5] ?_
  refine zi h (fun h => ?_) fun h => ?_
  refine za [4] ?_
  cases h
  exact aw_ret zr
  refine aw_join h (fun A j => ∀ v3, j v3 = some r → A (mk [(1, .c (I p1)), (2, .c (.ptr 0 0)), (10, .c (Bo v3))] [(0, .blk 45 [I p0.Prop_, I p0.Source, I p0.N, Sx p0.Token])] 1)) (fun v3 h => ?_) (fun j2 Aj2 hj2 h => ?_)
  refine zi h (fun h => ?_) fun h => ?_
  refine za [4] ?_
  cases h
  exact aw_ret zr
  refine zx fun _ => ?_
  refine zk 4 ?_
  refine zE (.c (.ptr 0 0)) ?_
  refine zE (.c (I p0.Prop_)) ?_
  refine zE (.c (.ptr 0 2)) ?_
  refine zE (.c (I p0.N)) ?_
  obtain ⟨y4, he, h⟩ := bindE h
  refine zk1 [(p0.Source == 0)] fok11 (fun hg => style_InRange_ok n _ _ y4 (gd_spec he hg)) ?_
  clear he
  refine zE (.c (Bo (!y4))) ?_
  refine zP (.bool ((p0.Source == 0) && (!y4))) ?_
  refine zk 1 ?_
  refine ze [1, 2, 35] ?_
  refine zi h (fun h => ?_) fun h => ?_
  refine za [4] ?_
  cases h
  exact aw_ret zr
  refine zx fun _ => ?_
  refine zk 4 ?_
  refine zE (.c (.ptr 0 3)) ?_
  refine zE (.c (Sx p0.Token)) ?_
  obtain ⟨y5, he, h⟩ := bindE h
  refine zk1 [(p0.Source == 1)] fok29 (fun hg => expr_Name_ok n _ y5 (gd_spec he hg)) ?_
  clear he
  refine zE (.c (Bo (!y5))) ?_
  refine zP (.bool ((p0.Source == 1) && (!y5))) ?_
  refine zk 1 ?_
  refine zee [1, 2, 47] (L2 := [(1, .c (I p1)), (2, .c (.ptr 0 0)), (47, .c (Bo ((p0.Source == 1) && (!y5))))]) (G2 := [(0, .blk 45 [I p0.Prop_, I p0.Source, I p0.N, Sx p0.Token])]) 23 ?_
  refine zi h (fun h => ?_) fun h => ?_
  refine za [4] ?_
  cases h
  exact aw_ret zr
  refine zx fun _ => ?_
  refine zk 4 ?_
  refine zE (.c (.ptr 0 0)) ?_
  refine zE (.c (I p0.Prop_)) ?_
  refine zE (.c (Bo (p0.Prop_ == 21))) ?_
  refine zP (.bool ((p0.Prop_ == 5) || (p0.Prop_ == 21))) ?_
  refine zk 1 ?_
  refine zE (.c (I p1)) ?_
  refine zE (.c (I (bAnd .i64 p1 7))) ?_
  refine zE (.c (Bo ((bAnd .i64 p1 7) != 0))) ?_
  refine zP (.bool (((p0.Prop_ == 5) || (p0.Prop_ == 21)) && ((bAnd .i64 p1 7) != 0))) ?_
  refine zk 1 ?_
  refine zee [57] (L2 := [(57, .c (Bo (((p0.Prop_ == 5) || (p0.Prop_ == 21)) && ((bAnd .i64 p1 7) != 0))))]) (G2 := [(0, .blk 45 [I p0.Prop_, I p0.Source, I p0.N, Sx p0.Token])]) 37 ?_
  refine zi h (fun h => ?_) fun h => ?_
  refine za [4] ?_
  cases h
  exact aw_ret zr
  refine aw_skip ?_
  refine za [4] ?_
  cases h
  exact aw_ret zr
  refine zx fun _ => ?_
  refine zk 4 ?_
  refine zE (.c (.ptr 0 1)) ?_
  refine zE (.c (I p0.Source)) ?_
  refine zE (.c (Bo (decide (p0.Source > 3)))) ?_
  refine zP (.bool ((decide (p0.Source < 0)) || (decide (p0.Source > 3)))) ?_
  refine zk 1 ?_
  refine zee [1, 2, 10] (L2 := [(1, .c (I p1)), (2, .c (.ptr 0 0)), (10, .c (Bo ((decide (p0.Source < 0)) || (decide (p0.Source > 3)))))]) (G2 := [(0, .blk 45 [I p0.Prop_, I p0.Source, I p0.N, Sx p0.Token])]) 16 ?_
  refine zi h (fun h => ?_) fun h => ?_
  exact aw_views (zv [(0, 0)] [1, 2, 10] 1) (aw_skip (hj2 _ h))
  refine zx fun _ => ?_
  refine zk 4 ?_
  refine zE (.c (.ptr 0 1)) ?_
  refine zE (.c (I p0.Source)) ?_
  refine zE (.c (Bo (p0.Source != 0))) ?_
  refine zP (.bool ((p0.N != 0) && (p0.Source != 0))) ?_
  refine zk 1 ?_
  refine ze [1, 2, 10] ?_
  refine zi h (fun h => ?_) fun h => ?_
  exact aw_views (zv [(0, 0)] [1, 2, 10] 1) (aw_skip (hj2 _ h))
  refine aw_out ?_
  refine zy fun _ => ?_
  refine zk 4 ?_
  refine zE (.c (.ptr 0 1)) ?_
  refine zE (.c (I p0.Source)) ?_
  refine zE (.c (Bo (p0.Source != 1))) ?_
  refine zP (.bool ((!(sEq p0.Token (⟨#[]⟩ : ByteArray))) && (p0.Source != 1))) ?_
  refine zk 1 ?_
  refine x_last ?_
  exact via (zv [(0, 0)] [1, 2, 10] 1) (hj2 _ h)
end Go.Proofs.YtojkihhnioeggaaDoor.S
