/- Functions, and that the program's are they. Printed by ext.py. -/
import Derived.Test.YtojkihhnioeggaaDoorGI2
set_option linter.unusedVariables false
set_option linter.unusedSimpArgs false
set_option maxRecDepth 100000
set_option maxHeartbeats 4000000
namespace Go.Proofs.YtojkihhnioeggaaDoor.S
open Go Go.Bm
def expr_join_body (self_expr_join : GType → GType → Option (GType × Bool)) (n : Nat) (p0 : GType) (p1 : GType) : Option (GType × Bool) := (if (p0.Kind != p1.Kind) = true then some ((GType.mk 0 ([] : List GType)), false) else (if ((List.length p0.Of : Int) == 0) = true then some (p1, true) else (if ((List.length p1.Of : Int) == 0) = true then some (p0, true) else (idx p0.Of 0).bind fun (e1 : GType) => (idx p1.Of 0).bind fun (e2 : GType) => (self_expr_join e1 e2).bind fun (y3 : (GType × Bool)) => (if (!y3.2) = true then some ((GType.mk 0 ([] : List GType)), false) else (expr_listOf n y3.1).bind fun (y4 : GType) => some (y4, true)))))
theorem expr_join_body_ok (self_expr_join : GType → GType → Option (GType × Bool)) (ih_expr_join : ∀ (p0 : GType) (p1 : GType) (r : (GType × Bool)), self_expr_join p0 p1 = some r → FnD E 113 0 [.agg [I p0.Kind, .lit (List.map eGType p0.Of)], .agg [I p1.Kind, .lit (List.map eGType p1.Of)]] [] (.tup [.agg [I r.1.Kind, .lit (List.map eGType r.1.Of)], .c (Bo r.2)]) []) (n : Nat) (p0 : GType) (p1 : GType) (r : (GType × Bool)) (h : expr_join_body self_expr_join n p0 p1 = some r) : FnD E 113 0 [.agg [I p0.Kind, .lit (List.map eGType p0.Of)], .agg [I p1.Kind, .lit (List.map eGType p1.Of)]] [] (.tup [.agg [I r.1.Kind, .lit (List.map eGType r.1.Of)], .c (Bo r.2)]) [] := by
  refine zfn Tryd.func113 rfl ?_
  unfold expr_join_body at h
  refine za [2, 3, 4] ?_
  refine aw_seq ?_
  refine aw_block ?_
  refine za [2, 3, 4, 8] ?_
  refine zi h (fun h => ?_) fun h => ?_
  refine za [4, 5] ?_
  cases h
  exact aw_ret zr
  refine zx fun _ => ?_
  refine zk 2 ?_
  refine zl eGType p0.Of ?_
  refine zk 2 ?_
  refine ze [2, 3, 4, 15] ?_
  refine zi h (fun h => ?_) fun h => ?_
  refine za [4, 5] ?_
  cases h
  exact aw_ret zr
  refine zx fun _ => ?_
  refine zk 2 ?_
  refine zl eGType p1.Of ?_
  refine zk 2 ?_
  refine ze [2, 3, 4, 21] ?_
  refine zi h (fun h => ?_) fun h => ?_
  refine za [4, 5] ?_
  cases h
  exact aw_ret zr
  refine aw_skip ?_
  refine zdx [[], [0], [1, 0], [2, 1, 0], [], [4], [5, 4], [6, 5, 4], [3, 7, 2, 1, 0, 6, 5, 4], [8, 3, 7, 2, 1, 0, 6, 5, 4], [9, 8, 3, 7, 2, 1, 0, 6, 5, 4], [9, 8, 3, 7, 2, 1, 0, 6, 5, 4], [], [12, 10, 8, 0, 1, 2, 3, 4, 5, 6, 7, 9], [11, 13, 0, 1, 2, 3, 4, 5, 6, 7, 8, 9, 10, 12]] fun _ => ?_
  refine zk 2 ?_
  obtain ⟨e1, he, h⟩ := bindE h
  refine rx_rd (v := .c (.imm [I e1.Kind, .lit (List.map eGType e1.Of)])) (foot := []) (rd_idx (enc := eGType) (sz := 2) (l := p0.Of) (ix := 0) he (by kernel_rfl) (eGType_eq e1) (by kernel_rfl)) (by kernel_rfl) rfl rfl ?_
  clear he
  refine zk 3 ?_
  obtain ⟨e2, he, h⟩ := bindE h
  refine rx_rd (v := .c (.imm [I e2.Kind, .lit (List.map eGType e2.Of)])) (foot := []) (rd_idx (enc := eGType) (sz := 2) (l := p1.Of) (ix := 0) he (by kernel_rfl) (eGType_eq e2) (by kernel_rfl)) (by kernel_rfl) rfl rfl ?_
  clear he
  refine zk 1 ?_
  obtain ⟨y3, he, h⟩ := bindE h
  refine zc fok113 (ih_expr_join _ _ y3 he) ?_
  clear he
  refine zk 6 ?_
  refine zee [4, 6, 7] (L2 := [(4, .c (.ptr 2 0)), (6, .c (.ptr 32 0)), (7, .c (Bo y3.2))]) (G2 := [(0, .blk 163 [I p0.Kind, .lit (List.map eGType p0.Of)]), (1, .blk 163 [I p1.Kind, .lit (List.map eGType p1.Of)]), (2, .blk 163 [I 0, NilS]), (32, .blk 163 [I y3.1.Kind, .lit (List.map eGType y3.1.Of)])]) 35 ?_
  refine aw_seq ?_
  refine za [4, 6, 40] ?_
  refine zi h (fun h => ?_) fun h => ?_
  refine za [4, 5] ?_
  cases h
  exact aw_ret zr
  refine aw_skip ?_
  refine zx fun _ => ?_
  refine zk 1 ?_
  obtain ⟨y4, he, h⟩ := bindE h
  refine zc fok111 (expr_listOf_ok n _ y4 he) ?_
  clear he
  refine zk 2 ?_
  refine ze [4, 5] ?_
  cases h
  exact aw_ret zr
def expr_join : Nat → GType → GType → Option (GType × Bool)
  | 0, _, _ => none
  | n + 1, p0, p1 => expr_join_body (fun a0 a1 => expr_join n a0 a1) n p0 p1
theorem expr_join_ok (n : Nat) : (∀ (p0 : GType) (p1 : GType) (r : (GType × Bool)), expr_join n p0 p1 = some r → FnD E 113 0 [.agg [I p0.Kind, .lit (List.map eGType p0.Of)], .agg [I p1.Kind, .lit (List.map eGType p1.Of)]] [] (.tup [.agg [I r.1.Kind, .lit (List.map eGType r.1.Of)], .c (Bo r.2)]) []) := by
  induction n with
  | zero => intro p0 p1 r h; rw [expr_join] at h; cases h
  | succ n ih => intro p0 p1 r h; rw [expr_join] at h; exact expr_join_body_ok _ ih n _ _ r h
def expr_common_L0 (l3 : List GType) (j2 : Int → List GType → Option (GType × Bool)) : Nat → Int → Int → List GType → Option (GType × Bool)
  | 0, _, _, _ => none
  | n + 1, v6, v7, v8 => (if (decide (v6 < (List.length l3 : Int))) = true then (idx l3 v6).bind fun (e9 : GType) => (expr_join n (GType.mk v7 v8) e9).bind fun (y10 : (GType × Bool)) => (if (!y10.2) = true then some ((GType.mk 0 ([] : List GType)), false) else expr_common_L0 l3 j2 n (IntKind.wrap .i64 (v6 + 1)) y10.1.Kind y10.1.Of) else j2 v7 v8)
def expr_common  (n : Nat) (p0 : (List GType)) : Option (GType × Bool) := (if ((List.length p0 : Int) == 0) = true then some ((GType.mk 4 ([] : List GType)), true) else (idx p0 0).bind fun (e1 : GType) => (withJ (fun (v14 : Int) (v15 : List GType) => (expr_listOf n (GType.mk v14 v15)).bind fun (y16 : GType) => some (y16, true)) (fun (j2 : Int → List GType → Option (GType × Bool)) => (subl p0 1 (List.length p0 : Int)).bind fun (l3 : List GType) => expr_common_L0 l3 j2 n 0 e1.Kind e1.Of)))
theorem expr_common_ok  (n : Nat) (p0 : (List GType)) (r : (GType × Bool)) (h : expr_common n p0 = some r) : FnD E 110 0 [.c (.lit (List.map eGType p0))] [] (.tup [.agg [I r.1.Kind, .lit (List.map eGType r.1.Of)], .c (Bo r.2)]) [] := by
  refine zfn Tryd.func110 rfl ?_
  unfold expr_common at h
  refine za [0, 2] ?_
  refine aw_seq ?_
  refine zx fun _ => ?_
  refine zk 1 ?_
  refine zl eGType p0 ?_
  refine zk 1 ?_
  refine ze [0, 2, 10] ?_
  refine zi h (fun h => ?_) fun h => ?_
  refine za [2, 3] ?_
  cases h
  exact aw_ret zr
  refine aw_skip ?_
  refine zx fun _ => ?_
  refine zk 1 ?_
  obtain ⟨e1, he, h⟩ := bindE h
  refine rx_rd (v := .c (.imm [I e1.Kind, .lit (List.map eGType e1.Of)])) (foot := []) (rd_idx (enc := eGType) (sz := 2) (l := p0) (ix := 0) he (by kernel_rfl) (eGType_eq e1) (by kernel_rfl)) (by kernel_rfl) rfl rfl ?_
  clear he
  refine zk 3 ?_
  refine ze [0, 2, 4] ?_
  refine aw_join h (fun A j => ∀ v14 v15, j v14 v15 = some r → A (mk [(2, .c (.ptr 0 0)), (4, .c (.ptr 1 0))] [(0, .blk 163 [I 0, NilS]), (1, .blk 163 [I v14, .lit (List.map eGType v15)])] 2)) (fun v14 v15 h => ?_) (fun j2 Aj2 hj2 h => ?_)
  refine zx fun _ => ?_
  refine zk 1 ?_
  obtain ⟨y16, he, h⟩ := bindE h
  refine zc fok111 (expr_listOf_ok n _ y16 he) ?_
  clear he
  refine zk 2 ?_
  refine ze [2, 3] ?_
  cases h
  exact aw_ret zr
  refine zx fun _ => ?_
  refine zk 1 ?_
  obtain ⟨l3, he, h⟩ := bindE h
  refine zw (v := .c (.lit (List.map eGType l3))) [] (rdW_slice (enc := eGType) (l := p0) (p := 1) (q := (List.length p0 : Int)) (sz := 2) he (by kernel_rfl) (fun x => by rw [eGType_eq]; rfl)) ?_
  clear he
  refine zl eGType l3 ?_
  refine zk 1 ?_
  refine zee [2, 4, 16, 17, 18] (L2 := [(2, .c (.ptr 0 0)), (4, .c (.ptr 8 0)), (16, .c (.lit (List.map eGType l3))), (17, .c (I (List.length l3 : Int))), (18, .c (I 0))]) (G2 := [(0, .blk 163 [I 0, NilS]), (8, .blk 163 [I e1.Kind, .lit (List.map eGType e1.Of)])]) 14 ?_
  refine aw_block ?_
  refine aw_loopJ (fun n s => ∃ v6 v7 v8, expr_common_L0 l3 j2 n v6 v7 v8 = some r ∧ s = mk [(2, .c (.ptr 0 0)), (4, .c (.ptr 1 0)), (16, .c (.lit (List.map eGType l3))), (17, .c (I (List.length l3 : Int))), (18, .c (I v6))] [(0, .blk 163 [I 0, NilS]), (1, .blk 163 [I v7, .lit (List.map eGType v8)])] 2) n _ (zv [(0, 0), (8, 1)] [2, 4, 16, 17, 18] 2) ⟨_, _, _, h, rfl⟩ (fun s ⟨v6, v7, v8, h, _⟩ => nomatch h) ?_
  rintro n s ⟨v6, v7, v8, h, rfl⟩
  rw [expr_common_L0] at h
  refine za [2, 4, 16, 17, 18, 19] ?_
  refine aw_seq ?_
  refine zi h (fun h => ?_) fun h => ?_
  refine aw_skip ?_
  refine aw_seq ?_
  refine aw_block ?_
  refine zx fun _ => ?_
  obtain ⟨e9, he, h⟩ := bindE h
  refine rx_rd (v := .c (.imm [I e9.Kind, .lit (List.map eGType e9.Of)])) (foot := []) (rd_idx (enc := eGType) (sz := 2) (l := l3) (ix := v6) he (by kernel_rfl) (eGType_eq e9) (by kernel_rfl)) (by kernel_rfl) rfl rfl ?_
  clear he
  refine zk 3 ?_
  refine ze [2, 4, 6, 16, 17, 18] ?_
  refine za [2, 4, 6, 16, 17, 18] ?_
  refine zx fun _ => ?_
  refine zk 2 ?_
  obtain ⟨y10, he, h⟩ := bindE h
  refine zc fok113 (expr_join_ok n _ _ y10 he) ?_
  clear he
  refine zk 5 ?_
  refine ze [2, 4, 7, 16, 17, 18] ?_
  refine za [2, 4, 16, 17, 18, 29] ?_
  refine zi h (fun h => ?_) fun h => ?_
  refine za [2, 3] ?_
  cases h
  exact aw_ret zr
  refine aw_skip ?_
  refine aw_out ?_
  refine zb ?_
  exact via (zv [(0, 0), (1, 1)] [2, 4, 16, 17, 18] 2) (⟨_, _, _, h, rfl⟩)
  exact aw_views (zv [(0, 0), (1, 1)] [2, 4] 2) (aw_exit (hj2 _ _ h))
def expr_check_L0 (p0 : GValue) (self_expr_check : GValue → Int → Int → Option (GType × Int × Int)) (p1 : Int) (j6 : List GType → Int → Option (GType × Int × Int)) : Nat → List GType → Int → Int → Option (GType × Int × Int)
  | 0, _, _, _ => none
  | n + 1, v10, v11, v12 => (if (decide (v11 < (List.length p0.L : Int))) = true then (idx p0.L v11).bind fun (e13 : GValue) => (self_expr_check e13 (IntKind.wrap .i64 (p1 + 1)) v12).bind fun (y14 : (GType × Int × Int)) => (if (y14.2.1 != 0) = true then some ((GType.mk 0 ([] : List GType)), y14.2.1, y14.2.2) else (apd 32 v10 [y14.1]).bind fun (l15 : List GType) => expr_check_L0 p0 self_expr_check p1 j6 n l15 (IntKind.wrap .i64 (v11 + 1)) y14.2.2) else j6 v10 v12)
def expr_check_body (self_expr_check : GValue → Int → Int → Option (GType × Int × Int)) (n : Nat) (p0 : GValue) (p1 : Int) (p2 : Int) : Option (GType × Int × Int) := (if ((p0.Kind == 4) && (decide (p1 ≥ 16))) = true then some ((GType.mk 0 ([] : List GType)), 8, p2) else (expr_fields n p0).bind fun (y1 : Bool) => (if (!y1) = true then some ((GType.mk 0 ([] : List GType)), 9, (IntKind.wrap .i64 (p2 + 1))) else (withJ (fun (v4 : Bool) => (if v4 = true then some ((GType.mk 0 ([] : List GType)), 1, (IntKind.wrap .i64 (p2 + 1))) else (if (((decide ((ByteArray.size p0.S : Int) > 2000)) || (decide ((List.length p0.L : Int) > 100))) || (decide ((IntKind.wrap .i64 (p2 + 1)) > 1000))) = true then some ((GType.mk 0 ([] : List GType)), 2, (IntKind.wrap .i64 (p2 + 1))) else (utf8_ValidString n p0.S).bind fun (y5 : Bool) => (if (!y5) = true then some ((GType.mk 0 ([] : List GType)), 3, (IntKind.wrap .i64 (p2 + 1))) else (if (p0.Kind != 4) = true then some ((GType.mk p0.Kind ([] : List GType)), 0, (IntKind.wrap .i64 (p2 + 1))) else (withJ (fun (v19 : List GType) (v20 : Int) => (expr_common n v19).bind fun (y21 : (GType × Bool)) => (if (!y21.2) = true then some ((GType.mk 0 ([] : List GType)), 5, v20) else some (y21.1, 0, v20))) (fun (j6 : List GType → Int → Option (GType × Int × Int)) => expr_check_L0 p0 self_expr_check p1 j6 n ([] : List GType) 0 (IntKind.wrap .i64 (p2 + 1))))))))) (fun (j2 : Bool → Option (GType × Int × Int)) => (gd [(p0.Kind == 1)] (expr_within n p0.N)).bind fun (y3 : Bool) => (if ((p0.Kind == 1) && (!y3)) = true then j2 ((p0.Kind == 1) && (!y3)) else j2 (((p0.Kind == 2) && (p0.N != 0)) && (p0.N != 1)))))))
theorem expr_check_body_ok (self_expr_check : GValue → Int → Int → Option (GType × Int × Int)) (ih_expr_check : ∀ (p0 : GValue) (p1 : Int) (p2 : Int) (r : (GType × Int × Int)), self_expr_check p0 p1 p2 = some r → FnD E 105 1 [.agg [I p0.Kind, I p0.N, Sx p0.S, .lit (List.map eGValue p0.L)], .c (I p1), .c (.ptr 0 0)] [(0, .blk 3 [I p2])] (.tup [.agg [I r.1.Kind, .lit (List.map eGType r.1.Of)], .c (I r.2.1)]) [(0, .blk 3 [I r.2.2])]) (n : Nat) (p0 : GValue) (p1 : Int) (p2 : Int) (r : (GType × Int × Int)) (h : expr_check_body self_expr_check n p0 p1 p2 = some r) : FnD E 105 1 [.agg [I p0.Kind, I p0.N, Sx p0.S, .lit (List.map eGValue p0.L)], .c (I p1), .c (.ptr 0 0)] [(0, .blk 3 [I p2])] (.tup [.agg [I r.1.Kind, .lit (List.map eGType r.1.Of)], .c (I r.2.1)]) [(0, .blk 3 [I r.2.2])] := by
  refine zfn Tryd.func105 rfl ?_
  unfold expr_check_body at h
  refine za [1, 2, 3, 6] ?_
  refine aw_seq ?_
  refine zx fun _ => ?_
  refine zk 4 ?_
  refine zE (.c (I p1)) ?_
  refine zE (.c (Bo (decide (p1 ≥ 16)))) ?_
  refine zP (.bool ((p0.Kind == 4) && (decide (p1 ≥ 16)))) ?_
  refine ze [1, 2, 3, 6, 21] ?_
  refine zi h (fun h => ?_) fun h => ?_
  refine za [6, 7] ?_
  cases h
  exact aw_ret zr
  refine aw_skip ?_
  refine za [1, 2, 3, 6] ?_
  refine aw_seq ?_
  refine aw_block ?_
  refine zx fun _ => ?_
  refine zk 1 ?_
  obtain ⟨y1, he, h⟩ := bindE h
  refine zc fok107 (expr_fields_ok n _ y1 he) ?_
  clear he
  refine zk 2 ?_
  refine ze [1, 2, 3, 6, 28] ?_
  refine zi h (fun h => ?_) fun h => ?_
  refine za [6, 7] ?_
  cases h
  exact aw_ret zr
  refine aw_join h (fun A j => ∀ v4, j v4 = some r → A (mk [(1, .c (I p1)), (2, .c (.ptr 0 0)), (3, .c (.ptr 1 0)), (6, .c (.ptr 2 0)), (33, .c (Bo v4))] [(0, .blk 3 [I (IntKind.wrap .i64 (p2 + 1))]), (1, .blk 70 [I p0.Kind, I p0.N, Sx p0.S, .lit (List.map eGValue p0.L)]), (2, .blk 163 [I 0, NilS])] 3)) (fun v4 h => ?_) (fun j2 Aj2 hj2 h => ?_)
  refine zi h (fun h => ?_) fun h => ?_
  refine za [6, 7] ?_
  cases h
  exact aw_ret zr
  refine zx fun _ => ?_
  refine zk 5 ?_
  refine zE (.c (.ptr 1 3)) ?_
  refine zE (.c (.lit (List.map eGValue p0.L))) ?_
  refine rx_E (e := [(!(decide ((ByteArray.size p0.S : Int) > 2000)))]) [(64, .c (.lit (List.map eGValue p0.L)), some 1)] (v := .c (I (List.length p0.L : Int))) (foot := []) (by kernel_rfl) (by kernel_rfl) (by kernel_rfl) (fun hg => rd_len (enc := eGValue) (l := p0.L) (by kernel_rfl)) rfl rfl ?_
  refine zE (.c (Bo (decide ((List.length p0.L : Int) > 100)))) ?_
  refine zP (.bool ((decide ((ByteArray.size p0.S : Int) > 2000)) || (decide ((List.length p0.L : Int) > 100)))) ?_
  refine zk 1 ?_
  refine zE (.c (.ptr 0 0)) ?_
  refine zE (.c (.ptr 0 0)) ?_
  refine zE (.c (I (IntKind.wrap .i64 (p2 + 1)))) ?_
  refine zE (.c (Bo (decide ((IntKind.wrap .i64 (p2 + 1)) > 1000)))) ?_
  refine zP (.bool (((decide ((ByteArray.size p0.S : Int) > 2000)) || (decide ((List.length p0.L : Int) > 100))) || (decide ((IntKind.wrap .i64 (p2 + 1)) > 1000)))) ?_
  refine zk 1 ?_
  refine zee [1, 2, 3, 6, 57] (L2 := [(1, .c (I p1)), (2, .c (.ptr 0 0)), (3, .c (.ptr 1 0)), (6, .c (.ptr 2 0)), (57, .c (Bo (((decide ((ByteArray.size p0.S : Int) > 2000)) || (decide ((List.length p0.L : Int) > 100))) || (decide ((IntKind.wrap .i64 (p2 + 1)) > 1000)))))]) (G2 := [(0, .blk 3 [I (IntKind.wrap .i64 (p2 + 1))]), (1, .blk 70 [I p0.Kind, I p0.N, Sx p0.S, .lit (List.map eGValue p0.L)]), (2, .blk 163 [I 0, NilS])]) 20 ?_
  refine zi h (fun h => ?_) fun h => ?_
  refine za [6, 7] ?_
  cases h
  exact aw_ret zr
  refine zx fun _ => ?_
  refine zk 2 ?_
  obtain ⟨y5, he, h⟩ := bindE h
  refine zc fok109 (utf8_ValidString_ok n _ y5 he) ?_
  clear he
  refine zk 2 ?_
  refine ze [1, 2, 3, 6, 75] ?_
  refine zi h (fun h => ?_) fun h => ?_
  refine za [6, 7] ?_
  cases h
  exact aw_ret zr
  refine za [1, 2, 3, 6, 81] ?_
  refine zi h (fun h => ?_) fun h => ?_
  refine za [6, 7] ?_
  cases h
  exact aw_ret zr
  refine aw_skip ?_
  refine za [1, 2, 3, 6, 8] ?_
  refine aw_join h (fun A j => ∀ v19 v20, j v19 v20 = some r → A (mk [(6, .c (.ptr 1 0)), (8, .c (.app 2 (List.map eGType v19)))] [(0, .blk 3 [I v20]), (1, .blk 163 [I 0, NilS]), (2, .tok 163 2 (List.length v19))] 3)) (fun v19 v20 h => ?_) (fun j6 Aj6 hj6 h => ?_)
  refine zx fun _ => ?_
  refine zk 1 ?_
  obtain ⟨y21, he, h⟩ := bindE h
  refine zc fok110 (expr_common_ok n _ y21 he) ?_
  clear he
  refine zk 6 ?_
  refine ze [6, 13, 14] ?_
  refine aw_seq ?_
  refine za [6, 13, 118] ?_
  refine zi h (fun h => ?_) fun h => ?_
  refine za [6, 7] ?_
  cases h
  exact aw_ret zr
  refine aw_skip ?_
  refine za [6, 7] ?_
  cases h
  exact aw_ret zr
  refine zx fun _ => ?_
  refine zk 2 ?_
  refine zl eGValue p0.L ?_
  refine zk 1 ?_
  refine ze [1, 2, 6, 8, 89, 90, 91] ?_
  refine aw_block ?_
  refine aw_loopJ (fun n s => ∃ v10 v11 v12, expr_check_L0 p0 self_expr_check p1 j6 n v10 v11 v12 = some r ∧ s = mk [(1, .c (I p1)), (2, .c (.ptr 0 0)), (6, .c (.ptr 1 0)), (8, .c (.app 2 (List.map eGType v10))), (89, .c (.lit (List.map eGValue p0.L))), (90, .c (I (List.length p0.L : Int))), (91, .c (I v11))] [(0, .blk 3 [I v12]), (1, .blk 163 [I 0, NilS]), (2, .tok 163 2 (List.length v10))] 3) n _ (Views.trans (view_nilS (L2 := [(1, .c (I p1)), (2, .c (.ptr 0 0)), (6, .c (.ptr 2 0)), (8, .c (.app 34 (List.map eGType ([] : List GType)))), (89, .c (.lit (List.map eGValue p0.L))), (90, .c (I (List.length p0.L : Int))), (91, .c (I 0))]) (G2 := [(0, .blk 3 [I (IntKind.wrap .i64 (p2 + 1))]), (1, .blk 70 [I p0.Kind, I p0.N, Sx p0.S, .lit (List.map eGValue p0.L)]), (2, .blk 163 [I 0, NilS]), (34, .tok 163 2 (List.length ([] : List GType)))]) (lim2 := 35) 8 163 2 (by kernel_rfl) (by kernel_rfl) (by kernel_rfl) (by kernel_rfl)) (zv [(0, 0), (2, 1), (34, 2)] [1, 2, 6, 8, 89, 90, 91] 3)) ⟨_, _, _, h, rfl⟩ (fun s ⟨v10, v11, v12, h, _⟩ => nomatch h) ?_
  rintro n s ⟨v10, v11, v12, h, rfl⟩
  rw [expr_check_L0] at h
  refine za [1, 2, 6, 8, 89, 90, 91, 92] ?_
  refine aw_seq ?_
  refine zi h (fun h => ?_) fun h => ?_
  refine aw_skip ?_
  refine aw_seq ?_
  refine aw_block ?_
  refine zx fun _ => ?_
  obtain ⟨e13, he, h⟩ := bindE h
  refine rx_rd (v := .c (.imm [I e13.Kind, I e13.N, Sx e13.S, .lit (List.map eGValue e13.L)])) (foot := []) (rd_idx (enc := eGValue) (sz := 4) (l := p0.L) (ix := v11) he (by kernel_rfl) (eGValue_eq e13) (by kernel_rfl)) (by kernel_rfl) rfl rfl ?_
  clear he
  refine zk 3 ?_
  refine ze [1, 2, 6, 8, 10, 89, 90, 91] ?_
  refine zx fun _ => ?_
  refine zk 4 ?_
  obtain ⟨y14, he, h⟩ := bindE h
  refine zo [(0, 0)] fok105 (ih_expr_check _ _ _ y14 he) ?_
  clear he
  refine zk 6 ?_
  refine ze [1, 2, 6, 8, 11, 12, 89, 90, 91] ?_
  refine aw_seq ?_
  refine za [1, 2, 6, 8, 11, 12, 89, 90, 91, 104] ?_
  refine zi h (fun h => ?_) fun h => ?_
  refine za [6, 7] ?_
  cases h
  exact aw_ret zr
  refine aw_skip ?_
  refine zy fun _ => ?_
  refine zk 2 ?_
  refine rx_bs (e := 163) (sz := 2) (len := 1) (r := [I y14.1.Kind, .lit (List.map eGType y14.1.Of)]) (l' := List.map eGType [y14.1]) (nm := 23) (by kernel_rfl) (by simp only [List.map_cons, List.map_nil, eGType_eq]; kernel_rfl) (by kernel_rfl) (by kernel_rfl) rfl rfl rfl ?_
  obtain ⟨l15, he, h⟩ := bindE h
  refine rx_append (enc := eGType) (l := v10) (els := [y14.1]) (r := l15) (old := some 2) (e := 163) (sz := 2) (bytes := 32) (k := (List.length v10)) (nm := 24) he (by kernel_rfl) (by kernel_rfl) (fun x => by rw [eGType_eq]; rfl) (by kernel_rfl) (by kernel_rfl) rfl rfl rfl ?_
  clear he
  refine zk 1 ?_
  refine x_last ?_
  refine aw_out ?_
  refine zb ?_
  exact via (zv [(0, 0), (1, 1), (24, 2)] [1, 2, 6, 8, 89, 90, 91] 3) (⟨_, _, _, h, rfl⟩)
  exact aw_views (zv [(0, 0), (1, 1), (2, 2)] [6, 8] 3) (aw_exit (hj6 _ _ h))
  refine zx fun _ => ?_
  refine zk 4 ?_
  refine zE (.c (.ptr 1 1)) ?_
  refine zE (.c (I p0.N)) ?_
  obtain ⟨y3, he, h⟩ := bindE h
  refine zk1 [(p0.Kind == 1)] fok108 (fun hg => expr_within_ok n _ y3 (gd_spec he hg)) ?_
  clear he
  refine zE (.c (Bo (!y3))) ?_
  refine zP (.bool ((p0.Kind == 1) && (!y3))) ?_
  refine zk 1 ?_
  refine zee [1, 2, 3, 6, 33] (L2 := [(1, .c (I p1)), (2, .c (.ptr 0 0)), (3, .c (.ptr 1 0)), (6, .c (.ptr 2 0)), (33, .c (Bo ((p0.Kind == 1) && (!y3))))]) (G2 := [(0, .blk 3 [I (IntKind.wrap .i64 (p2 + 1))]), (1, .blk 70 [I p0.Kind, I p0.N, Sx p0.S, .lit (List.map eGValue p0.L)]), (2, .blk 163 [I 0, NilS])]) 31 ?_
  refine zi h (fun h => ?_) fun h => ?_
  exact aw_views (zv [(0, 0), (1, 1), (2, 2)] [1, 2, 3, 6, 33] 3) (aw_skip (hj2 _ h))
  refine aw_out ?_
  refine zy fun _ => ?_
  refine zk 4 ?_
  refine zE (.c (.ptr 1 1)) ?_
  refine zE (.c (I p0.N)) ?_
  refine zE (.c (Bo (p0.N != 0))) ?_
  refine zP (.bool ((p0.Kind == 2) && (p0.N != 0))) ?_
  refine zk 1 ?_
  refine zE (.c (.ptr 1 1)) ?_
  refine zE (.c (I p0.N)) ?_
  refine zE (.c (Bo (p0.N != 1))) ?_
  refine zP (.bool (((p0.Kind == 2) && (p0.N != 0)) && (p0.N != 1))) ?_
  refine zk 1 ?_
  refine x_last ?_
  exact via (zv [(0, 0), (1, 1), (2, 2)] [1, 2, 3, 6, 33] 3) (hj2 _ h)
def expr_check : Nat → GValue → Int → Int → Option (GType × Int × Int)
  | 0, _, _, _ => none
  | n + 1, p0, p1, p2 => expr_check_body (fun a0 a1 a2 => expr_check n a0 a1 a2) n p0 p1 p2
theorem expr_check_ok (n : Nat) : (∀ (p0 : GValue) (p1 : Int) (p2 : Int) (r : (GType × Int × Int)), expr_check n p0 p1 p2 = some r → FnD E 105 1 [.agg [I p0.Kind, I p0.N, Sx p0.S, .lit (List.map eGValue p0.L)], .c (I p1), .c (.ptr 0 0)] [(0, .blk 3 [I p2])] (.tup [.agg [I r.1.Kind, .lit (List.map eGType r.1.Of)], .c (I r.2.1)]) [(0, .blk 3 [I r.2.2])]) := by
  induction n with
  | zero => intro p0 p1 p2 r h; rw [expr_check] at h; cases h
  | succ n ih => intro p0 p1 p2 r h; rw [expr_check] at h; exact expr_check_body_ok _ ih n _ _ _ r h
def expr_copyType_body (self_expr_copyType : GType → Option GType) (n : Nat) (p0 : GType) : Option GType := (if ((List.length p0.Of : Int) == 0) = true then some (GType.mk p0.Kind ([] : List GType)) else (idx p0.Of 0).bind fun (e1 : GType) => (self_expr_copyType e1).bind fun (y2 : GType) => (expr_listOf n y2).bind fun (y3 : GType) => some y3)
theorem expr_copyType_body_ok (self_expr_copyType : GType → Option GType) (ih_expr_copyType : ∀ (p0 : GType) (r : GType), self_expr_copyType p0 = some r → FnD E 106 0 [.agg [I p0.Kind, .lit (List.map eGType p0.Of)]] [] (.agg [I r.Kind, .lit (List.map eGType r.Of)]) []) (n : Nat) (p0 : GType) (r : GType) (h : expr_copyType_body self_expr_copyType n p0 = some r) : FnD E 106 0 [.agg [I p0.Kind, .lit (List.map eGType p0.Of)]] [] (.agg [I r.Kind, .lit (List.map eGType r.Of)]) [] := by
  refine zfn Tryd.func106 rfl ?_
  unfold expr_copyType_body at h
  refine za [1, 2] ?_
  refine aw_seq ?_
  refine zx fun _ => ?_
  refine zk 2 ?_
  refine zl eGType p0.Of ?_
  refine zk 1 ?_
  refine ze [1, 2, 6] ?_
  refine zi h (fun h => ?_) fun h => ?_
  refine za [2] ?_
  cases h
  exact aw_ret zr
  refine aw_skip ?_
  refine zx fun _ => ?_
  refine zk 2 ?_
  obtain ⟨e1, he, h⟩ := bindE h
  refine rx_rd (v := .c (.imm [I e1.Kind, .lit (List.map eGType e1.Of)])) (foot := []) (rd_idx (enc := eGType) (sz := 2) (l := p0.Of) (ix := 0) he (by kernel_rfl) (eGType_eq e1) (by kernel_rfl)) (by kernel_rfl) rfl rfl ?_
  clear he
  refine zk 1 ?_
  obtain ⟨y2, he, h⟩ := bindE h
  refine zc fok106 (ih_expr_copyType _ y2 he) ?_
  clear he
  obtain ⟨y3, he, h⟩ := bindE h
  refine zc fok111 (expr_listOf_ok n _ y3 he) ?_
  clear he
  refine zk 1 ?_
  refine zee [2] (L2 := [(2, .c (.ptr 1 0))]) (G2 := [(0, .blk 163 [I p0.Kind, .lit (List.map eGType p0.Of)]), (1, .blk 163 [I y3.Kind, .lit (List.map eGType y3.Of)])]) 13 ?_
  cases h
  exact aw_ret zr
def expr_copyType : Nat → GType → Option GType
  | 0, _ => none
  | n + 1, p0 => expr_copyType_body (fun a0 => expr_copyType n a0) n p0
theorem expr_copyType_ok (n : Nat) : (∀ (p0 : GType) (r : GType), expr_copyType n p0 = some r → FnD E 106 0 [.agg [I p0.Kind, .lit (List.map eGType p0.Of)]] [] (.agg [I r.Kind, .lit (List.map eGType r.Of)]) []) := by
  induction n with
  | zero => intro p0 r h; rw [expr_copyType] at h; cases h
  | succ n ih => intro p0 r h; rw [expr_copyType] at h; exact expr_copyType_body_ok _ ih n _ r h
def expr_TypeOf  (n : Nat) (p0 : GValue) : Option (GType × Int) := (expr_check n p0 0 0).bind fun (y1 : (GType × Int × Int)) => (if (y1.2.1 != 0) = true then some ((GType.mk 0 ([] : List GType)), y1.2.1) else (expr_copyType n y1.1).bind fun (y2 : GType) => some (y2, 0))
theorem expr_TypeOf_ok  (n : Nat) (p0 : GValue) (r : (GType × Int)) (h : expr_TypeOf n p0 = some r) : FnD E 104 0 [.agg [I p0.Kind, I p0.N, Sx p0.S, .lit (List.map eGValue p0.L)]] [] (.tup [.agg [I r.1.Kind, .lit (List.map eGType r.1.Of)], .c (I r.2)]) [] := by
  refine zfn Tryd.func104 rfl ?_
  unfold expr_TypeOf at h
  refine za [1, 2] ?_
  refine za [1, 2, 4] ?_
  refine zx fun _ => ?_
  refine zk 1 ?_
  obtain ⟨y1, he, h⟩ := bindE h
  refine zo [(0, 3)] fok105 (expr_check_ok n _ _ _ y1 he) ?_
  clear he
  refine zk 6 ?_
  refine ze [2, 5, 6] ?_
  refine aw_seq ?_
  refine za [2, 5, 6, 13] ?_
  refine zi h (fun h => ?_) fun h => ?_
  refine za [2, 3] ?_
  cases h
  exact aw_ret zr
  refine aw_skip ?_
  refine zx fun _ => ?_
  refine zk 1 ?_
  obtain ⟨y2, he, h⟩ := bindE h
  refine zc fok106 (expr_copyType_ok n _ y2 he) ?_
  clear he
  refine zk 2 ?_
  refine ze [2, 3] ?_
  cases h
  exact aw_ret zr
def expr_Check  (n : Nat) (p0 : GValue) : Option Int := (expr_TypeOf n p0).bind fun (y1 : (GType × Int)) => some y1.2
theorem expr_Check_ok  (n : Nat) (p0 : GValue) (r : Int) (h : expr_Check n p0 = some r) : FnD E 101 0 [.agg [I p0.Kind, I p0.N, Sx p0.S, .lit (List.map eGValue p0.L)]] [] (.c (I r)) [] := by
  refine zfn Tryd.func101 rfl ?_
  unfold expr_Check at h
  refine za [1] ?_
  refine zx fun _ => ?_
  refine zk 1 ?_
  obtain ⟨y1, he, h⟩ := bindE h
  refine zc fok104 (expr_TypeOf_ok n _ y1 he) ?_
  clear he
  refine zk 6 ?_
  refine ze [4] ?_
  refine za [2] ?_
  cases h
  exact aw_ret zr
def view_attributes_L0 (p0 : (List GAttr)) (j1 : Unit → Option Int) : Nat → Int → Option Int
  | 0, _ => none
  | n + 1, v6 => (if (decide (v6 < (List.length p0 : Int))) = true then (idx p0 v6).bind fun (e7 : GAttr) => (expr_Name n e7.Name).bind fun (y8 : Bool) => (if (!y8) = true then some 4 else (gd [(decide (v6 > 0))] (idx p0 (IntKind.wrap .i64 (v6 - 1)))).bind fun (e9 : GAttr) => (if ((decide (v6 > 0)) && (!(sLt e9.Name e7.Name))) = true then some 10 else (expr_Check n e7.Value).bind fun (y10 : Int) => (if (y10 != 0) = true then some y10 else view_attributes_L0 p0 j1 n (IntKind.wrap .i64 (v6 + 1))))) else j1 ())
def view_attributes  (n : Nat) (p0 : (List GAttr)) : Option Int := (withJ (fun (_ : Unit) => some 0) (fun (j1 : Unit → Option Int) => view_attributes_L0 p0 j1 n 0))
theorem view_attributes_ok  (n : Nat) (p0 : (List GAttr)) (r : Int) (h : view_attributes n p0 = some r) : FnD E 93 0 [.c (.lit (List.map eGAttr p0))] [] (.c (I r)) [] := by
  refine zfn Tryd.func93 rfl ?_
  unfold view_attributes at h
  refine za [0] ?_
  refine aw_join h (fun A j => ∀ u, j u = some r → A (mk [] [] 0)) (fun u h => ?_) (fun j1 Aj1 hj1 h => ?_)
  refine za [2] ?_
  cases h
  exact aw_ret zr
  refine zx fun _ => ?_
  refine zk 1 ?_
  refine zl eGAttr p0 ?_
  refine zk 1 ?_
  refine ze [0, 6, 7, 8] ?_
  refine aw_block ?_
  refine aw_loopJ (fun n s => ∃ v6, view_attributes_L0 p0 j1 n v6 = some r ∧ s = mk [(0, .c (.lit (List.map eGAttr p0))), (6, .c (.lit (List.map eGAttr p0))), (7, .c (I (List.length p0 : Int))), (8, .c (I v6))] [] 0) n _ (zv [] [0, 6, 7, 8] 0) ⟨_, h, rfl⟩ (fun s ⟨v6, h, _⟩ => nomatch h) ?_
  rintro n s ⟨v6, h, rfl⟩
  rw [view_attributes_L0] at h
  refine za [0, 6, 7, 8, 9] ?_
  refine aw_seq ?_
  refine zi h (fun h => ?_) fun h => ?_
  refine aw_skip ?_
  refine aw_seq ?_
  refine aw_block ?_
  refine zx fun _ => ?_
  refine zk 1 ?_
  obtain ⟨e7, he, h⟩ := bindE h
  refine zd eGAttr he ?_
  clear he
  refine zk 4 ?_
  refine ze [0, 3, 4, 6, 7, 8] ?_
  refine aw_seq ?_
  refine aw_block ?_
  refine zx fun _ => ?_
  refine zk 2 ?_
  obtain ⟨y8, he, h⟩ := bindE h
  refine zc fok29 (expr_Name_ok n _ y8 he) ?_
  clear he
  refine zk 2 ?_
  refine ze [0, 3, 4, 6, 7, 8, 13] ?_
  refine zi h (fun h => ?_) fun h => ?_
  refine za [2] ?_
  cases h
  exact aw_ret zr
  refine zdx [[], [0], [1, 0], [2, 1, 0], [2, 1, 0], [4, 2, 1, 0], [3, 5, 2, 1, 0, 4], [6, 2, 3, 5, 1, 0, 4], [7, 2, 6, 3, 5, 1, 0, 4], [2, 1, 0], [9, 2, 1, 0], [8, 10, 2, 7, 6, 3, 5, 1, 0, 4, 9], [2, 11, 1, 0, 8, 10, 7, 6, 3, 5, 4, 9], [12, 2, 11, 1, 0, 8, 10, 7, 6, 3, 5, 4, 9]] fun _ => ?_
  refine zk 3 ?_
  refine zE (.c (.lit (List.map eGAttr p0))) ?_
  refine zE (.c (I v6)) ?_
  refine zE (.c (I (IntKind.wrap .i64 (v6 - 1)))) ?_
  obtain ⟨e9, he, h⟩ := bindE h
  refine rx_E (e := [(decide (v6 > 0))]) [(22, .c (.lit (List.map eGAttr p0)), some 1), (24, .c (I (IntKind.wrap .i64 (v6 - 1))), some 1)] (v := .c (.imm [Sx e9.Name, I e9.Value.Kind, I e9.Value.N, Sx e9.Value.S, .lit (List.map eGValue e9.Value.L)])) (foot := []) (by kernel_rfl) (by kernel_rfl) (by kernel_rfl) (fun hg => rd_idx (enc := eGAttr) (sz := 5) (l := p0) (ix := (IntKind.wrap .i64 (v6 - 1))) (gd_spec he hg) (by kernel_rfl) (by kernel_rfl) (by kernel_rfl)) rfl rfl ?_
  clear he
  refine zE (.c (.imm [Sx e9.Name, I e9.Value.Kind, I e9.Value.N, Sx e9.Value.S, .lit (List.map eGValue e9.Value.L)])) ?_
  refine zE (.c (Sx e9.Name)) ?_
  refine zE (.c (.ptr 4 0)) ?_
  refine zE (.c (Sx e7.Name)) ?_
  refine zE (.c (Bo (!(sLt e9.Name e7.Name)))) ?_
  refine zP (.bool ((decide (v6 > 0)) && (!(sLt e9.Name e7.Name)))) ?_
  refine zk 1 ?_
  refine zee [0, 4, 6, 7, 8, 18] (L2 := [(0, .c (.lit (List.map eGAttr p0))), (6, .c (.lit (List.map eGAttr p0))), (7, .c (I (List.length p0 : Int))), (8, .c (I v6)), (4, .c (.ptr 4 0)), (18, .c (Bo ((decide (v6 > 0)) && (!(sLt e9.Name e7.Name)))))]) (G2 := [(4, .blk 72 [Sx e7.Name, I e7.Value.Kind, I e7.Value.N, Sx e7.Value.S, .lit (List.map eGValue e7.Value.L)])]) 26 ?_
  refine zi h (fun h => ?_) fun h => ?_
  refine za [2] ?_
  cases h
  exact aw_ret zr
  refine aw_skip ?_
  refine zx fun _ => ?_
  refine zk 2 ?_
  obtain ⟨y10, he, h⟩ := bindE h
  refine zc fok101 (expr_Check_ok n _ y10 he) ?_
  clear he
  refine zk 1 ?_
  refine ze [0, 5, 6, 7, 8] ?_
  refine za [0, 5, 6, 7, 8, 36] ?_
  refine zi h (fun h => ?_) fun h => ?_
  refine za [2] ?_
  cases h
  exact aw_ret zr
  refine aw_skip ?_
  refine aw_out ?_
  refine zb ?_
  exact via (zv [] [0, 6, 7, 8] 0) (⟨_, h, rfl⟩)
  exact aw_views (zv [] [] 0) (aw_exit (hj1 _ h))
def view_actions_L1 (e15 : GAction) (j14 : Unit → Option Int) (p0 : (List GAction)) (v13 : Int) : Nat → Int → Option Int
  | 0, _ => none
  | n + 1, v21 => (if (decide (v21 < (List.length e15.Args : Int))) = true then (idx e15.Args v21).bind fun (e22 : GValue) => (expr_Check n e22).bind fun (y23 : Int) => (if (y23 != 0) = true then some y23 else view_actions_L1 e15 j14 p0 v13 n (IntKind.wrap .i64 (v21 + 1))) else j14 ())
def view_actions_L0 (p0 : (List GAction)) (j1 : Unit → Option Int) : Nat → Int → Option Int
  | 0, _ => none
  | n + 1, v13 => (if (decide (v13 < (List.length p0 : Int))) = true then (withJ (fun (_ : Unit) => view_actions_L0 p0 j1 n (IntKind.wrap .i64 (v13 + 1))) (fun (j14 : Unit → Option Int) => (idx p0 v13).bind fun (e15 : GAction) => (expr_Name n e15.Event).bind fun (y16 : Bool) => (gd [(!(!y16))] (expr_Name n e15.Handler)).bind fun (y17 : Bool) => (if ((!y16) || (!y17)) = true then some 4 else (gd [(decide (v13 > 0))] (idx p0 (IntKind.wrap .i64 (v13 - 1)))).bind fun (e18 : GAction) => (if ((decide (v13 > 0)) && (!(sLt e18.Event e15.Event))) = true then some 10 else (if ((decide ((ByteArray.size e15.Instance : Int) > 400)) || (decide ((List.length e15.Args : Int) > 100))) = true then some 2 else view_actions_L1 e15 j14 p0 v13 n 0))))) else j1 ())
def view_actions  (n : Nat) (p0 : (List GAction)) : Option Int := (withJ (fun (_ : Unit) => some 0) (fun (j1 : Unit → Option Int) => view_actions_L0 p0 j1 n 0))
theorem view_actions_ok  (n : Nat) (p0 : (List GAction)) (r : Int) (h : view_actions n p0 = some r) : FnD E 94 0 [.c (.lit (List.map eGAction p0))] [] (.c (I r)) [] := by
  refine zfn Tryd.func94 rfl ?_
  unfold view_actions at h
  refine za [0] ?_
  refine aw_join h (fun A j => ∀ u, j u = some r → A (mk [] [] 0)) (fun u h => ?_) (fun j1 Aj1 hj1 h => ?_)
  refine za [2] ?_
  cases h
  exact aw_ret zr
  refine zx fun _ => ?_
  refine zk 1 ?_
  refine zl eGAction p0 ?_
  refine zk 1 ?_
  refine ze [0, 8, 9, 10] ?_
  refine aw_block ?_
  refine aw_loopJ (fun n s => ∃ v13, view_actions_L0 p0 j1 n v13 = some r ∧ s = mk [(0, .c (.lit (List.map eGAction p0))), (8, .c (.lit (List.map eGAction p0))), (9, .c (I (List.length p0 : Int))), (10, .c (I v13))] [] 0) n _ (zv [] [0, 8, 9, 10] 0) ⟨_, h, rfl⟩ (fun s ⟨v13, h, _⟩ => nomatch h) ?_
  rintro n s ⟨v13, h, rfl⟩
  rw [view_actions_L0] at h
  refine za [0, 8, 9, 10, 11] ?_
  refine aw_seq ?_
  refine zi h (fun h => ?_) fun h => ?_
  refine aw_skip ?_
  refine aw_join h (fun A j => ∀ u, j u = some r → A (mk [(0, .c (.lit (List.map eGAction p0))), (8, .c (.lit (List.map eGAction p0))), (9, .c (I (List.length p0 : Int))), (10, .c (I v13))] [] 0)) (fun u h => ?_) (fun j14 Aj14 hj14 h => ?_)
  refine aw_out ?_
  refine zb ?_
  exact via (zv [] [0, 8, 9, 10] 0) (⟨_, h, rfl⟩)
  refine aw_block ?_
  refine zx fun _ => ?_
  refine zk 1 ?_
  obtain ⟨e15, he, h⟩ := bindE h
  refine zd eGAction he ?_
  clear he
  refine zk 4 ?_
  refine ze [0, 3, 4, 8, 9, 10] ?_
  refine aw_seq ?_
  refine aw_block ?_
  refine zx fun _ => ?_
  refine zk 2 ?_
  obtain ⟨y16, he, h⟩ := bindE h
  refine zc fok29 (expr_Name_ok n _ y16 he) ?_
  clear he
  refine zk 2 ?_
  refine zE (.c (.ptr 4 2)) ?_
  refine zE (.c (Sx e15.Handler)) ?_
  obtain ⟨y17, he, h⟩ := bindE h
  refine zk1 [(!(!y16))] fok29 (fun hg => expr_Name_ok n _ y17 (gd_spec he hg)) ?_
  clear he
  refine zE (.c (Bo (!y17))) ?_
  refine zP (.bool ((!y16) || (!y17))) ?_
  refine zk 1 ?_
  refine zee [0, 3, 4, 8, 9, 10, 15] (L2 := [(0, .c (.lit (List.map eGAction p0))), (8, .c (.lit (List.map eGAction p0))), (9, .c (I (List.length p0 : Int))), (10, .c (I v13)), (4, .c (.ptr 4 0)), (3, .c (I v13)), (15, .c (Bo ((!y16) || (!y17))))]) (G2 := [(4, .blk 138 [Sx e15.Event, Sx e15.Instance, Sx e15.Handler, .lit (List.map eGValue e15.Args)])]) 18 ?_
  refine zi h (fun h => ?_) fun h => ?_
  refine za [2] ?_
  cases h
  exact aw_ret zr
  refine zdx [[], [0], [1, 0], [2, 1, 0], [2, 1, 0], [4, 2, 1, 0], [3, 5, 2, 1, 0, 4], [6, 2, 3, 5, 1, 0, 4], [7, 2, 6, 3, 5, 1, 0, 4], [2, 1, 0], [9, 2, 1, 0], [8, 10, 2, 7, 6, 3, 5, 1, 0, 4, 9], [2, 11, 1, 0, 8, 10, 7, 6, 3, 5, 4, 9], [12, 2, 11, 1, 0, 8, 10, 7, 6, 3, 5, 4, 9]] fun _ => ?_
  refine zk 3 ?_
  refine zE (.c (.lit (List.map eGAction p0))) ?_
  refine zE (.c (I v13)) ?_
  refine zE (.c (I (IntKind.wrap .i64 (v13 - 1)))) ?_
  obtain ⟨e18, he, h⟩ := bindE h
  refine rx_E (e := [(decide (v13 > 0))]) [(30, .c (.lit (List.map eGAction p0)), some 1), (32, .c (I (IntKind.wrap .i64 (v13 - 1))), some 1)] (v := .c (.imm [Sx e18.Event, Sx e18.Instance, Sx e18.Handler, .lit (List.map eGValue e18.Args)])) (foot := []) (by kernel_rfl) (by kernel_rfl) (by kernel_rfl) (fun hg => rd_idx (enc := eGAction) (sz := 4) (l := p0) (ix := (IntKind.wrap .i64 (v13 - 1))) (gd_spec he hg) (by kernel_rfl) (by kernel_rfl) (by kernel_rfl)) rfl rfl ?_
  clear he
  refine zE (.c (.imm [Sx e18.Event, Sx e18.Instance, Sx e18.Handler, .lit (List.map eGValue e18.Args)])) ?_
  refine zE (.c (Sx e18.Event)) ?_
  refine zE (.c (.ptr 4 0)) ?_
  refine zE (.c (Sx e15.Event)) ?_
  refine zE (.c (Bo (!(sLt e18.Event e15.Event)))) ?_
  refine zP (.bool ((decide (v13 > 0)) && (!(sLt e18.Event e15.Event)))) ?_
  refine zk 1 ?_
  refine zee [0, 4, 8, 9, 10, 26] (L2 := [(0, .c (.lit (List.map eGAction p0))), (8, .c (.lit (List.map eGAction p0))), (9, .c (I (List.length p0 : Int))), (10, .c (I v13)), (4, .c (.ptr 4 0)), (26, .c (Bo ((decide (v13 > 0)) && (!(sLt e18.Event e15.Event)))))]) (G2 := [(4, .blk 138 [Sx e15.Event, Sx e15.Instance, Sx e15.Handler, .lit (List.map eGValue e15.Args)])]) 32 ?_
  refine zi h (fun h => ?_) fun h => ?_
  refine za [2] ?_
  cases h
  exact aw_ret zr
  refine zx fun _ => ?_
  refine zk 5 ?_
  refine zE (.c (.ptr 4 3)) ?_
  refine zE (.c (.lit (List.map eGValue e15.Args))) ?_
  refine rx_E (e := [(!(decide ((ByteArray.size e15.Instance : Int) > 400)))]) [(47, .c (.lit (List.map eGValue e15.Args)), some 1)] (v := .c (I (List.length e15.Args : Int))) (foot := []) (by kernel_rfl) (by kernel_rfl) (by kernel_rfl) (fun hg => rd_len (enc := eGValue) (l := e15.Args) (by kernel_rfl)) rfl rfl ?_
  refine zE (.c (Bo (decide ((List.length e15.Args : Int) > 100)))) ?_
  refine zP (.bool ((decide ((ByteArray.size e15.Instance : Int) > 400)) || (decide ((List.length e15.Args : Int) > 100)))) ?_
  refine zk 1 ?_
  refine ze [0, 4, 8, 9, 10, 40] ?_
  refine zi h (fun h => ?_) fun h => ?_
  refine za [2] ?_
  cases h
  exact aw_ret zr
  refine aw_skip ?_
  refine zx fun _ => ?_
  refine zk 2 ?_
  refine zl eGValue e15.Args ?_
  refine zk 1 ?_
  refine zee [0, 8, 9, 10, 52, 53, 54] (L2 := [(0, .c (.lit (List.map eGAction p0))), (8, .c (.lit (List.map eGAction p0))), (9, .c (I (List.length p0 : Int))), (10, .c (I v13)), (52, .c (.lit (List.map eGValue e15.Args))), (53, .c (I (List.length e15.Args : Int))), (54, .c (I 0))]) (G2 := [(4, .blk 138 [Sx e15.Event, Sx e15.Instance, Sx e15.Handler, .lit (List.map eGValue e15.Args)])]) 47 ?_
  refine aw_block ?_
  refine aw_loopJ (fun n s => ∃ v21, view_actions_L1 e15 j14 p0 v13 n v21 = some r ∧ s = mk [(0, .c (.lit (List.map eGAction p0))), (8, .c (.lit (List.map eGAction p0))), (9, .c (I (List.length p0 : Int))), (10, .c (I v13)), (52, .c (.lit (List.map eGValue e15.Args))), (53, .c (I (List.length e15.Args : Int))), (54, .c (I v21))] [] 0) n _ (zv [] [0, 8, 9, 10, 52, 53, 54] 0) ⟨_, h, rfl⟩ (fun s ⟨v21, h, _⟩ => nomatch h) ?_
  rintro n s ⟨v21, h, rfl⟩
  rw [view_actions_L1] at h
  refine za [0, 8, 9, 10, 52, 53, 54, 55] ?_
  refine aw_seq ?_
  refine zi h (fun h => ?_) fun h => ?_
  refine aw_skip ?_
  refine aw_seq ?_
  refine aw_block ?_
  refine zx fun _ => ?_
  obtain ⟨e22, he, h⟩ := bindE h
  refine rx_rd (v := .c (.imm [I e22.Kind, I e22.N, Sx e22.S, .lit (List.map eGValue e22.L)])) (foot := []) (rd_idx (enc := eGValue) (sz := 4) (l := e15.Args) (ix := v21) he (by kernel_rfl) (eGValue_eq e22) (by kernel_rfl)) (by kernel_rfl) rfl rfl ?_
  clear he
  refine zk 3 ?_
  refine ze [0, 6, 8, 9, 10, 52, 53, 54] ?_
  refine zx fun _ => ?_
  refine zk 1 ?_
  obtain ⟨y23, he, h⟩ := bindE h
  refine zc fok101 (expr_Check_ok n _ y23 he) ?_
  clear he
  refine zk 1 ?_
  refine ze [0, 7, 8, 9, 10, 52, 53, 54] ?_
  refine za [0, 7, 8, 9, 10, 52, 53, 54, 61] ?_
  refine zi h (fun h => ?_) fun h => ?_
  refine za [2] ?_
  cases h
  exact aw_ret zr
  refine aw_skip ?_
  refine aw_out ?_
  refine zb ?_
  exact via (zv [] [0, 8, 9, 10, 52, 53, 54] 0) (⟨_, h, rfl⟩)
  exact aw_views (zv [] [0, 8, 9, 10] 0) (aw_exit (hj14 _ h))
  exact aw_views (zv [] [] 0) (aw_exit (hj1 _ h))
def view_validate_L1 (p0 : GView) (self_view_validate : GView → Int → Int → Option (Int × Int)) (p1 : Int) (j13 : Int → Option (Int × Int)) : Nat → Int → Int → Option (Int × Int)
  | 0, _, _ => none
  | n + 1, v16, v17 => (if (decide (v16 < (List.length p0.Kids : Int))) = true then (idx p0.Kids v16).bind fun (e18 : GView) => (self_view_validate e18 (IntKind.wrap .i64 (p1 + 1)) v17).bind fun (y19 : (Int × Int)) => (if (y19.1 != 0) = true then some (y19.1, y19.2) else view_validate_L1 p0 self_view_validate p1 j13 n (IntKind.wrap .i64 (v16 + 1)) y19.2) else j13 v17)
def view_validate_L0 (p0 : GView) (p2 : Int) (j4 : Unit → Option (Int × Int)) (p1 : Int) : Nat → Int → List (ByteArray × Bool) → Option (Int × Int)
  | 0, _, _ => none
  | n + 1, v7, v8 => (if (decide (v7 < (List.length p0.Kids : Int))) = true then (idx p0.Kids v7).bind fun (e9 : GView) => (gd [(!(sEq e9.Key (⟨#[]⟩ : ByteArray)))] (some (mget e9.Key v8, mhas e9.Key v8))).bind fun (y10 : (Bool × Bool)) => (if ((!(sEq e9.Key (⟨#[]⟩ : ByteArray))) && y10.1) = true then some (6, (IntKind.wrap .i64 (p2 + 1))) else view_validate_L0 p0 p2 j4 p1 n (IntKind.wrap .i64 (v7 + 1)) (mput e9.Key true v8)) else j4 ())
def view_validate_body (self_view_validate : GView → Int → Int → Option (Int × Int)) (n : Nat) (p0 : GView) (p1 : Int) (p2 : Int) : Option (Int × Int) := (if (decide (p1 > 16)) = true then some (8, (IntKind.wrap .i64 (p2 + 1))) else (if (decide ((IntKind.wrap .i64 (p2 + 1)) > 400)) = true then some (2, (IntKind.wrap .i64 (p2 + 1))) else (if ((decide (p0.Kind < 1)) || (decide (p0.Kind > 13))) = true then some (9, (IntKind.wrap .i64 (p2 + 1))) else (view_Key n p0.Key).bind fun (y1 : Bool) => (if (!y1) = true then some (4, (IntKind.wrap .i64 (p2 + 1))) else (if (((decide ((List.length p0.Attrs : Int) > 24)) || (decide ((List.length p0.Actions : Int) > 24))) || (decide ((List.length p0.Kids : Int) > 100))) = true then some (2, (IntKind.wrap .i64 (p2 + 1))) else (view_attributes n p0.Attrs).bind fun (y2 : Int) => (if (y2 != 0) = true then some (y2, (IntKind.wrap .i64 (p2 + 1))) else (view_actions n p0.Actions).bind fun (y3 : Int) => (if (y3 != 0) = true then some (y3, (IntKind.wrap .i64 (p2 + 1))) else (withJ (fun (_ : Unit) => (withJ (fun (v22 : Int) => some (0, v22)) (fun (j13 : Int → Option (Int × Int)) => view_validate_L1 p0 self_view_validate p1 j13 n 0 (IntKind.wrap .i64 (p2 + 1))))) (fun (j4 : Unit → Option (Int × Int)) => view_validate_L0 p0 p2 j4 p1 n 0 ([] : List (ByteArray × Bool)))))))))))
theorem view_validate_body_ok (self_view_validate : GView → Int → Int → Option (Int × Int)) (ih_view_validate : ∀ (p0 : GView) (p1 : Int) (p2 : Int) (r : (Int × Int)), self_view_validate p0 p1 p2 = some r → FnD E 85 1 [.agg [I p0.Kind, Sx p0.Key, .lit (List.map eGAttr p0.Attrs), .lit (List.map eGAction p0.Actions), .lit (List.map eGView p0.Kids)], .c (I p1), .c (.ptr 0 0)] [(0, .blk 3 [I p2])] (.c (I r.1)) [(0, .blk 3 [I r.2])]) (n : Nat) (p0 : GView) (p1 : Int) (p2 : Int) (r : (Int × Int)) (h : view_validate_body self_view_validate n p0 p1 p2 = some r) : FnD E 85 1 [.agg [I p0.Kind, Sx p0.Key, .lit (List.map eGAttr p0.Attrs), .lit (List.map eGAction p0.Actions), .lit (List.map eGView p0.Kids)], .c (I p1), .c (.ptr 0 0)] [(0, .blk 3 [I p2])] (.c (I r.1)) [(0, .blk 3 [I r.2])] := by
  refine zfn Tryd.func85 rfl ?_
  unfold view_validate_body at h
  refine za [1, 2, 3] ?_
  refine za [1, 2, 3] ?_
  refine aw_seq ?_
  refine aw_block ?_
  refine za [1, 2, 3, 20] ?_
  refine zi h (fun h => ?_) fun h => ?_
  refine za [6] ?_
  cases h
  exact aw_ret zr
  refine za [1, 2, 3, 23] ?_
  refine zi h (fun h => ?_) fun h => ?_
  refine za [6] ?_
  cases h
  exact aw_ret zr
  refine zx fun _ => ?_
  refine zk 4 ?_
  refine zE (.c (.ptr 1 0)) ?_
  refine zE (.c (I p0.Kind)) ?_
  refine zE (.c (Bo (decide (p0.Kind > 13)))) ?_
  refine zP (.bool ((decide (p0.Kind < 1)) || (decide (p0.Kind > 13)))) ?_
  refine zk 1 ?_
  refine zee [1, 2, 3, 28] (L2 := [(1, .c (I p1)), (2, .c (.ptr 0 0)), (3, .c (.ptr 1 0)), (28, .c (Bo ((decide (p0.Kind < 1)) || (decide (p0.Kind > 13)))))]) (G2 := [(0, .blk 3 [I (IntKind.wrap .i64 (p2 + 1))]), (1, .blk 75 [I p0.Kind, Sx p0.Key, .lit (List.map eGAttr p0.Attrs), .lit (List.map eGAction p0.Actions), .lit (List.map eGView p0.Kids)])]) 26 ?_
  refine zi h (fun h => ?_) fun h => ?_
  refine za [6] ?_
  cases h
  exact aw_ret zr
  refine zx fun _ => ?_
  refine zk 2 ?_
  obtain ⟨y1, he, h⟩ := bindE h
  refine zc fok92 (view_Key_ok n _ y1 he) ?_
  clear he
  refine zk 2 ?_
  refine ze [1, 2, 3, 37] ?_
  refine zi h (fun h => ?_) fun h => ?_
  refine za [6] ?_
  cases h
  exact aw_ret zr
  refine zx fun _ => ?_
  refine zk 2 ?_
  refine zl eGAttr p0.Attrs ?_
  refine zk 2 ?_
  refine zE (.c (.ptr 1 3)) ?_
  refine zE (.c (.lit (List.map eGAction p0.Actions))) ?_
  refine rx_E (e := [(!(decide ((List.length p0.Attrs : Int) > 24)))]) [(49, .c (.lit (List.map eGAction p0.Actions)), some 1)] (v := .c (I (List.length p0.Actions : Int))) (foot := []) (by kernel_rfl) (by kernel_rfl) (by kernel_rfl) (fun hg => rd_len (enc := eGAction) (l := p0.Actions) (by kernel_rfl)) rfl rfl ?_
  refine zE (.c (Bo (decide ((List.length p0.Actions : Int) > 24)))) ?_
  refine zP (.bool ((decide ((List.length p0.Attrs : Int) > 24)) || (decide ((List.length p0.Actions : Int) > 24)))) ?_
  refine zk 1 ?_
  refine zE (.c (.ptr 1 4)) ?_
  refine zE (.c (.lit (List.map eGView p0.Kids))) ?_
  refine rx_E (e := [(!((decide ((List.length p0.Attrs : Int) > 24)) || (decide ((List.length p0.Actions : Int) > 24))))]) [(55, .c (.lit (List.map eGView p0.Kids)), some 1)] (v := .c (I (List.length p0.Kids : Int))) (foot := []) (by kernel_rfl) (by kernel_rfl) (by kernel_rfl) (fun hg => rd_len (enc := eGView) (l := p0.Kids) (by kernel_rfl)) rfl rfl ?_
  refine zE (.c (Bo (decide ((List.length p0.Kids : Int) > 100)))) ?_
  refine zP (.bool (((decide ((List.length p0.Attrs : Int) > 24)) || (decide ((List.length p0.Actions : Int) > 24))) || (decide ((List.length p0.Kids : Int) > 100)))) ?_
  refine zk 1 ?_
  refine zee [1, 2, 3, 42] (L2 := [(1, .c (I p1)), (2, .c (.ptr 0 0)), (3, .c (.ptr 1 0)), (42, .c (Bo (((decide ((List.length p0.Attrs : Int) > 24)) || (decide ((List.length p0.Actions : Int) > 24))) || (decide ((List.length p0.Kids : Int) > 100)))))]) (G2 := [(0, .blk 3 [I (IntKind.wrap .i64 (p2 + 1))]), (1, .blk 75 [I p0.Kind, Sx p0.Key, .lit (List.map eGAttr p0.Attrs), .lit (List.map eGAction p0.Actions), .lit (List.map eGView p0.Kids)])]) 48 ?_
  refine zi h (fun h => ?_) fun h => ?_
  refine za [6] ?_
  cases h
  exact aw_ret zr
  refine aw_skip ?_
  refine aw_seq ?_
  refine zx fun _ => ?_
  refine zk 2 ?_
  obtain ⟨y2, he, h⟩ := bindE h
  refine zc fok93 (view_attributes_ok n _ y2 he) ?_
  clear he
  refine zk 1 ?_
  refine ze [1, 2, 3, 7] ?_
  refine za [1, 2, 3, 7, 63] ?_
  refine zi h (fun h => ?_) fun h => ?_
  refine za [6] ?_
  cases h
  exact aw_ret zr
  refine aw_skip ?_
  refine aw_seq ?_
  refine zx fun _ => ?_
  refine zk 2 ?_
  obtain ⟨y3, he, h⟩ := bindE h
  refine zc fok94 (view_actions_ok n _ y3 he) ?_
  clear he
  refine zk 1 ?_
  refine ze [1, 2, 3, 8] ?_
  refine za [1, 2, 3, 8, 69] ?_
  refine zi h (fun h => ?_) fun h => ?_
  refine za [6] ?_
  cases h
  exact aw_ret zr
  refine aw_skip ?_
  refine za [1, 2, 3, 9] ?_
  refine aw_join h (fun A j => ∀ u, j u = some r → A (mk [(1, .c (I p1)), (2, .c (.ptr 0 0)), (3, .c (.ptr 1 0))] [(0, .blk 3 [I (IntKind.wrap .i64 (p2 + 1))]), (1, .blk 75 [I p0.Kind, Sx p0.Key, .lit (List.map eGAttr p0.Attrs), .lit (List.map eGAction p0.Actions), .lit (List.map eGView p0.Kids)])] 2)) (fun u h => ?_) (fun j4 Aj4 hj4 h => ?_)
  refine aw_join h (fun A j => ∀ v22, j v22 = some r → A (mk [] [(0, .blk 3 [I v22])] 1)) (fun v22 h => ?_) (fun j13 Aj13 hj13 h => ?_)
  refine za [6] ?_
  cases h
  exact aw_ret zr
  refine zx fun _ => ?_
  refine zk 2 ?_
  refine zl eGView p0.Kids ?_
  refine zk 1 ?_
  refine ze [1, 2, 93, 94, 95] ?_
  refine aw_block ?_
  refine aw_loopJ (fun n s => ∃ v16 v17, view_validate_L1 p0 self_view_validate p1 j13 n v16 v17 = some r ∧ s = mk [(1, .c (I p1)), (2, .c (.ptr 0 0)), (93, .c (.lit (List.map eGView p0.Kids))), (94, .c (I (List.length p0.Kids : Int))), (95, .c (I v16))] [(0, .blk 3 [I v17])] 1) n _ (zv [(0, 0)] [1, 2, 93, 94, 95] 1) ⟨_, _, h, rfl⟩ (fun s ⟨v16, v17, h, _⟩ => nomatch h) ?_
  rintro n s ⟨v16, v17, h, rfl⟩
  rw [view_validate_L1] at h
  refine za [1, 2, 93, 94, 95, 96] ?_
  refine aw_seq ?_
  refine zi h (fun h => ?_) fun h => ?_
  refine aw_skip ?_
  refine aw_seq ?_
  refine aw_block ?_
  refine zx fun _ => ?_
  obtain ⟨e18, he, h⟩ := bindE h
  refine rx_rd (v := .c (.imm [I e18.Kind, Sx e18.Key, .lit (List.map eGAttr e18.Attrs), .lit (List.map eGAction e18.Actions), .lit (List.map eGView e18.Kids)])) (foot := []) (rd_idx (enc := eGView) (sz := 5) (l := p0.Kids) (ix := v16) he (by kernel_rfl) (eGView_eq e18) (by kernel_rfl)) (by kernel_rfl) rfl rfl ?_
  clear he
  refine zk 3 ?_
  refine ze [1, 2, 13, 93, 94, 95] ?_
  refine zx fun _ => ?_
  refine zk 4 ?_
  obtain ⟨y19, he, h⟩ := bindE h
  refine zo [(0, 0)] fok85 (ih_view_validate _ _ _ y19 he) ?_
  clear he
  refine zk 1 ?_
  refine ze [1, 2, 14, 93, 94, 95] ?_
  refine za [1, 2, 14, 93, 94, 95, 105] ?_
  refine zi h (fun h => ?_) fun h => ?_
  refine za [6] ?_
  cases h
  exact aw_ret zr
  refine aw_skip ?_
  refine aw_out ?_
  refine zb ?_
  exact via (zv [(0, 0)] [1, 2, 93, 94, 95] 1) (⟨_, _, h, rfl⟩)
  exact aw_views (zv [(0, 0)] [] 1) (aw_exit (hj13 _ h))
  refine zx fun _ => ?_
  refine zk 2 ?_
  refine zl eGView p0.Kids ?_
  refine zk 1 ?_
  refine zee [1, 2, 3, 9, 73, 74, 75] (L2 := [(1, .c (I p1)), (2, .c (.ptr 0 0)), (3, .c (.ptr 1 0)), (9, .c (.mapr 60)), (73, .c (.lit (List.map eGView p0.Kids))), (74, .c (I (List.length p0.Kids : Int))), (75, .c (I 0))]) (G2 := [(0, .blk 3 [I (IntKind.wrap .i64 (p2 + 1))]), (1, .blk 75 [I p0.Kind, Sx p0.Key, .lit (List.map eGAttr p0.Attrs), .lit (List.map eGAction p0.Actions), .lit (List.map eGView p0.Kids)]), (60, .map false (List.map (eM Value.string eB) ([] : List (ByteArray × Bool))))]) 66 ?_
  refine aw_block ?_
  refine aw_loopJ (fun n s => ∃ v7 v8, view_validate_L0 p0 p2 j4 p1 n v7 v8 = some r ∧ s = mk [(1, .c (I p1)), (2, .c (.ptr 0 0)), (3, .c (.ptr 1 0)), (9, .c (.mapr 2)), (73, .c (.lit (List.map eGView p0.Kids))), (74, .c (I (List.length p0.Kids : Int))), (75, .c (I v7))] [(0, .blk 3 [I (IntKind.wrap .i64 (p2 + 1))]), (1, .blk 75 [I p0.Kind, Sx p0.Key, .lit (List.map eGAttr p0.Attrs), .lit (List.map eGAction p0.Actions), .lit (List.map eGView p0.Kids)]), (2, .map false (List.map (eM Value.string eB) v8))] 3) n _ (zv [(0, 0), (1, 1), (60, 2)] [1, 2, 3, 9, 73, 74, 75] 3) ⟨_, _, h, rfl⟩ (fun s ⟨v7, v8, h, _⟩ => nomatch h) ?_
  rintro n s ⟨v7, v8, h, rfl⟩
  rw [view_validate_L0] at h
  refine za [1, 2, 3, 9, 73, 74, 75, 76] ?_
  refine aw_seq ?_
  refine zi h (fun h => ?_) fun h => ?_
  refine aw_skip ?_
  refine aw_seq ?_
  refine aw_block ?_
  refine zx fun _ => ?_
  obtain ⟨e9, he, h⟩ := bindE h
  refine rx_rd (v := .c (.imm [I e9.Kind, Sx e9.Key, .lit (List.map eGAttr e9.Attrs), .lit (List.map eGAction e9.Actions), .lit (List.map eGView e9.Kids)])) (foot := []) (rd_idx (enc := eGView) (sz := 5) (l := p0.Kids) (ix := v7) he (by kernel_rfl) (eGView_eq e9) (by kernel_rfl)) (by kernel_rfl) rfl rfl ?_
  clear he
  refine zk 3 ?_
  refine ze [1, 2, 3, 9, 11, 73, 74, 75] ?_
  refine aw_seq ?_
  refine zx fun _ => ?_
  refine zk 4 ?_
  refine zE (.c (.mapr 2)) ?_
  refine zE (.c (.ptr 6 1)) ?_
  refine zE (.c (Sx e9.Key)) ?_
  obtain ⟨y10, he, h⟩ := bindE h
  refine rx_EW (e := [(!(sEq e9.Key (⟨#[]⟩ : ByteArray)))]) [(83, .c (.mapr 2), some 1), (85, .c (Sx e9.Key), some 1)] (v := .c (Bo y10.1)) (foot := [2]) (by kernel_rfl) (by kernel_rfl) (by kernel_rfl) (fun hg => rdW_lookup (kf := Value.string) (enc := eB) (l := v8) (k := e9.Key) (ok := false) (kk := .str) (j := ⟨.boo, 1, 1, [.bool false]⟩) (p := y10) (v := .c (Bo y10.1)) (gd_spec he hg) (by kernel_rfl) keyStr (by kernel_rfl) (by kernel_rfl) (by kernel_rfl)) rfl rfl ?_
  clear he
  refine zP (.bool ((!(sEq e9.Key (⟨#[]⟩ : ByteArray))) && y10.1)) ?_
  refine ze [1, 2, 3, 9, 11, 73, 74, 75, 87] ?_
  refine zi h (fun h => ?_) fun h => ?_
  refine za [6] ?_
  cases h
  exact aw_ret zr
  refine aw_skip ?_
  refine zy fun _ => ?_
  refine zk 3 ?_
  refine rx_mapset (kf := Value.string) (enc := eB) (l := v8) (k := e9.Key) (v := true) (n := 2) (ag := false) (kk := .str) (by kernel_rfl) keyStr (by kernel_rfl) (by kernel_rfl) rfl rfl ?_
  refine x_last ?_
  refine aw_out ?_
  refine zb ?_
  exact via (zv [(0, 0), (1, 1), (2, 2)] [1, 2, 3, 9, 73, 74, 75] 3) (⟨_, _, h, rfl⟩)
  exact aw_views (zv [(0, 0), (1, 1)] [1, 2, 3] 2) (aw_exit (hj4 _ h))
def view_validate : Nat → GView → Int → Int → Option (Int × Int)
  | 0, _, _, _ => none
  | n + 1, p0, p1, p2 => view_validate_body (fun a0 a1 a2 => view_validate n a0 a1 a2) n p0 p1 p2
theorem view_validate_ok (n : Nat) : (∀ (p0 : GView) (p1 : Int) (p2 : Int) (r : (Int × Int)), view_validate n p0 p1 p2 = some r → FnD E 85 1 [.agg [I p0.Kind, Sx p0.Key, .lit (List.map eGAttr p0.Attrs), .lit (List.map eGAction p0.Actions), .lit (List.map eGView p0.Kids)], .c (I p1), .c (.ptr 0 0)] [(0, .blk 3 [I p2])] (.c (I r.1)) [(0, .blk 3 [I r.2])]) := by
  induction n with
  | zero => intro p0 p1 p2 r h; rw [view_validate] at h; cases h
  | succ n ih => intro p0 p1 p2 r h; rw [view_validate] at h; exact view_validate_body_ok _ ih n _ _ _ r h
def view_Validate  (n : Nat) (p0 : GView) : Option Int := (view_validate n p0 1 0).bind fun (y1 : (Int × Int)) => some y1.1
theorem view_Validate_ok  (n : Nat) (p0 : GView) (r : Int) (h : view_Validate n p0 = some r) : FnD E 66 0 [.agg [I p0.Kind, Sx p0.Key, .lit (List.map eGAttr p0.Attrs), .lit (List.map eGAction p0.Actions), .lit (List.map eGView p0.Kids)]] [] (.c (I r)) [] := by
  refine zfn Tryd.func66 rfl ?_
  unfold view_Validate at h
  refine za [1] ?_
  refine za [1, 3] ?_
  refine zx fun _ => ?_
  refine zk 1 ?_
  obtain ⟨y1, he, h⟩ := bindE h
  refine zo [(0, 2)] fok85 (view_validate_ok n _ _ _ y1 he) ?_
  clear he
  refine zk 1 ?_
  refine ze [2] ?_
  cases h
  exact aw_ret zr
def view_examine  (n : Nat) (p0 : GTree) : Option ((List (Int × GNode)) × GView × Int) := (view_graph n p0).bind fun (y1 : ((List (Int × GNode)) × Bool)) => (if (!y1.2) = true then some (([] : List (Int × GNode)), (GView.mk 0 (⟨#[]⟩ : ByteArray) ([] : List GAttr) ([] : List GAction) ([] : List GView)), 12) else (view_described n y1.1 p0.Root).bind fun (y2 : GView) => (view_Validate n y2).bind fun (y3 : Int) => some (y1.1, y2, y3))
theorem view_examine_ok  (n : Nat) (p0 : GTree) (r : ((List (Int × GNode)) × GView × Int)) (h : view_examine n p0 = some r) : FnD E 52 0 [.agg [I p0.Root, I p0.Next, .lit (List.map eGNode p0.Nodes)]] [] (.tup [.c (.lmap true (List.map (eM (Value.int .i64) eGNode) r.1)), .agg [I r.2.1.Kind, Sx r.2.1.Key, .lit (List.map eGAttr r.2.1.Attrs), .lit (List.map eGAction r.2.1.Actions), .lit (List.map eGView r.2.1.Kids)], .c (I r.2.2)]) [] := by
  refine zfn Tryd.func52 rfl ?_
  unfold view_examine at h
  refine za [1, 3] ?_
  refine zx fun _ => ?_
  refine zk 1 ?_
  obtain ⟨y1, he, h⟩ := bindE h
  refine zc fok64 (view_graph_ok n _ y1 he) ?_
  clear he
  refine zk 5 ?_
  refine ze [1, 3, 5, 6] ?_
  refine aw_seq ?_
  refine za [1, 3, 5, 14] ?_
  refine zi h (fun h => ?_) fun h => ?_
  refine za [2, 3, 4] ?_
  refine aw_views (view_nilM 2 true (L2 := [(3, .c (.ptr 2 0)), (2, .c (.lmap true (List.map (eM (Value.int .i64) eGNode) ([] : List (Int × GNode))))), (4, .c (I 12))]) (by kernel_rfl) (by kernel_rfl)) ?_
  cases h
  exact aw_ret zr
  refine aw_skip ?_
  refine zx fun _ => ?_
  refine zk 3 ?_
  obtain ⟨y2, he, h⟩ := bindE h
  refine zc fok65 (view_described_ok n _ _ y2 he) ?_
  clear he
  refine zk 2 ?_
  refine ze [3, 5, 7] ?_
  refine zdx [[], [], [], [2], [0, 3, 2], [1, 4, 0, 3, 2], [3, 5, 0, 1, 2, 4]] fun _ => ?_
  refine zk 3 ?_
  obtain ⟨y3, he, h⟩ := bindE h
  refine zc fok66 (view_Validate_ok n _ y3 he) ?_
  clear he
  refine zk 3 ?_
  refine zee [2, 3, 4] (L2 := [(3, .c (.ptr 2 0)), (2, .c (.lmap true (List.map (eM (Value.int .i64) eGNode) y1.1))), (4, .c (I y3))]) (G2 := [(0, .blk 49 [I p0.Root, I p0.Next, .lit (List.map eGNode p0.Nodes)]), (2, .blk 75 [I y2.Kind, Sx y2.Key, .lit (List.map eGAttr y2.Attrs), .lit (List.map eGAction y2.Actions), .lit (List.map eGView y2.Kids)]), (17, .blk 75 [I y2.Kind, Sx y2.Key, .lit (List.map eGAttr y2.Attrs), .lit (List.map eGAction y2.Actions), .lit (List.map eGView y2.Kids)])]) 26 ?_
  cases h
  exact aw_ret zr
def view_Check  (n : Nat) (p0 : GTree) : Option Int := (view_examine n p0).bind fun (y1 : ((List (Int × GNode)) × GView × Int)) => some y1.2.2
theorem view_Check_ok  (n : Nat) (p0 : GTree) (r : Int) (h : view_Check n p0 = some r) : FnD E 37 0 [.agg [I p0.Root, I p0.Next, .lit (List.map eGNode p0.Nodes)]] [] (.c (I r)) [] := by
  refine zfn Tryd.func37 rfl ?_
  unfold view_Check at h
  refine za [1] ?_
  refine zx fun _ => ?_
  refine zk 1 ?_
  obtain ⟨y1, he, h⟩ := bindE h
  refine zc fok52 (view_examine_ok n _ y1 he) ?_
  clear he
  refine zk 8 ?_
  refine ze [5] ?_
  refine za [2] ?_
  cases h
  exact aw_ret zr
end Go.Proofs.YtojkihhnioeggaaDoor.S
