/- Functions, and that the program's are they. Printed by ext.py. -/
import Derived.Test.YtojkihhnioeggaaDoorGQ5
set_option linter.unusedVariables false
set_option linter.unusedSimpArgs false
set_option maxRecDepth 100000
set_option maxHeartbeats 4000000
namespace Go.Proofs.YtojkihhnioeggaaDoor.S
open Go Go.Bm
def expr_check_L0 (p0 : GValue) (self_expr_check : GValue → Int → Int → Option (GType × Int × Int)) (p1 : Int) (j6 : List GType → Int → Option (GType × Int × Int)) : Nat → List GType → Int → Int → Option (GType × Int × Int)
  | 0, _, _, _ => none
  | n + 1, v10, v11, v12 => (if (decide (v11 < (List.length p0.L : Int))) = true then (idx p0.L v11).bind fun (e13 : GValue) => (self_expr_check e13 (IntKind.wrap .i64 (p1 + 1)) v12).bind fun (y14 : (GType × Int × Int)) => (if (y14.2.1 != 0) = true then some ((GType.mk 0 ([] : List GType)), y14.2.1, y14.2.2) else (apd 32 v10 [y14.1]).bind fun (l15 : List GType) => expr_check_L0 p0 self_expr_check p1 j6 n l15 (IntKind.wrap .i64 (v11 + 1)) y14.2.2) else j6 v10 v12)
def expr_check_body (self_expr_check : GValue → Int → Int → Option (GType × Int × Int)) (n : Nat) (p0 : GValue) (p1 : Int) (p2 : Int) : Option (GType × Int × Int) := (if ((p0.Kind == 4) && (decide (p1 ≥ 16))) = true then some ((GType.mk 0 ([] : List GType)), 8, p2) else (expr_fields n p0).bind fun (y1 : Bool) => (if (!y1) = true then some ((GType.mk 0 ([] : List GType)), 9, (IntKind.wrap .i64 (p2 + 1))) else (withJ (fun (v4 : Bool) => (if v4 = true then some ((GType.mk 0 ([] : List GType)), 1, (IntKind.wrap .i64 (p2 + 1))) else (if (((decide ((ByteArray.size p0.S : Int) > 2000)) || (decide ((List.length p0.L : Int) > 100))) || (decide ((IntKind.wrap .i64 (p2 + 1)) > 1000))) = true then some ((GType.mk 0 ([] : List GType)), 2, (IntKind.wrap .i64 (p2 + 1))) else (utf8_ValidString n p0.S).bind fun (y5 : Bool) => (if (!y5) = true then some ((GType.mk 0 ([] : List GType)), 3, (IntKind.wrap .i64 (p2 + 1))) else (if (p0.Kind != 4) = true then some ((GType.mk p0.Kind ([] : List GType)), 0, (IntKind.wrap .i64 (p2 + 1))) else (withJ (fun (v19 : List GType) (v20 : Int) => (expr_common n v19).bind fun (y21 : (GType × Bool)) => (if (!y21.2) = true then some ((GType.mk 0 ([] : List GType)), 5, v20) else some (y21.1, 0, v20))) (fun (j6 : List GType → Int → Option (GType × Int × Int)) => expr_check_L0 p0 self_expr_check p1 j6 n ([] : List GType) 0 (IntKind.wrap .i64 (p2 + 1))))))))) (fun (j2 : Bool → Option (GType × Int × Int)) => (gd [(p0.Kind == 1)] (expr_within n p0.N)).bind fun (y3 : Bool) => (if ((p0.Kind == 1) && (!y3)) = true then j2 ((p0.Kind == 1) && (!y3)) else j2 (((p0.Kind == 2) && (p0.N != 0)) && (p0.N != 1)))))))
theorem expr_check_body_ok (self_expr_check : GValue → Int → Int → Option (GType × Int × Int)) (ih_expr_check : ∀ (p0 : GValue) (p1 : Int) (p2 : Int) (r : (GType × Int × Int)), self_expr_check p0 p1 p2 = some r → FnD E 105 1 [.agg [I p0.Kind, I p0.N, Sx p0.S, .lit (List.map eGValue p0.L)], .c (I p1), .c (.ptr 0 0)] [(0, .blk 3 [I p2])] (.tup [.agg [I r.1.Kind, .lit (List.map eGType r.1.Of)], .c (I r.2.1)]) [(0, .blk 3 [I r.2.2])]) (n : Nat) (p0 : GValue) (p1 : Int) (p2 : Int) (r : (GType × Int × Int)) (h : expr_check_body self_expr_check n p0 p1 p2 = some r) : FnD E 105 1 [.agg [I p0.Kind, I p0.N, Sx p0.S, .lit (List.map eGValue p0.L)], .c (I p1), .c (.ptr 0 0)] [(0, .blk 3 [I p2])] (.tup [.agg [I r.1.Kind, .lit (List.map eGType r.1.Of)], .c (I r.2.1)]) [(0, .blk 3 [I r.2.2])] := by
  refine zfn Tryd.func105 rfl ?_
  unfold expr_check_body at h
  refine za [1, 2, 3, 6] ?_
  refine aw_seq ?_
  refine zx fun _ => ?_
  refine zk 4 ?_
  refine zE (.c (I p1)) ?_
  refine zE (.c (Bo (decide (p1 ≥ 16)))) ?_
  refine zP (.bool ((p0.Kind == 4) && (decide (p1 ≥ 16)))) ?_
  refine ze [1, 2, 3, 6, 21] ?_
  refine aw_ite (t := ((p0.Kind == 4) && (decide (p1 ≥ 16)))) (by kernel_rfl) h (fun h => ?_) (fun h => ?_)
  · refine za [6, 7] ?_
    have h := Option.some.inj h
    subst h
    exact aw_ret (fin_pub (A := .tup [.agg [I 0, NilS], .c (I 8)]) (.inl rfl) (by kernel_rfl) (by kernel_rfl) (by kernel_rfl))
  · refine aw_skip ?_
    refine za [1, 2, 3, 6] ?_
    refine aw_seq ?_
    refine aw_block ?_
    refine zx fun _ => ?_
    refine zk 1 ?_
    obtain ⟨y1, he, h⟩ := bindE h
    refine rx_call (F := 107) (As := [.agg [I p0.Kind, I p0.N, Sx p0.S, .lit (List.map eGValue p0.L)]]) (Bs := [.agg [I p0.Kind, I p0.N, Sx p0.S, .lit (List.map eGValue p0.L)]]) (r := .c (Bo y1)) (v := .c (Bo y1)) (by kernel_rfl) fok107 (by kernel_rfl) (expr_fields_ok n _ y1 he) (by kernel_rfl) (by kernel_rfl) rfl rfl ?_
    clear he
    refine zk 2 ?_
    refine ze [1, 2, 3, 6, 28] ?_
    refine aw_ite (t := (!y1)) (by kernel_rfl) h (fun h => ?_) (fun h => ?_)
    · refine za [6, 7] ?_
      have h := Option.some.inj h
      subst h
      exact aw_ret (fin_pub (A := .tup [.agg [I 0, NilS], .c (I 9)]) (.inl rfl) (by kernel_rfl) (by kernel_rfl) (by kernel_rfl))
    · refine aw_join h (fun A j => ∀ (v4 : Bool), j v4 = some r → A (mk [(1, .c (I p1)), (2, .c (.ptr 0 0)), (3, .c (.ptr 1 0)), (6, .c (.ptr 2 0)), (33, .c (Bo v4))] [(0, .blk 3 [I (IntKind.wrap .i64 (p2 + 1))]), (1, .blk 70 [I p0.Kind, I p0.N, Sx p0.S, .lit (List.map eGValue p0.L)]), (2, .blk 163 [I 0, NilS])] 3)) (fun v4 h => ?_) (fun j2 Aj2 hj2 h => ?_)
      · refine aw_ite (t := v4) (by kernel_rfl) h (fun h => ?_) (fun h => ?_)
        · refine za [6, 7] ?_
          have h := Option.some.inj h
          subst h
          exact aw_ret (fin_pub (A := .tup [.agg [I 0, NilS], .c (I 1)]) (.inl rfl) (by kernel_rfl) (by kernel_rfl) (by kernel_rfl))
        · refine zx fun _ => ?_
          refine zk 5 ?_
          refine zE (.c (.ptr 1 3)) ?_
          refine zE (.c (.lit (List.map eGValue p0.L))) ?_
          refine rx_E (e := [(!(decide ((ByteArray.size p0.S : Int) > 2000)))]) [(64, .c (.lit (List.map eGValue p0.L)), some 1)] (v := .c (I (List.length p0.L : Int))) (foot := []) (by kernel_rfl) (by kernel_rfl) (by kernel_rfl) (fun hg => rd_len (enc := eGValue) (l := p0.L) (by kernel_rfl)) rfl rfl ?_
          refine zE (.c (Bo (decide ((List.length p0.L : Int) > 100)))) ?_
          refine zP (.bool ((decide ((ByteArray.size p0.S : Int) > 2000)) || (decide ((List.length p0.L : Int) > 100)))) ?_
          refine zk 1 ?_
          refine zE (.c (.ptr 0 0)) ?_
          refine zE (.c (.ptr 0 0)) ?_
          refine zE (.c (I (IntKind.wrap .i64 (p2 + 1)))) ?_
          refine zE (.c (Bo (decide ((IntKind.wrap .i64 (p2 + 1)) > 1000)))) ?_
          refine zP (.bool (((decide ((ByteArray.size p0.S : Int) > 2000)) || (decide ((List.length p0.L : Int) > 100))) || (decide ((IntKind.wrap .i64 (p2 + 1)) > 1000)))) ?_
          refine zk 1 ?_
          refine zee [1, 2, 3, 6, 57] (L2 := [(1, .c (I p1)), (2, .c (.ptr 0 0)), (3, .c (.ptr 1 0)), (6, .c (.ptr 2 0)), (57, .c (Bo (((decide ((ByteArray.size p0.S : Int) > 2000)) || (decide ((List.length p0.L : Int) > 100))) || (decide ((IntKind.wrap .i64 (p2 + 1)) > 1000)))))]) (G2 := [(0, .blk 3 [I (IntKind.wrap .i64 (p2 + 1))]), (1, .blk 70 [I p0.Kind, I p0.N, Sx p0.S, .lit (List.map eGValue p0.L)]), (2, .blk 163 [I 0, NilS])]) 20 ?_
          refine aw_ite (t := (((decide ((ByteArray.size p0.S : Int) > 2000)) || (decide ((List.length p0.L : Int) > 100))) || (decide ((IntKind.wrap .i64 (p2 + 1)) > 1000)))) (by kernel_rfl) h (fun h => ?_) (fun h => ?_)
          · refine za [6, 7] ?_
            have h := Option.some.inj h
            subst h
            exact aw_ret (fin_pub (A := .tup [.agg [I 0, NilS], .c (I 2)]) (.inl rfl) (by kernel_rfl) (by kernel_rfl) (by kernel_rfl))
          · refine zx fun _ => ?_
            refine zk 2 ?_
            obtain ⟨y5, he, h⟩ := bindE h
            refine rx_call (F := 109) (As := [.c (Sx p0.S)]) (Bs := [.c (Sx p0.S)]) (r := .c (Bo y5)) (v := .c (Bo y5)) (by kernel_rfl) fok109 (by kernel_rfl) (utf8_ValidString_ok n _ y5 he) (by kernel_rfl) (by kernel_rfl) rfl rfl ?_
            clear he
            refine zk 2 ?_
            refine ze [1, 2, 3, 6, 75] ?_
            refine aw_ite (t := (!y5)) (by kernel_rfl) h (fun h => ?_) (fun h => ?_)
            · refine za [6, 7] ?_
              have h := Option.some.inj h
              subst h
              exact aw_ret (fin_pub (A := .tup [.agg [I 0, NilS], .c (I 3)]) (.inl rfl) (by kernel_rfl) (by kernel_rfl) (by kernel_rfl))
            · refine za [1, 2, 3, 6, 81] ?_
              refine aw_ite (t := (p0.Kind != 4)) (by kernel_rfl) h (fun h => ?_) (fun h => ?_)
              · refine za [6, 7] ?_
                have h := Option.some.inj h
                subst h
                exact aw_ret (fin_pub (A := .tup [.agg [I p0.Kind, NilS], .c (I 0)]) (.inl rfl) (by kernel_rfl) (by kernel_rfl) (by kernel_rfl))
              · refine aw_skip ?_
                refine za [1, 2, 3, 6, 8] ?_
                refine aw_join h (fun A j => ∀ (v19 : List GType) (v20 : Int), j v19 v20 = some r → A (mk [(6, .c (.ptr 1 0)), (8, .c (.app 2 (List.map eGType v19)))] [(0, .blk 3 [I v20]), (1, .blk 163 [I 0, NilS]), (2, .tok 163 2 (List.length v19))] 3)) (fun v19 v20 h => ?_) (fun j6 Aj6 hj6 h => ?_)
                · refine zx fun _ => ?_
                  refine zk 1 ?_
                  obtain ⟨y21, he, h⟩ := bindE h
                  refine rx_call (F := 110) (As := [.c (.app 2 (List.map eGType v19))]) (Bs := [.c (.lit (List.map eGType v19))]) (r := .tup [.agg [I y21.1.Kind, .lit (List.map eGType y21.1.Of)], .c (Bo y21.2)]) (v := .tup [.agg [I y21.1.Kind, .lit (List.map eGType y21.1.Of)], .c (Bo y21.2)]) (by kernel_rfl) fok110 (by kernel_rfl) (expr_common_ok n _ y21 he) (by kernel_rfl) (by kernel_rfl) rfl rfl ?_
                  clear he
                  refine zk 6 ?_
                  refine ze [6, 13, 14] ?_
                  refine aw_seq ?_
                  refine za [6, 13, 118] ?_
                  refine aw_ite (t := (!y21.2)) (by kernel_rfl) h (fun h => ?_) (fun h => ?_)
                  · refine za [6, 7] ?_
                    have h := Option.some.inj h
                    subst h
                    exact aw_ret (fin_pub (A := .tup [.agg [I 0, NilS], .c (I 5)]) (.inl rfl) (by kernel_rfl) (by kernel_rfl) (by kernel_rfl))
                  · refine aw_skip ?_
                    refine za [6, 7] ?_
                    have h := Option.some.inj h
                    subst h
                    exact aw_ret (fin_pub (A := .tup [.agg [I y21.1.Kind, .lit (List.map eGType y21.1.Of)], .c (I 0)]) (.inl rfl) (by kernel_rfl) (by kernel_rfl) (by kernel_rfl))
                · refine zx fun _ => ?_
                  refine zk 2 ?_
                  refine rx_rd (v := .c (I (List.length p0.L : Int))) (foot := []) (rd_len (enc := eGValue) (l := p0.L) (by kernel_rfl)) (by kernel_rfl) rfl rfl ?_
                  refine zk 1 ?_
                  refine ze [1, 2, 6, 8, 89, 90, 91] ?_
                  refine aw_block ?_
                  refine aw_loopJ (fun n s => ∃ (v10 : List GType) (v11 : Int) (v12 : Int), expr_check_L0 p0 self_expr_check p1 j6 n v10 v11 v12 = some r ∧ s = mk [(1, .c (I p1)), (2, .c (.ptr 0 0)), (6, .c (.ptr 1 0)), (8, .c (.app 2 (List.map eGType v10))), (89, .c (.lit (List.map eGValue p0.L))), (90, .c (I (List.length p0.L : Int))), (91, .c (I v11))] [(0, .blk 3 [I v12]), (1, .blk 163 [I 0, NilS]), (2, .tok 163 2 (List.length v10))] 3) n _ (Views.trans (view_nilS (L2 := [(1, .c (I p1)), (2, .c (.ptr 0 0)), (6, .c (.ptr 2 0)), (8, .c (.app 34 (List.map eGType ([] : List GType)))), (89, .c (.lit (List.map eGValue p0.L))), (90, .c (I (List.length p0.L : Int))), (91, .c (I 0))]) (G2 := [(0, .blk 3 [I (IntKind.wrap .i64 (p2 + 1))]), (1, .blk 70 [I p0.Kind, I p0.N, Sx p0.S, .lit (List.map eGValue p0.L)]), (2, .blk 163 [I 0, NilS]), (34, .tok 163 2 (List.length ([] : List GType)))]) (lim2 := 35) 8 163 2 (by kernel_rfl) (by kernel_rfl) (by kernel_rfl) (by kernel_rfl)) (zv [(0, 0), (2, 1), (34, 2)] [1, 2, 6, 8, 89, 90, 91] 3)) ⟨_, _, _, h, rfl⟩ (fun s ⟨v10, v11, v12, h, _⟩ => nomatch h) ?_
                  rintro n s ⟨v10, v11, v12, h, rfl⟩
                  rw [expr_check_L0] at h
                  refine za [1, 2, 6, 8, 89, 90, 91, 92] ?_
                  refine aw_seq ?_
                  refine aw_ite (t := (decide (v11 < (List.length p0.L : Int)))) (by kernel_rfl) h (fun h => ?_) (fun h => ?_)
                  · refine aw_skip ?_
                    refine aw_seq ?_
                    refine aw_block ?_
                    refine zx fun _ => ?_
                    obtain ⟨e13, he, h⟩ := bindE h
                    refine rx_rd (v := .c (.imm [I e13.Kind, I e13.N, Sx e13.S, .lit (List.map eGValue e13.L)])) (foot := []) (rd_idx (enc := eGValue) (sz := 4) (l := p0.L) (ix := v11) he (by kernel_rfl) (eGValue_eq e13) (by kernel_rfl)) (by kernel_rfl) rfl rfl ?_
                    clear he
                    refine zk 3 ?_
                    refine ze [1, 2, 6, 8, 10, 89, 90, 91] ?_
                    refine zx fun _ => ?_
                    refine zk 4 ?_
                    obtain ⟨y14, he, h⟩ := bindE h
                    refine rx_callO (F := 105) (As := [.agg [I e13.Kind, I e13.N, Sx e13.S, .lit (List.map eGValue e13.L)], .c (I (IntKind.wrap .i64 (p1 + 1))), .c (.ptr 0 0)]) (Bs := [.agg [I e13.Kind, I e13.N, Sx e13.S, .lit (List.map eGValue e13.L)], .c (I (IntKind.wrap .i64 (p1 + 1))), .c (.ptr 0 0)]) (σ := [(0, 0)]) (k := 1) (Gc := [(0, .blk 3 [I v12])]) (Gf := [(0, .blk 3 [I y14.2.2])]) (r := .tup [.agg [I y14.1.Kind, .lit (List.map eGType y14.1.Of)], .c (I y14.2.1)]) (v := .tup [.agg [I y14.1.Kind, .lit (List.map eGType y14.1.Of)], .c (I y14.2.1)]) (by kernel_rfl) fok105 ⟨.inl (by kernel_rfl), ⟨.inl (by kernel_rfl), ⟨.inr ⟨(by kernel_rfl), (by kernel_rfl)⟩, trivial⟩⟩⟩ (ih_expr_check _ _ _ y14 he) (by kernel_rfl) (by kernel_rfl) (by kernel_rfl) (by kernel_rfl) rfl rfl rfl ?_
                    clear he
                    refine zk 6 ?_
                    refine ze [1, 2, 6, 8, 11, 12, 89, 90, 91] ?_
                    refine aw_seq ?_
                    refine za [1, 2, 6, 8, 11, 12, 89, 90, 91, 104] ?_
                    refine aw_ite (t := (y14.2.1 != 0)) (by kernel_rfl) h (fun h => ?_) (fun h => ?_)
                    · refine za [6, 7] ?_
                      have h := Option.some.inj h
                      subst h
                      exact aw_ret (fin_pub (A := .tup [.agg [I 0, NilS], .c (I y14.2.1)]) (.inl rfl) (by kernel_rfl) (by kernel_rfl) (by kernel_rfl))
                    · refine aw_skip ?_
                      refine zy fun _ => ?_
                      refine zk 2 ?_
                      refine rx_bs (e := 163) (sz := 2) (len := 1) (r := [I y14.1.Kind, .lit (List.map eGType y14.1.Of)]) (l' := List.map eGType [y14.1]) (nm := 23) (by kernel_rfl) (by simp only [List.map_cons, List.map_nil, eGType_eq]; kernel_rfl) (by kernel_rfl) (by kernel_rfl) rfl rfl rfl ?_
                      obtain ⟨l15, he, h⟩ := bindE h
                      refine rx_append (enc := eGType) (l := v10) (els := [y14.1]) (r := l15) (old := some 2) (e := 163) (sz := 2) (bytes := 32) (k := (List.length v10)) (nm := 24) he (by kernel_rfl) (by kernel_rfl) (fun x => by rw [eGType_eq]; rfl) (by kernel_rfl) (by kernel_rfl) rfl rfl rfl ?_
                      clear he
                      refine zk 1 ?_
                      refine x_last ?_
                      refine aw_out ?_
                      refine zb ?_
                      exact via (zv [(0, 0), (1, 1), (24, 2)] [1, 2, 6, 8, 89, 90, 91] 3) (⟨_, _, _, h, rfl⟩)
                  · exact aw_views (zv [(0, 0), (1, 1), (2, 2)] [6, 8] 3) (aw_exit (hj6 _ _ h))
      · refine zx fun _ => ?_
        refine zk 4 ?_
        refine zE (.c (.ptr 1 1)) ?_
        refine zE (.c (I p0.N)) ?_
        obtain ⟨y3, he, h⟩ := bindE h
        refine rx_Ecall (e := [(p0.Kind == 1)]) [(39, .c (I p0.N), some 1)] (F := 108) (As := [.c (I p0.N)]) (Bs := [.c (I p0.N)]) (r := .c (Bo y3)) (v := .c (Bo y3)) (by kernel_rfl) (by kernel_rfl) (by kernel_rfl) (by kernel_rfl) fok108 (by kernel_rfl) (fun hg => expr_within_ok n _ y3 (gd_spec he hg)) (by kernel_rfl) rfl rfl ?_
        clear he
        refine zE (.c (Bo (!y3))) ?_
        refine zP (.bool ((p0.Kind == 1) && (!y3))) ?_
        refine zk 1 ?_
        refine zee [1, 2, 3, 6, 33] (L2 := [(1, .c (I p1)), (2, .c (.ptr 0 0)), (3, .c (.ptr 1 0)), (6, .c (.ptr 2 0)), (33, .c (Bo ((p0.Kind == 1) && (!y3))))]) (G2 := [(0, .blk 3 [I (IntKind.wrap .i64 (p2 + 1))]), (1, .blk 70 [I p0.Kind, I p0.N, Sx p0.S, .lit (List.map eGValue p0.L)]), (2, .blk 163 [I 0, NilS])]) 31 ?_
        refine aw_ite (t := ((p0.Kind == 1) && (!y3))) (by kernel_rfl) h (fun h => ?_) (fun h => ?_)
        · exact aw_views (zv [(0, 0), (1, 1), (2, 2)] [1, 2, 3, 6, 33] 3) (aw_skip (hj2 _ h))
        · refine aw_out ?_
          refine zy fun _ => ?_
          refine zk 4 ?_
          refine zE (.c (.ptr 1 1)) ?_
          refine zE (.c (I p0.N)) ?_
          refine zE (.c (Bo (p0.N != 0))) ?_
          refine zP (.bool ((p0.Kind == 2) && (p0.N != 0))) ?_
          refine zk 1 ?_
          refine zE (.c (.ptr 1 1)) ?_
          refine zE (.c (I p0.N)) ?_
          refine zE (.c (Bo (p0.N != 1))) ?_
          refine zP (.bool (((p0.Kind == 2) && (p0.N != 0)) && (p0.N != 1))) ?_
          refine zk 1 ?_
          refine x_last ?_
          exact via (zv [(0, 0), (1, 1), (2, 2)] [1, 2, 3, 6, 33] 3) (hj2 _ h)
def expr_check : Nat → GValue → Int → Int → Option (GType × Int × Int)
  | 0, _, _, _ => none
  | n + 1, p0, p1, p2 => expr_check_body (fun a0 a1 a2 => expr_check n a0 a1 a2) n p0 p1 p2
theorem expr_check_ok (n : Nat) : (∀ (p0 : GValue) (p1 : Int) (p2 : Int) (r : (GType × Int × Int)), expr_check n p0 p1 p2 = some r → FnD E 105 1 [.agg [I p0.Kind, I p0.N, Sx p0.S, .lit (List.map eGValue p0.L)], .c (I p1), .c (.ptr 0 0)] [(0, .blk 3 [I p2])] (.tup [.agg [I r.1.Kind, .lit (List.map eGType r.1.Of)], .c (I r.2.1)]) [(0, .blk 3 [I r.2.2])]) := by
  induction n with
  | zero => intro p0 p1 p2 r h; rw [expr_check] at h; cases h
  | succ n ih => intro p0 p1 p2 r h; rw [expr_check] at h; exact expr_check_body_ok _ ih n _ _ _ r h
def expr_copyType_body (self_expr_copyType : GType → Option GType) (n : Nat) (p0 : GType) : Option GType := (if ((List.length p0.Of : Int) == 0) = true then some (GType.mk p0.Kind ([] : List GType)) else (idx p0.Of 0).bind fun (e1 : GType) => (self_expr_copyType e1).bind fun (y2 : GType) => (expr_listOf n y2).bind fun (y3 : GType) => some y3)
theorem expr_copyType_body_ok (self_expr_copyType : GType → Option GType) (ih_expr_copyType : ∀ (p0 : GType) (r : GType), self_expr_copyType p0 = some r → FnD E 106 0 [.agg [I p0.Kind, .lit (List.map eGType p0.Of)]] [] (.agg [I r.Kind, .lit (List.map eGType r.Of)]) []) (n : Nat) (p0 : GType) (r : GType) (h : expr_copyType_body self_expr_copyType n p0 = some r) : FnD E 106 0 [.agg [I p0.Kind, .lit (List.map eGType p0.Of)]] [] (.agg [I r.Kind, .lit (List.map eGType r.Of)]) [] := by
  refine zfn Tryd.func106 rfl ?_
  unfold expr_copyType_body at h
  refine za [1, 2] ?_
  refine aw_seq ?_
  refine zx fun _ => ?_
  refine zk 2 ?_
  refine rx_rd (v := .c (I (List.length p0.Of : Int))) (foot := []) (rd_len (enc := eGType) (l := p0.Of) (by kernel_rfl)) (by kernel_rfl) rfl rfl ?_
  refine zk 1 ?_
  refine ze [1, 2, 6] ?_
  refine aw_ite (t := ((List.length p0.Of : Int) == 0)) (by kernel_rfl) h (fun h => ?_) (fun h => ?_)
  · refine za [2] ?_
    have h := Option.some.inj h
    subst h
    exact aw_ret (fin_pub (A := .agg [I p0.Kind, NilS]) (.inl rfl) (by kernel_rfl) (by kernel_rfl) (by kernel_rfl))
  · refine aw_skip ?_
    refine zx fun _ => ?_
    refine zk 2 ?_
    obtain ⟨e1, he, h⟩ := bindE h
    refine rx_rd (v := .c (.imm [I e1.Kind, .lit (List.map eGType e1.Of)])) (foot := []) (rd_idx (enc := eGType) (sz := 2) (l := p0.Of) (ix := 0) he (by kernel_rfl) (eGType_eq e1) (by kernel_rfl)) (by kernel_rfl) rfl rfl ?_
    clear he
    refine zk 1 ?_
    obtain ⟨y2, he, h⟩ := bindE h
    refine rx_call (F := 106) (As := [.agg [I e1.Kind, .lit (List.map eGType e1.Of)]]) (Bs := [.agg [I e1.Kind, .lit (List.map eGType e1.Of)]]) (r := .agg [I y2.Kind, .lit (List.map eGType y2.Of)]) (v := .agg [I y2.Kind, .lit (List.map eGType y2.Of)]) (by kernel_rfl) fok106 (by kernel_rfl) (ih_expr_copyType _ y2 he) (by kernel_rfl) (by kernel_rfl) rfl rfl ?_
    clear he
    obtain ⟨y3, he, h⟩ := bindE h
    refine rx_call (F := 111) (As := [.agg [I y2.Kind, .lit (List.map eGType y2.Of)]]) (Bs := [.agg [I y2.Kind, .lit (List.map eGType y2.Of)]]) (r := .agg [I y3.Kind, .lit (List.map eGType y3.Of)]) (v := .agg [I y3.Kind, .lit (List.map eGType y3.Of)]) (by kernel_rfl) fok111 (by kernel_rfl) (expr_listOf_ok n _ y3 he) (by kernel_rfl) (by kernel_rfl) rfl rfl ?_
    clear he
    refine zk 1 ?_
    refine zee [2] (L2 := [(2, .c (.ptr 1 0))]) (G2 := [(0, .blk 163 [I p0.Kind, .lit (List.map eGType p0.Of)]), (1, .blk 163 [I y3.Kind, .lit (List.map eGType y3.Of)])]) 13 ?_
    have h := Option.some.inj h
    subst h
    exact aw_ret (fin_pub (A := .agg [I y3.Kind, .lit (List.map eGType y3.Of)]) (.inl rfl) (by kernel_rfl) (by kernel_rfl) (by kernel_rfl))
def expr_copyType : Nat → GType → Option GType
  | 0, _ => none
  | n + 1, p0 => expr_copyType_body (fun a0 => expr_copyType n a0) n p0
theorem expr_copyType_ok (n : Nat) : (∀ (p0 : GType) (r : GType), expr_copyType n p0 = some r → FnD E 106 0 [.agg [I p0.Kind, .lit (List.map eGType p0.Of)]] [] (.agg [I r.Kind, .lit (List.map eGType r.Of)]) []) := by
  induction n with
  | zero => intro p0 r h; rw [expr_copyType] at h; cases h
  | succ n ih => intro p0 r h; rw [expr_copyType] at h; exact expr_copyType_body_ok _ ih n _ r h
def expr_TypeOf  (n : Nat) (p0 : GValue) : Option (GType × Int) := (expr_check n p0 0 0).bind fun (y1 : (GType × Int × Int)) => (if (y1.2.1 != 0) = true then some ((GType.mk 0 ([] : List GType)), y1.2.1) else (expr_copyType n y1.1).bind fun (y2 : GType) => some (y2, 0))
theorem expr_TypeOf_ok  (n : Nat) (p0 : GValue) (r : (GType × Int)) (h : expr_TypeOf n p0 = some r) : FnD E 104 0 [.agg [I p0.Kind, I p0.N, Sx p0.S, .lit (List.map eGValue p0.L)]] [] (.tup [.agg [I r.1.Kind, .lit (List.map eGType r.1.Of)], .c (I r.2)]) [] := by
  refine zfn Tryd.func104 rfl ?_
  unfold expr_TypeOf at h
  refine za [1, 2] ?_
  refine za [1, 2, 4] ?_
  refine zx fun _ => ?_
  refine zk 1 ?_
  obtain ⟨y1, he, h⟩ := bindE h
  refine rx_callO (F := 105) (As := [.agg [I p0.Kind, I p0.N, Sx p0.S, .lit (List.map eGValue p0.L)], .c (I 0), .c (.ptr 3 0)]) (Bs := [.agg [I p0.Kind, I p0.N, Sx p0.S, .lit (List.map eGValue p0.L)], .c (I 0), .c (.ptr 0 0)]) (σ := [(0, 3)]) (k := 1) (Gc := [(0, .blk 3 [I 0])]) (Gf := [(0, .blk 3 [I y1.2.2])]) (r := .tup [.agg [I y1.1.Kind, .lit (List.map eGType y1.1.Of)], .c (I y1.2.1)]) (v := .tup [.agg [I y1.1.Kind, .lit (List.map eGType y1.1.Of)], .c (I y1.2.1)]) (by kernel_rfl) fok105 ⟨.inl (by kernel_rfl), ⟨.inl (by kernel_rfl), ⟨.inr ⟨(by kernel_rfl), (by kernel_rfl)⟩, trivial⟩⟩⟩ (expr_check_ok n _ _ _ y1 he) (by kernel_rfl) (by kernel_rfl) (by kernel_rfl) (by kernel_rfl) rfl rfl rfl ?_
  clear he
  refine zk 6 ?_
  refine ze [2, 5, 6] ?_
  refine aw_seq ?_
  refine za [2, 5, 6, 13] ?_
  refine aw_ite (t := (y1.2.1 != 0)) (by kernel_rfl) h (fun h => ?_) (fun h => ?_)
  · refine za [2, 3] ?_
    have h := Option.some.inj h
    subst h
    exact aw_ret (fin_pub (A := .tup [.agg [I 0, NilS], .c (I y1.2.1)]) (.inl rfl) (by kernel_rfl) (by kernel_rfl) (by kernel_rfl))
  · refine aw_skip ?_
    refine zx fun _ => ?_
    refine zk 1 ?_
    obtain ⟨y2, he, h⟩ := bindE h
    refine rx_call (F := 106) (As := [.agg [I y1.1.Kind, .lit (List.map eGType y1.1.Of)]]) (Bs := [.agg [I y1.1.Kind, .lit (List.map eGType y1.1.Of)]]) (r := .agg [I y2.Kind, .lit (List.map eGType y2.Of)]) (v := .agg [I y2.Kind, .lit (List.map eGType y2.Of)]) (by kernel_rfl) fok106 (by kernel_rfl) (expr_copyType_ok n _ y2 he) (by kernel_rfl) (by kernel_rfl) rfl rfl ?_
    clear he
    refine zk 2 ?_
    refine ze [2, 3] ?_
    have h := Option.some.inj h
    subst h
    exact aw_ret (fin_pub (A := .tup [.agg [I y2.Kind, .lit (List.map eGType y2.Of)], .c (I 0)]) (.inl rfl) (by kernel_rfl) (by kernel_rfl) (by kernel_rfl))
def expr_Check  (n : Nat) (p0 : GValue) : Option Int := (expr_TypeOf n p0).bind fun (y1 : (GType × Int)) => some y1.2
theorem expr_Check_ok  (n : Nat) (p0 : GValue) (r : Int) (h : expr_Check n p0 = some r) : FnD E 101 0 [.agg [I p0.Kind, I p0.N, Sx p0.S, .lit (List.map eGValue p0.L)]] [] (.c (I r)) [] := by
  refine zfn Tryd.func101 rfl ?_
  unfold expr_Check at h
  refine za [1] ?_
  refine zx fun _ => ?_
  refine zk 1 ?_
  obtain ⟨y1, he, h⟩ := bindE h
  refine rx_call (F := 104) (As := [.agg [I p0.Kind, I p0.N, Sx p0.S, .lit (List.map eGValue p0.L)]]) (Bs := [.agg [I p0.Kind, I p0.N, Sx p0.S, .lit (List.map eGValue p0.L)]]) (r := .tup [.agg [I y1.1.Kind, .lit (List.map eGType y1.1.Of)], .c (I y1.2)]) (v := .tup [.agg [I y1.1.Kind, .lit (List.map eGType y1.1.Of)], .c (I y1.2)]) (by kernel_rfl) fok104 (by kernel_rfl) (expr_TypeOf_ok n _ y1 he) (by kernel_rfl) (by kernel_rfl) rfl rfl ?_
  clear he
  refine zk 6 ?_
  refine ze [4] ?_
  refine za [2] ?_
  have h := Option.some.inj h
  subst h
  exact aw_ret (fin_pub (A := .c (I y1.2)) (.inl rfl) (by kernel_rfl) (by kernel_rfl) (by kernel_rfl))
def view_attributes_L0 (p0 : (List GAttr)) (j1 : Unit → Option Int) : Nat → Int → Option Int
  | 0, _ => none
  | n + 1, v6 => (if (decide (v6 < (List.length p0 : Int))) = true then (idx p0 v6).bind fun (e7 : GAttr) => (expr_Name n e7.Name).bind fun (y8 : Bool) => (if (!y8) = true then some 4 else (gd [(decide (v6 > 0))] (idx p0 (IntKind.wrap .i64 (v6 - 1)))).bind fun (e9 : GAttr) => (if ((decide (v6 > 0)) && (!(sLt e9.Name e7.Name))) = true then some 10 else (expr_Check n e7.Value).bind fun (y10 : Int) => (if (y10 != 0) = true then some y10 else view_attributes_L0 p0 j1 n (IntKind.wrap .i64 (v6 + 1))))) else j1 ())
def view_attributes  (n : Nat) (p0 : (List GAttr)) : Option Int := (withJ (fun (_ : Unit) => some 0) (fun (j1 : Unit → Option Int) => view_attributes_L0 p0 j1 n 0))
theorem view_attributes_ok  (n : Nat) (p0 : (List GAttr)) (r : Int) (h : view_attributes n p0 = some r) : FnD E 93 0 [.c (.lit (List.map eGAttr p0))] [] (.c (I r)) [] := by
  refine zfn Tryd.func93 rfl ?_
  unfold view_attributes at h
  refine za [0] ?_
  refine aw_join h (fun A j => ∀ (u : Unit), j u = some r → A (mk [] [] 0)) (fun u h => ?_) (fun j1 Aj1 hj1 h => ?_)
  · refine za [2] ?_
    have h := Option.some.inj h
    subst h
    exact aw_ret (fin_pub (A := .c (I 0)) (.inl rfl) (by kernel_rfl) (by kernel_rfl) (by kernel_rfl))
  · refine zx fun _ => ?_
    refine zk 1 ?_
    refine rx_rd (v := .c (I (List.length p0 : Int))) (foot := []) (rd_len (enc := eGAttr) (l := p0) (by kernel_rfl)) (by kernel_rfl) rfl rfl ?_
    refine zk 1 ?_
    refine ze [0, 6, 7, 8] ?_
    refine aw_block ?_
    refine aw_loopJ (fun n s => ∃ (v6 : Int), view_attributes_L0 p0 j1 n v6 = some r ∧ s = mk [(0, .c (.lit (List.map eGAttr p0))), (6, .c (.lit (List.map eGAttr p0))), (7, .c (I (List.length p0 : Int))), (8, .c (I v6))] [] 0) n _ (zv [] [0, 6, 7, 8] 0) ⟨_, h, rfl⟩ (fun s ⟨v6, h, _⟩ => nomatch h) ?_
    rintro n s ⟨v6, h, rfl⟩
    rw [view_attributes_L0] at h
    refine za [0, 6, 7, 8, 9] ?_
    refine aw_seq ?_
    refine aw_ite (t := (decide (v6 < (List.length p0 : Int)))) (by kernel_rfl) h (fun h => ?_) (fun h => ?_)
    · refine aw_skip ?_
      refine aw_seq ?_
      refine aw_block ?_
      refine zx fun _ => ?_
      refine zk 1 ?_
      obtain ⟨e7, he, h⟩ := bindE h
      refine rx_rd (v := .c (.imm [Sx e7.Name, I e7.Value.Kind, I e7.Value.N, Sx e7.Value.S, .lit (List.map eGValue e7.Value.L)])) (foot := []) (rd_idx (enc := eGAttr) (sz := 5) (l := p0) (ix := v6) he (by kernel_rfl) (by kernel_rfl) (by kernel_rfl)) (by kernel_rfl) rfl rfl ?_
      clear he
      refine zk 4 ?_
      refine ze [0, 3, 4, 6, 7, 8] ?_
      refine aw_seq ?_
      refine aw_block ?_
      refine zx fun _ => ?_
      refine zk 2 ?_
      obtain ⟨y8, he, h⟩ := bindE h
      refine rx_call (F := 29) (As := [.c (Sx e7.Name)]) (Bs := [.c (Sx e7.Name)]) (r := .c (Bo y8)) (v := .c (Bo y8)) (by kernel_rfl) fok29 (by kernel_rfl) (expr_Name_ok n _ y8 he) (by kernel_rfl) (by kernel_rfl) rfl rfl ?_
      clear he
      refine zk 2 ?_
      refine ze [0, 3, 4, 6, 7, 8, 13] ?_
      refine aw_ite (t := (!y8)) (by kernel_rfl) h (fun h => ?_) (fun h => ?_)
      · refine za [2] ?_
        have h := Option.some.inj h
        subst h
        exact aw_ret (fin_pub (A := .c (I 4)) (.inl rfl) (by kernel_rfl) (by kernel_rfl) (by kernel_rfl))
      · refine zdx [[], [0], [1, 0], [2, 1, 0], [2, 1, 0], [4, 2, 1, 0], [3, 5, 2, 1, 0, 4], [6, 2, 3, 5, 1, 0, 4], [7, 2, 6, 3, 5, 1, 0, 4], [2, 1, 0], [9, 2, 1, 0], [8, 10, 2, 7, 6, 3, 5, 1, 0, 4, 9], [2, 11, 1, 0, 8, 10, 7, 6, 3, 5, 4, 9], [12, 2, 11, 1, 0, 8, 10, 7, 6, 3, 5, 4, 9]] fun _ => ?_
        refine zk 3 ?_
        refine zE (.c (.lit (List.map eGAttr p0))) ?_
        refine zE (.c (I v6)) ?_
        refine zE (.c (I (IntKind.wrap .i64 (v6 - 1)))) ?_
        obtain ⟨e9, he, h⟩ := bindE h
        refine rx_E (e := [(decide (v6 > 0))]) [(22, .c (.lit (List.map eGAttr p0)), some 1), (24, .c (I (IntKind.wrap .i64 (v6 - 1))), some 1)] (v := .c (.imm [Sx e9.Name, I e9.Value.Kind, I e9.Value.N, Sx e9.Value.S, .lit (List.map eGValue e9.Value.L)])) (foot := []) (by kernel_rfl) (by kernel_rfl) (by kernel_rfl) (fun hg => rd_idx (enc := eGAttr) (sz := 5) (l := p0) (ix := (IntKind.wrap .i64 (v6 - 1))) (gd_spec he hg) (by kernel_rfl) (by kernel_rfl) (by kernel_rfl)) rfl rfl ?_
        clear he
        refine zE (.c (.imm [Sx e9.Name, I e9.Value.Kind, I e9.Value.N, Sx e9.Value.S, .lit (List.map eGValue e9.Value.L)])) ?_
        refine zE (.c (Sx e9.Name)) ?_
        refine zE (.c (.ptr 4 0)) ?_
        refine zE (.c (Sx e7.Name)) ?_
        refine zE (.c (Bo (!(sLt e9.Name e7.Name)))) ?_
        refine zP (.bool ((decide (v6 > 0)) && (!(sLt e9.Name e7.Name)))) ?_
        refine zk 1 ?_
        refine zee [0, 4, 6, 7, 8, 18] (L2 := [(0, .c (.lit (List.map eGAttr p0))), (6, .c (.lit (List.map eGAttr p0))), (7, .c (I (List.length p0 : Int))), (8, .c (I v6)), (4, .c (.ptr 4 0)), (18, .c (Bo ((decide (v6 > 0)) && (!(sLt e9.Name e7.Name)))))]) (G2 := [(4, .blk 72 [Sx e7.Name, I e7.Value.Kind, I e7.Value.N, Sx e7.Value.S, .lit (List.map eGValue e7.Value.L)])]) 26 ?_
        refine aw_ite (t := ((decide (v6 > 0)) && (!(sLt e9.Name e7.Name)))) (by kernel_rfl) h (fun h => ?_) (fun h => ?_)
        · refine za [2] ?_
          have h := Option.some.inj h
          subst h
          exact aw_ret (fin_pub (A := .c (I 10)) (.inl rfl) (by kernel_rfl) (by kernel_rfl) (by kernel_rfl))
        · refine aw_skip ?_
          refine zx fun _ => ?_
          refine zk 2 ?_
          obtain ⟨y10, he, h⟩ := bindE h
          refine rx_call (F := 101) (As := [.agg [I e7.Value.Kind, I e7.Value.N, Sx e7.Value.S, .lit (List.map eGValue e7.Value.L)]]) (Bs := [.agg [I e7.Value.Kind, I e7.Value.N, Sx e7.Value.S, .lit (List.map eGValue e7.Value.L)]]) (r := .c (I y10)) (v := .c (I y10)) (by kernel_rfl) fok101 (by kernel_rfl) (expr_Check_ok n _ y10 he) (by kernel_rfl) (by kernel_rfl) rfl rfl ?_
          clear he
          refine zk 1 ?_
          refine ze [0, 5, 6, 7, 8] ?_
          refine za [0, 5, 6, 7, 8, 36] ?_
          refine aw_ite (t := (y10 != 0)) (by kernel_rfl) h (fun h => ?_) (fun h => ?_)
          · refine za [2] ?_
            have h := Option.some.inj h
            subst h
            exact aw_ret (fin_pub (A := .c (I y10)) (.inl rfl) (by kernel_rfl) (by kernel_rfl) (by kernel_rfl))
          · refine aw_skip ?_
            refine aw_out ?_
            refine zb ?_
            exact via (zv [] [0, 6, 7, 8] 0) (⟨_, h, rfl⟩)
    · exact aw_views (zv [] [] 0) (aw_exit (hj1 _ h))
def view_actions_L1 (e15 : GAction) (j14 : Unit → Option Int) (p0 : (List GAction)) (v13 : Int) : Nat → Int → Option Int
  | 0, _ => none
  | n + 1, v21 => (if (decide (v21 < (List.length e15.Args : Int))) = true then (idx e15.Args v21).bind fun (e22 : GValue) => (expr_Check n e22).bind fun (y23 : Int) => (if (y23 != 0) = true then some y23 else view_actions_L1 e15 j14 p0 v13 n (IntKind.wrap .i64 (v21 + 1))) else j14 ())
def view_actions_L0 (p0 : (List GAction)) (j1 : Unit → Option Int) : Nat → Int → Option Int
  | 0, _ => none
  | n + 1, v13 => (if (decide (v13 < (List.length p0 : Int))) = true then (withJ (fun (_ : Unit) => view_actions_L0 p0 j1 n (IntKind.wrap .i64 (v13 + 1))) (fun (j14 : Unit → Option Int) => (idx p0 v13).bind fun (e15 : GAction) => (expr_Name n e15.Event).bind fun (y16 : Bool) => (gd [(!(!y16))] (expr_Name n e15.Handler)).bind fun (y17 : Bool) => (if ((!y16) || (!y17)) = true then some 4 else (gd [(decide (v13 > 0))] (idx p0 (IntKind.wrap .i64 (v13 - 1)))).bind fun (e18 : GAction) => (if ((decide (v13 > 0)) && (!(sLt e18.Event e15.Event))) = true then some 10 else (if ((decide ((ByteArray.size e15.Instance : Int) > 400)) || (decide ((List.length e15.Args : Int) > 100))) = true then some 2 else view_actions_L1 e15 j14 p0 v13 n 0))))) else j1 ())
def view_actions  (n : Nat) (p0 : (List GAction)) : Option Int := (withJ (fun (_ : Unit) => some 0) (fun (j1 : Unit → Option Int) => view_actions_L0 p0 j1 n 0))
theorem view_actions_ok  (n : Nat) (p0 : (List GAction)) (r : Int) (h : view_actions n p0 = some r) : FnD E 94 0 [.c (.lit (List.map eGAction p0))] [] (.c (I r)) [] := by
  refine zfn Tryd.func94 rfl ?_
  unfold view_actions at h
  refine za [0] ?_
  refine aw_join h (fun A j => ∀ (u : Unit), j u = some r → A (mk [] [] 0)) (fun u h => ?_) (fun j1 Aj1 hj1 h => ?_)
  · refine za [2] ?_
    have h := Option.some.inj h
    subst h
    exact aw_ret (fin_pub (A := .c (I 0)) (.inl rfl) (by kernel_rfl) (by kernel_rfl) (by kernel_rfl))
  · refine zx fun _ => ?_
    refine zk 1 ?_
    refine rx_rd (v := .c (I (List.length p0 : Int))) (foot := []) (rd_len (enc := eGAction) (l := p0) (by kernel_rfl)) (by kernel_rfl) rfl rfl ?_
    refine zk 1 ?_
    refine ze [0, 8, 9, 10] ?_
    refine aw_block ?_
    refine aw_loopJ (fun n s => ∃ (v13 : Int), view_actions_L0 p0 j1 n v13 = some r ∧ s = mk [(0, .c (.lit (List.map eGAction p0))), (8, .c (.lit (List.map eGAction p0))), (9, .c (I (List.length p0 : Int))), (10, .c (I v13))] [] 0) n _ (zv [] [0, 8, 9, 10] 0) ⟨_, h, rfl⟩ (fun s ⟨v13, h, _⟩ => nomatch h) ?_
    rintro n s ⟨v13, h, rfl⟩
    rw [view_actions_L0] at h
    refine za [0, 8, 9, 10, 11] ?_
    refine aw_seq ?_
    refine aw_ite (t := (decide (v13 < (List.length p0 : Int)))) (by kernel_rfl) h (fun h => ?_) (fun h => ?_)
    · refine aw_skip ?_
      refine aw_join h (fun A j => ∀ (u : Unit), j u = some r → A (mk [(0, .c (.lit (List.map eGAction p0))), (8, .c (.lit (List.map eGAction p0))), (9, .c (I (List.length p0 : Int))), (10, .c (I v13))] [] 0)) (fun u h => ?_) (fun j14 Aj14 hj14 h => ?_)
      · refine aw_out ?_
        refine zb ?_
        exact via (zv [] [0, 8, 9, 10] 0) (⟨_, h, rfl⟩)
      · refine aw_block ?_
        refine zx fun _ => ?_
        refine zk 1 ?_
        obtain ⟨e15, he, h⟩ := bindE h
        refine rx_rd (v := .c (.imm [Sx e15.Event, Sx e15.Instance, Sx e15.Handler, .lit (List.map eGValue e15.Args)])) (foot := []) (rd_idx (enc := eGAction) (sz := 4) (l := p0) (ix := v13) he (by kernel_rfl) (by kernel_rfl) (by kernel_rfl)) (by kernel_rfl) rfl rfl ?_
        clear he
        refine zk 4 ?_
        refine ze [0, 3, 4, 8, 9, 10] ?_
        refine aw_seq ?_
        refine aw_block ?_
        refine zx fun _ => ?_
        refine zk 2 ?_
        obtain ⟨y16, he, h⟩ := bindE h
        refine rx_call (F := 29) (As := [.c (Sx e15.Event)]) (Bs := [.c (Sx e15.Event)]) (r := .c (Bo y16)) (v := .c (Bo y16)) (by kernel_rfl) fok29 (by kernel_rfl) (expr_Name_ok n _ y16 he) (by kernel_rfl) (by kernel_rfl) rfl rfl ?_
        clear he
        refine zk 2 ?_
        refine zE (.c (.ptr 4 2)) ?_
        refine zE (.c (Sx e15.Handler)) ?_
        obtain ⟨y17, he, h⟩ := bindE h
        refine rx_Ecall (e := [(!(!y16))]) [(22, .c (Sx e15.Handler), some 1)] (F := 29) (As := [.c (Sx e15.Handler)]) (Bs := [.c (Sx e15.Handler)]) (r := .c (Bo y17)) (v := .c (Bo y17)) (by kernel_rfl) (by kernel_rfl) (by kernel_rfl) (by kernel_rfl) fok29 (by kernel_rfl) (fun hg => expr_Name_ok n _ y17 (gd_spec he hg)) (by kernel_rfl) rfl rfl ?_
        clear he
        refine zE (.c (Bo (!y17))) ?_
        refine zP (.bool ((!y16) || (!y17))) ?_
        refine zk 1 ?_
        refine zee [0, 3, 4, 8, 9, 10, 15] (L2 := [(0, .c (.lit (List.map eGAction p0))), (8, .c (.lit (List.map eGAction p0))), (9, .c (I (List.length p0 : Int))), (10, .c (I v13)), (4, .c (.ptr 4 0)), (3, .c (I v13)), (15, .c (Bo ((!y16) || (!y17))))]) (G2 := [(4, .blk 138 [Sx e15.Event, Sx e15.Instance, Sx e15.Handler, .lit (List.map eGValue e15.Args)])]) 18 ?_
        refine aw_ite (t := ((!y16) || (!y17))) (by kernel_rfl) h (fun h => ?_) (fun h => ?_)
        · refine za [2] ?_
          have h := Option.some.inj h
          subst h
          exact aw_ret (fin_pub (A := .c (I 4)) (.inl rfl) (by kernel_rfl) (by kernel_rfl) (by kernel_rfl))
        · refine zdx [[], [0], [1, 0], [2, 1, 0], [2, 1, 0], [4, 2, 1, 0], [3, 5, 2, 1, 0, 4], [6, 2, 3, 5, 1, 0, 4], [7, 2, 6, 3, 5, 1, 0, 4], [2, 1, 0], [9, 2, 1, 0], [8, 10, 2, 7, 6, 3, 5, 1, 0, 4, 9], [2, 11, 1, 0, 8, 10, 7, 6, 3, 5, 4, 9], [12, 2, 11, 1, 0, 8, 10, 7, 6, 3, 5, 4, 9]] fun _ => ?_
          refine zk 3 ?_
          refine zE (.c (.lit (List.map eGAction p0))) ?_
          refine zE (.c (I v13)) ?_
          refine zE (.c (I (IntKind.wrap .i64 (v13 - 1)))) ?_
          obtain ⟨e18, he, h⟩ := bindE h
          refine rx_E (e := [(decide (v13 > 0))]) [(30, .c (.lit (List.map eGAction p0)), some 1), (32, .c (I (IntKind.wrap .i64 (v13 - 1))), some 1)] (v := .c (.imm [Sx e18.Event, Sx e18.Instance, Sx e18.Handler, .lit (List.map eGValue e18.Args)])) (foot := []) (by kernel_rfl) (by kernel_rfl) (by kernel_rfl) (fun hg => rd_idx (enc := eGAction) (sz := 4) (l := p0) (ix := (IntKind.wrap .i64 (v13 - 1))) (gd_spec he hg) (by kernel_rfl) (by kernel_rfl) (by kernel_rfl)) rfl rfl ?_
          clear he
          refine zE (.c (.imm [Sx e18.Event, Sx e18.Instance, Sx e18.Handler, .lit (List.map eGValue e18.Args)])) ?_
          refine zE (.c (Sx e18.Event)) ?_
          refine zE (.c (.ptr 4 0)) ?_
          refine zE (.c (Sx e15.Event)) ?_
          refine zE (.c (Bo (!(sLt e18.Event e15.Event)))) ?_
          refine zP (.bool ((decide (v13 > 0)) && (!(sLt e18.Event e15.Event)))) ?_
          refine zk 1 ?_
          refine zee [0, 4, 8, 9, 10, 26] (L2 := [(0, .c (.lit (List.map eGAction p0))), (8, .c (.lit (List.map eGAction p0))), (9, .c (I (List.length p0 : Int))), (10, .c (I v13)), (4, .c (.ptr 4 0)), (26, .c (Bo ((decide (v13 > 0)) && (!(sLt e18.Event e15.Event)))))]) (G2 := [(4, .blk 138 [Sx e15.Event, Sx e15.Instance, Sx e15.Handler, .lit (List.map eGValue e15.Args)])]) 32 ?_
          refine aw_ite (t := ((decide (v13 > 0)) && (!(sLt e18.Event e15.Event)))) (by kernel_rfl) h (fun h => ?_) (fun h => ?_)
          · refine za [2] ?_
            have h := Option.some.inj h
            subst h
            exact aw_ret (fin_pub (A := .c (I 10)) (.inl rfl) (by kernel_rfl) (by kernel_rfl) (by kernel_rfl))
          · refine zx fun _ => ?_
            refine zk 5 ?_
            refine zE (.c (.ptr 4 3)) ?_
            refine zE (.c (.lit (List.map eGValue e15.Args))) ?_
            refine rx_E (e := [(!(decide ((ByteArray.size e15.Instance : Int) > 400)))]) [(47, .c (.lit (List.map eGValue e15.Args)), some 1)] (v := .c (I (List.length e15.Args : Int))) (foot := []) (by kernel_rfl) (by kernel_rfl) (by kernel_rfl) (fun hg => rd_len (enc := eGValue) (l := e15.Args) (by kernel_rfl)) rfl rfl ?_
            refine zE (.c (Bo (decide ((List.length e15.Args : Int) > 100)))) ?_
            refine zP (.bool ((decide ((ByteArray.size e15.Instance : Int) > 400)) || (decide ((List.length e15.Args : Int) > 100)))) ?_
            refine zk 1 ?_
            refine ze [0, 4, 8, 9, 10, 40] ?_
            refine aw_ite (t := ((decide ((ByteArray.size e15.Instance : Int) > 400)) || (decide ((List.length e15.Args : Int) > 100)))) (by kernel_rfl) h (fun h => ?_) (fun h => ?_)
            · refine za [2] ?_
              have h := Option.some.inj h
              subst h
              exact aw_ret (fin_pub (A := .c (I 2)) (.inl rfl) (by kernel_rfl) (by kernel_rfl) (by kernel_rfl))
            · refine aw_skip ?_
              refine zx fun _ => ?_
              refine zk 2 ?_
              refine rx_rd (v := .c (I (List.length e15.Args : Int))) (foot := []) (rd_len (enc := eGValue) (l := e15.Args) (by kernel_rfl)) (by kernel_rfl) rfl rfl ?_
              refine zk 1 ?_
              refine zee [0, 8, 9, 10, 52, 53, 54] (L2 := [(0, .c (.lit (List.map eGAction p0))), (8, .c (.lit (List.map eGAction p0))), (9, .c (I (List.length p0 : Int))), (10, .c (I v13)), (52, .c (.lit (List.map eGValue e15.Args))), (53, .c (I (List.length e15.Args : Int))), (54, .c (I 0))]) (G2 := [(4, .blk 138 [Sx e15.Event, Sx e15.Instance, Sx e15.Handler, .lit (List.map eGValue e15.Args)])]) 47 ?_
              refine aw_block ?_
              refine aw_loopJ (fun n s => ∃ (v21 : Int), view_actions_L1 e15 j14 p0 v13 n v21 = some r ∧ s = mk [(0, .c (.lit (List.map eGAction p0))), (8, .c (.lit (List.map eGAction p0))), (9, .c (I (List.length p0 : Int))), (10, .c (I v13)), (52, .c (.lit (List.map eGValue e15.Args))), (53, .c (I (List.length e15.Args : Int))), (54, .c (I v21))] [] 0) n _ (zv [] [0, 8, 9, 10, 52, 53, 54] 0) ⟨_, h, rfl⟩ (fun s ⟨v21, h, _⟩ => nomatch h) ?_
              rintro n s ⟨v21, h, rfl⟩
              rw [view_actions_L1] at h
              refine za [0, 8, 9, 10, 52, 53, 54, 55] ?_
              refine aw_seq ?_
              refine aw_ite (t := (decide (v21 < (List.length e15.Args : Int)))) (by kernel_rfl) h (fun h => ?_) (fun h => ?_)
              · refine aw_skip ?_
                refine aw_seq ?_
                refine aw_block ?_
                refine zx fun _ => ?_
                obtain ⟨e22, he, h⟩ := bindE h
                refine rx_rd (v := .c (.imm [I e22.Kind, I e22.N, Sx e22.S, .lit (List.map eGValue e22.L)])) (foot := []) (rd_idx (enc := eGValue) (sz := 4) (l := e15.Args) (ix := v21) he (by kernel_rfl) (eGValue_eq e22) (by kernel_rfl)) (by kernel_rfl) rfl rfl ?_
                clear he
                refine zk 3 ?_
                refine ze [0, 6, 8, 9, 10, 52, 53, 54] ?_
                refine zx fun _ => ?_
                refine zk 1 ?_
                obtain ⟨y23, he, h⟩ := bindE h
                refine rx_call (F := 101) (As := [.agg [I e22.Kind, I e22.N, Sx e22.S, .lit (List.map eGValue e22.L)]]) (Bs := [.agg [I e22.Kind, I e22.N, Sx e22.S, .lit (List.map eGValue e22.L)]]) (r := .c (I y23)) (v := .c (I y23)) (by kernel_rfl) fok101 (by kernel_rfl) (expr_Check_ok n _ y23 he) (by kernel_rfl) (by kernel_rfl) rfl rfl ?_
                clear he
                refine zk 1 ?_
                refine ze [0, 7, 8, 9, 10, 52, 53, 54] ?_
                refine za [0, 7, 8, 9, 10, 52, 53, 54, 61] ?_
                refine aw_ite (t := (y23 != 0)) (by kernel_rfl) h (fun h => ?_) (fun h => ?_)
                · refine za [2] ?_
                  have h := Option.some.inj h
                  subst h
                  exact aw_ret (fin_pub (A := .c (I y23)) (.inl rfl) (by kernel_rfl) (by kernel_rfl) (by kernel_rfl))
                · refine aw_skip ?_
                  refine aw_out ?_
                  refine zb ?_
                  exact via (zv [] [0, 8, 9, 10, 52, 53, 54] 0) (⟨_, h, rfl⟩)
              · exact aw_views (zv [] [0, 8, 9, 10] 0) (aw_exit (hj14 _ h))
    · exact aw_views (zv [] [] 0) (aw_exit (hj1 _ h))
end Go.Proofs.YtojkihhnioeggaaDoor.S
