/- Functions, and that the program's are they. Printed by ext.py. -/
import Derived.Test.YtojkihhnioeggaaDoorGQ0
set_option linter.unusedVariables false
set_option linter.unusedSimpArgs false
set_option maxRecDepth 100000
set_option maxHeartbeats 4000000
namespace Go.Proofs.YtojkihhnioeggaaDoor.S
open Go Go.Bm
def ref11_check_L0 (p0 : GValue) (self_ref11_check : GValue → Int → Int → Option (GType × Int × Int)) (p1 : Int) (j2 : Int → Bool → List GType → Option (GType × Int × Int)) : Nat → Int → Bool → Int → List GType → Option (GType × Int × Int)
  | 0, _, _, _, _ => none
  | n + 1, v16, v17, v18, v19 => (if (decide (v18 < (List.length p0.L : Int))) = true then (withJ (fun (v25 : Bool) (v26 : Int) (v27 : List GType) => ref11_check_L0 p0 self_ref11_check p1 j2 n v26 v25 (IntKind.wrap .i64 (v18 + 1)) v27) (fun (j20 : Bool → Int → List GType → Option (GType × Int × Int)) => (idx p0.L v18).bind fun (e21 : GValue) => (self_ref11_check e21 (IntKind.wrap .i64 (p1 + 1)) v16).bind fun (y22 : (GType × Int × Int)) => (if (y22.2.2 != 0) = true then some ((GType.mk 0 ([] : List GType)), y22.2.1, y22.2.2) else (if (!v17) = true then j20 v17 y22.2.1 v19 else (if ((List.length v19 : Int) == 0) = true then j20 v17 y22.2.1 [y22.1] else (idx v19 0).bind fun (e23 : GType) => (ref11_join n e23 y22.1).bind fun (y24 : (GType × Bool)) => j20 y24.2 y22.2.1 [y24.1]))))) else j2 v16 v17 v19)
def ref11_check_body (self_ref11_check : GValue → Int → Int → Option (GType × Int × Int)) (n : Nat) (p0 : GValue) (p1 : Int) (p2 : Int) : Option (GType × Int × Int) := (if ((p0.Kind == 4) && (decide (p1 > 16))) = true then some ((GType.mk 0 ([] : List GType)), (IntKind.wrap .i64 (p2 + 1)), 8) else (if (((((decide (p0.Kind < 1)) || (decide (p0.Kind > 4))) || (((p0.N != 0) && (p0.Kind != 1)) && (p0.Kind != 2))) || ((!(sEq p0.S (⟨#[]⟩ : ByteArray))) && (p0.Kind != 3))) || ((decide ((List.length p0.L : Int) > 0)) && (!(p0.Kind == 4)))) = true then some ((GType.mk 0 ([] : List GType)), (IntKind.wrap .i64 (p2 + 1)), 9) else (if (((p0.Kind == 1) && ((decide (p0.N < (-1099511627776 : Int))) || (decide (p0.N > 1099511627776)))) || (((p0.Kind == 2) && (p0.N != 0)) && (p0.N != 1))) = true then some ((GType.mk 0 ([] : List GType)), (IntKind.wrap .i64 (p2 + 1)), 1) else (if (((decide ((ByteArray.size p0.S : Int) > 2000)) || (decide ((List.length p0.L : Int) > 100))) || (decide ((IntKind.wrap .i64 (p2 + 1)) > 1000))) = true then some ((GType.mk 0 ([] : List GType)), (IntKind.wrap .i64 (p2 + 1)), 2) else (ref11_UTF8 n p0.S).bind fun (y1 : Bool) => (if (!y1) = true then some ((GType.mk 0 ([] : List GType)), (IntKind.wrap .i64 (p2 + 1)), 3) else (withJ (fun (v35 : Int) (v36 : Bool) (v37 : List GType) => (if (!v36) = true then some ((GType.mk 0 ([] : List GType)), v35, 5) else some ((GType.mk p0.Kind v37), v35, 0))) (fun (j2 : Int → Bool → List GType → Option (GType × Int × Int)) => ref11_check_L0 p0 self_ref11_check p1 j2 n (IntKind.wrap .i64 (p2 + 1)) true 0 ([] : List GType))))))))
theorem ref11_check_body_ok (self_ref11_check : GValue → Int → Int → Option (GType × Int × Int)) (ih_ref11_check : ∀ (p0 : GValue) (p1 : Int) (p2 : Int) (r : (GType × Int × Int)), self_ref11_check p0 p1 p2 = some r → FnD E 97 0 [.agg [I p0.Kind, I p0.N, Sx p0.S, .lit (List.map eGValue p0.L)], .c (I p1), .c (I p2)] [] (.tup [.agg [I r.1.Kind, .lit (List.map eGType r.1.Of)], .c (I r.2.1), .c (I r.2.2)]) []) (n : Nat) (p0 : GValue) (p1 : Int) (p2 : Int) (r : (GType × Int × Int)) (h : ref11_check_body self_ref11_check n p0 p1 p2 = some r) : FnD E 97 0 [.agg [I p0.Kind, I p0.N, Sx p0.S, .lit (List.map eGValue p0.L)], .c (I p1), .c (I p2)] [] (.tup [.agg [I r.1.Kind, .lit (List.map eGType r.1.Of)], .c (I r.2.1), .c (I r.2.2)]) [] := by
  refine zfn Tryd.func97 rfl ?_
  unfold ref11_check_body at h
  refine za [1, 2, 3, 6] ?_
  refine za [1, 2, 3, 6] ?_
  refine za [1, 2, 3, 6, 9] ?_
  refine aw_seq ?_
  refine zx fun _ => ?_
  refine zk 2 ?_
  refine zE (.c (I p1)) ?_
  refine zE (.c (Bo (decide (p1 > 16)))) ?_
  refine zP (.bool ((p0.Kind == 4) && (decide (p1 > 16)))) ?_
  refine ze [1, 2, 3, 6, 9, 27] ?_
  refine aw_ite (t := ((p0.Kind == 4) && (decide (p1 > 16)))) (by kernel_rfl) h (fun h => ?_) (fun h => ?_)
  · refine za [6, 7, 8] ?_
    have h := Option.some.inj h
    subst h
    exact aw_ret (fin_pub (A := .tup [.agg [I 0, NilS], .c (I (IntKind.wrap .i64 (p2 + 1))), .c (I 8)]) (.inl rfl) (by kernel_rfl) (by kernel_rfl) (by kernel_rfl))
  · refine aw_skip ?_
    refine aw_seq ?_
    refine zx fun _ => ?_
    refine zk 4 ?_
    refine zE (.c (.ptr 0 0)) ?_
    refine zE (.c (I p0.Kind)) ?_
    refine zE (.c (Bo (decide (p0.Kind > 4)))) ?_
    refine zP (.bool ((decide (p0.Kind < 1)) || (decide (p0.Kind > 4)))) ?_
    refine zk 1 ?_
    refine zE (.c (.ptr 0 1)) ?_
    refine zE (.c (I p0.N)) ?_
    refine zE (.c (Bo (p0.N != 0))) ?_
    refine zF [(!((decide (p0.Kind < 1)) || (decide (p0.Kind > 4))))] (.c (Bo (p0.N != 0))) ?_
    refine zE (.c (.ptr 0 0)) ?_
    refine zE (.c (I p0.Kind)) ?_
    refine zE (.c (Bo (p0.Kind != 1))) ?_
    refine zP (.bool ((p0.N != 0) && (p0.Kind != 1))) ?_
    refine zF [(!((decide (p0.Kind < 1)) || (decide (p0.Kind > 4))))] (.c (Bo ((p0.N != 0) && (p0.Kind != 1)))) ?_
    refine zE (.c (.ptr 0 0)) ?_
    refine zE (.c (I p0.Kind)) ?_
    refine zE (.c (Bo (p0.Kind != 2))) ?_
    refine zP (.bool (((p0.N != 0) && (p0.Kind != 1)) && (p0.Kind != 2))) ?_
    refine zP (.bool (((decide (p0.Kind < 1)) || (decide (p0.Kind > 4))) || (((p0.N != 0) && (p0.Kind != 1)) && (p0.Kind != 2)))) ?_
    refine zke 1 (L' := [(1, .c (I p1)), (2, .c (I (IntKind.wrap .i64 (p2 + 1)))), (3, .c (.ptr 0 0)), (6, .c (.ptr 1 0)), (9, .c (Bo (p0.Kind == 4))), (27, .c (Bo ((p0.Kind == 4) && (decide (p1 > 16))))), (30, .c (.ptr 0 0)), (31, .c (I p0.Kind)), (32, .c (Bo (decide (p0.Kind < 1)))), (33, .c (Bo (decide (p0.Kind < 1)))), (34, .cnd [(!(decide (p0.Kind < 1)))] (.c (.ptr 0 0))), (35, .cnd [(!(decide (p0.Kind < 1)))] (.c (I p0.Kind))), (36, .cnd [(!(decide (p0.Kind < 1)))] (.c (Bo (decide (p0.Kind > 4))))), (37, .c (Bo ((decide (p0.Kind < 1)) || (decide (p0.Kind > 4))))), (38, .c (Bo ((decide (p0.Kind < 1)) || (decide (p0.Kind > 4))))), (39, .cnd [(!((decide (p0.Kind < 1)) || (decide (p0.Kind > 4))))] (.c (.ptr 0 1))), (40, .cnd [(!((decide (p0.Kind < 1)) || (decide (p0.Kind > 4))))] (.c (I p0.N))), (41, .cnd [(!((decide (p0.Kind < 1)) || (decide (p0.Kind > 4))))] (.c (Bo (p0.N != 0)))), (42, .cnd [(!((decide (p0.Kind < 1)) || (decide (p0.Kind > 4))))] (.c (Bo (p0.N != 0)))), (43, .cnd [(!((decide (p0.Kind < 1)) || (decide (p0.Kind > 4)))), (p0.N != 0)] (.c (.ptr 0 0))), (44, .cnd [(!((decide (p0.Kind < 1)) || (decide (p0.Kind > 4)))), (p0.N != 0)] (.c (I p0.Kind))), (45, .cnd [(!((decide (p0.Kind < 1)) || (decide (p0.Kind > 4)))), (p0.N != 0)] (.c (Bo (p0.Kind != 1)))), (46, .cnd [(!((decide (p0.Kind < 1)) || (decide (p0.Kind > 4))))] (.c (Bo ((p0.N != 0) && (p0.Kind != 1))))), (47, .cnd [(!((decide (p0.Kind < 1)) || (decide (p0.Kind > 4))))] (.c (Bo ((p0.N != 0) && (p0.Kind != 1))))), (48, .cnd [(!((decide (p0.Kind < 1)) || (decide (p0.Kind > 4)))), ((p0.N != 0) && (p0.Kind != 1))] (.c (.ptr 0 0))), (49, .cnd [(!((decide (p0.Kind < 1)) || (decide (p0.Kind > 4)))), ((p0.N != 0) && (p0.Kind != 1))] (.c (I p0.Kind))), (50, .cnd [(!((decide (p0.Kind < 1)) || (decide (p0.Kind > 4)))), ((p0.N != 0) && (p0.Kind != 1))] (.c (Bo (p0.Kind != 2)))), (51, .cnd [(!((decide (p0.Kind < 1)) || (decide (p0.Kind > 4))))] (.c (Bo (((p0.N != 0) && (p0.Kind != 1)) && (p0.Kind != 2))))), (52, .c (Bo (((decide (p0.Kind < 1)) || (decide (p0.Kind > 4))) || (((p0.N != 0) && (p0.Kind != 1)) && (p0.Kind != 2))))), (53, .c (Bo (((decide (p0.Kind < 1)) || (decide (p0.Kind > 4))) || (((p0.N != 0) && (p0.Kind != 1)) && (p0.Kind != 2)))))]) (G' := [(0, .blk 70 [I p0.Kind, I p0.N, Sx p0.S, .lit (List.map eGValue p0.L)]), (1, .blk 163 [I 0, NilS])]) (X' := []) ?_
    refine zE (.c (.ptr 0 2)) ?_
    refine zE (.c (Sx p0.S)) ?_
    refine zE (.c (Bo (!(sEq p0.S (⟨#[]⟩ : ByteArray))))) ?_
    refine zF [(!(((decide (p0.Kind < 1)) || (decide (p0.Kind > 4))) || (((p0.N != 0) && (p0.Kind != 1)) && (p0.Kind != 2))))] (.c (Bo (!(sEq p0.S (⟨#[]⟩ : ByteArray))))) ?_
    refine zE (.c (.ptr 0 0)) ?_
    refine zE (.c (I p0.Kind)) ?_
    refine zE (.c (Bo (p0.Kind != 3))) ?_
    refine zP (.bool ((!(sEq p0.S (⟨#[]⟩ : ByteArray))) && (p0.Kind != 3))) ?_
    refine zP (.bool ((((decide (p0.Kind < 1)) || (decide (p0.Kind > 4))) || (((p0.N != 0) && (p0.Kind != 1)) && (p0.Kind != 2))) || ((!(sEq p0.S (⟨#[]⟩ : ByteArray))) && (p0.Kind != 3)))) ?_
    refine zk 1 ?_
    refine zE (.c (.ptr 0 3)) ?_
    refine zE (.c (.lit (List.map eGValue p0.L))) ?_
    refine rx_E (e := [(!((((decide (p0.Kind < 1)) || (decide (p0.Kind > 4))) || (((p0.N != 0) && (p0.Kind != 1)) && (p0.Kind != 2))) || ((!(sEq p0.S (⟨#[]⟩ : ByteArray))) && (p0.Kind != 3))))]) [(65, .c (.lit (List.map eGValue p0.L)), some 1)] (v := .c (I (List.length p0.L : Int))) (foot := []) (by kernel_rfl) (by kernel_rfl) (by kernel_rfl) (fun hg => rd_len (enc := eGValue) (l := p0.L) (by kernel_rfl)) rfl rfl ?_
    refine zE (.c (Bo (decide ((List.length p0.L : Int) > 0)))) ?_
    refine zF [(!((((decide (p0.Kind < 1)) || (decide (p0.Kind > 4))) || (((p0.N != 0) && (p0.Kind != 1)) && (p0.Kind != 2))) || ((!(sEq p0.S (⟨#[]⟩ : ByteArray))) && (p0.Kind != 3))))] (.c (Bo (decide ((List.length p0.L : Int) > 0)))) ?_
    refine zE (.c (Bo (p0.Kind == 4))) ?_
    refine zE (.c (Bo (!(p0.Kind == 4)))) ?_
    refine zP (.bool ((decide ((List.length p0.L : Int) > 0)) && (!(p0.Kind == 4)))) ?_
    refine zP (.bool (((((decide (p0.Kind < 1)) || (decide (p0.Kind > 4))) || (((p0.N != 0) && (p0.Kind != 1)) && (p0.Kind != 2))) || ((!(sEq p0.S (⟨#[]⟩ : ByteArray))) && (p0.Kind != 3))) || ((decide ((List.length p0.L : Int) > 0)) && (!(p0.Kind == 4))))) ?_
    refine zee [1, 2, 3, 6, 72] (L2 := [(1, .c (I p1)), (2, .c (I (IntKind.wrap .i64 (p2 + 1)))), (3, .c (.ptr 0 0)), (6, .c (.ptr 1 0)), (72, .c (Bo (((((decide (p0.Kind < 1)) || (decide (p0.Kind > 4))) || (((p0.N != 0) && (p0.Kind != 1)) && (p0.Kind != 2))) || ((!(sEq p0.S (⟨#[]⟩ : ByteArray))) && (p0.Kind != 3))) || ((decide ((List.length p0.L : Int) > 0)) && (!(p0.Kind == 4))))))]) (G2 := [(0, .blk 70 [I p0.Kind, I p0.N, Sx p0.S, .lit (List.map eGValue p0.L)]), (1, .blk 163 [I 0, NilS])]) 59 ?_
    refine aw_ite (t := (((((decide (p0.Kind < 1)) || (decide (p0.Kind > 4))) || (((p0.N != 0) && (p0.Kind != 1)) && (p0.Kind != 2))) || ((!(sEq p0.S (⟨#[]⟩ : ByteArray))) && (p0.Kind != 3))) || ((decide ((List.length p0.L : Int) > 0)) && (!(p0.Kind == 4))))) (by kernel_rfl) h (fun h => ?_) (fun h => ?_)
    · refine za [6, 7, 8] ?_
      have h := Option.some.inj h
      subst h
      exact aw_ret (fin_pub (A := .tup [.agg [I 0, NilS], .c (I (IntKind.wrap .i64 (p2 + 1))), .c (I 9)]) (.inl rfl) (by kernel_rfl) (by kernel_rfl) (by kernel_rfl))
    · refine aw_skip ?_
      refine aw_seq ?_
      refine zx fun _ => ?_
      refine zk 4 ?_
      refine zE (.c (.ptr 0 1)) ?_
      refine zE (.c (I p0.N)) ?_
      refine zE (.c (Bo (decide (p0.N < (-1099511627776 : Int))))) ?_
      refine zF [(p0.Kind == 1)] (.c (Bo (decide (p0.N < (-1099511627776 : Int))))) ?_
      refine zE (.c (.ptr 0 1)) ?_
      refine zE (.c (I p0.N)) ?_
      refine zE (.c (Bo (decide (p0.N > 1099511627776)))) ?_
      refine zP (.bool ((decide (p0.N < (-1099511627776 : Int))) || (decide (p0.N > 1099511627776)))) ?_
      refine zP (.bool ((p0.Kind == 1) && ((decide (p0.N < (-1099511627776 : Int))) || (decide (p0.N > 1099511627776))))) ?_
      refine zk 1 ?_
      refine zE (.c (.ptr 0 0)) ?_
      refine zE (.c (I p0.Kind)) ?_
      refine zE (.c (Bo (p0.Kind == 2))) ?_
      refine zF [(!((p0.Kind == 1) && ((decide (p0.N < (-1099511627776 : Int))) || (decide (p0.N > 1099511627776)))))] (.c (Bo (p0.Kind == 2))) ?_
      refine zE (.c (.ptr 0 1)) ?_
      refine zE (.c (I p0.N)) ?_
      refine zE (.c (Bo (p0.N != 0))) ?_
      refine zP (.bool ((p0.Kind == 2) && (p0.N != 0))) ?_
      refine zF [(!((p0.Kind == 1) && ((decide (p0.N < (-1099511627776 : Int))) || (decide (p0.N > 1099511627776)))))] (.c (Bo ((p0.Kind == 2) && (p0.N != 0)))) ?_
      refine zE (.c (.ptr 0 1)) ?_
      refine zE (.c (I p0.N)) ?_
      refine zE (.c (Bo (p0.N != 1))) ?_
      refine zP (.bool (((p0.Kind == 2) && (p0.N != 0)) && (p0.N != 1))) ?_
      refine zP (.bool (((p0.Kind == 1) && ((decide (p0.N < (-1099511627776 : Int))) || (decide (p0.N > 1099511627776)))) || (((p0.Kind == 2) && (p0.N != 0)) && (p0.N != 1)))) ?_
      refine zee [1, 2, 3, 6, 102] (L2 := [(1, .c (I p1)), (2, .c (I (IntKind.wrap .i64 (p2 + 1)))), (3, .c (.ptr 0 0)), (6, .c (.ptr 1 0)), (102, .c (Bo (((p0.Kind == 1) && ((decide (p0.N < (-1099511627776 : Int))) || (decide (p0.N > 1099511627776)))) || (((p0.Kind == 2) && (p0.N != 0)) && (p0.N != 1)))))]) (G2 := [(0, .blk 70 [I p0.Kind, I p0.N, Sx p0.S, .lit (List.map eGValue p0.L)]), (1, .blk 163 [I 0, NilS])]) 87 ?_
      refine aw_ite (t := (((p0.Kind == 1) && ((decide (p0.N < (-1099511627776 : Int))) || (decide (p0.N > 1099511627776)))) || (((p0.Kind == 2) && (p0.N != 0)) && (p0.N != 1)))) (by kernel_rfl) h (fun h => ?_) (fun h => ?_)
      · refine za [6, 7, 8] ?_
        have h := Option.some.inj h
        subst h
        exact aw_ret (fin_pub (A := .tup [.agg [I 0, NilS], .c (I (IntKind.wrap .i64 (p2 + 1))), .c (I 1)]) (.inl rfl) (by kernel_rfl) (by kernel_rfl) (by kernel_rfl))
      · refine aw_skip ?_
        refine aw_seq ?_
        refine zx fun _ => ?_
        refine zk 5 ?_
        refine zE (.c (.ptr 0 3)) ?_
        refine zE (.c (.lit (List.map eGValue p0.L))) ?_
        refine rx_E (e := [(!(decide ((ByteArray.size p0.S : Int) > 2000)))]) [(111, .c (.lit (List.map eGValue p0.L)), some 1)] (v := .c (I (List.length p0.L : Int))) (foot := []) (by kernel_rfl) (by kernel_rfl) (by kernel_rfl) (fun hg => rd_len (enc := eGValue) (l := p0.L) (by kernel_rfl)) rfl rfl ?_
        refine zE (.c (Bo (decide ((List.length p0.L : Int) > 100)))) ?_
        refine zP (.bool ((decide ((ByteArray.size p0.S : Int) > 2000)) || (decide ((List.length p0.L : Int) > 100)))) ?_
        refine zk 1 ?_
        refine zE (.c (I (IntKind.wrap .i64 (p2 + 1)))) ?_
        refine zE (.c (Bo (decide ((IntKind.wrap .i64 (p2 + 1)) > 1000)))) ?_
        refine zP (.bool (((decide ((ByteArray.size p0.S : Int) > 2000)) || (decide ((List.length p0.L : Int) > 100))) || (decide ((IntKind.wrap .i64 (p2 + 1)) > 1000)))) ?_
        refine zee [1, 2, 3, 6, 118] (L2 := [(1, .c (I p1)), (2, .c (I (IntKind.wrap .i64 (p2 + 1)))), (3, .c (.ptr 0 0)), (6, .c (.ptr 1 0)), (118, .c (Bo (((decide ((ByteArray.size p0.S : Int) > 2000)) || (decide ((List.length p0.L : Int) > 100))) || (decide ((IntKind.wrap .i64 (p2 + 1)) > 1000)))))]) (G2 := [(0, .blk 70 [I p0.Kind, I p0.N, Sx p0.S, .lit (List.map eGValue p0.L)]), (1, .blk 163 [I 0, NilS])]) 101 ?_
        refine aw_ite (t := (((decide ((ByteArray.size p0.S : Int) > 2000)) || (decide ((List.length p0.L : Int) > 100))) || (decide ((IntKind.wrap .i64 (p2 + 1)) > 1000)))) (by kernel_rfl) h (fun h => ?_) (fun h => ?_)
        · refine za [6, 7, 8] ?_
          have h := Option.some.inj h
          subst h
          exact aw_ret (fin_pub (A := .tup [.agg [I 0, NilS], .c (I (IntKind.wrap .i64 (p2 + 1))), .c (I 2)]) (.inl rfl) (by kernel_rfl) (by kernel_rfl) (by kernel_rfl))
        · refine aw_skip ?_
          refine aw_seq ?_
          refine zx fun _ => ?_
          refine zk 2 ?_
          obtain ⟨y1, he, h⟩ := bindE h
          refine rx_call (F := 102) (As := [.c (Sx p0.S)]) (Bs := [.c (Sx p0.S)]) (r := .c (Bo y1)) (v := .c (Bo y1)) (by kernel_rfl) fok102 (by kernel_rfl) (ref11_UTF8_ok n _ y1 he) (by kernel_rfl) (by kernel_rfl) rfl rfl ?_
          clear he
          refine zk 1 ?_
          refine ze [1, 2, 3, 6, 124] ?_
          refine aw_ite (t := (!y1)) (by kernel_rfl) h (fun h => ?_) (fun h => ?_)
          · refine za [6, 7, 8] ?_
            have h := Option.some.inj h
            subst h
            exact aw_ret (fin_pub (A := .tup [.agg [I 0, NilS], .c (I (IntKind.wrap .i64 (p2 + 1))), .c (I 3)]) (.inl rfl) (by kernel_rfl) (by kernel_rfl) (by kernel_rfl))
          · refine aw_skip ?_
            refine za [1, 2, 3, 6, 10] ?_
            refine za [1, 2, 3, 6, 10, 11] ?_
            refine aw_join h (fun A j => ∀ (v35 : Int) (v36 : Bool) (v37 : List GType), j v35 v36 v37 = some r → A (mk [(2, .c (I v35)), (6, .c (.ptr 0 0)), (10, .c (.ptr 1 0)), (11, .c (Bo v36))] [(0, .blk 163 [I 0, NilS]), (1, .blk 163 [I p0.Kind, .app 2 (List.map eGType v37)]), (2, .tok 163 2 (List.length v37))] 3)) (fun v35 v36 v37 h => ?_) (fun j2 Aj2 hj2 h => ?_)
            · refine aw_seq ?_
              refine za [2, 6, 10, 179] ?_
              refine aw_ite (t := (!v36)) (by kernel_rfl) h (fun h => ?_) (fun h => ?_)
              · refine za [6, 7, 8] ?_
                have h := Option.some.inj h
                subst h
                exact aw_ret (fin_pub (A := .tup [.agg [I 0, NilS], .c (I v35), .c (I 5)]) (.inl rfl) (by kernel_rfl) (by kernel_rfl) (by kernel_rfl))
              · refine aw_skip ?_
                refine za [6, 7, 8] ?_
                have h := Option.some.inj h
                subst h
                exact aw_ret (fin_pub (A := .tup [.agg [I p0.Kind, .app 2 (List.map eGType v37)], .c (I v35), .c (I 0)]) (.inl rfl) (by kernel_rfl) (by kernel_rfl) (by kernel_rfl))
            · refine za [1, 2, 3, 6, 10, 11, 12] ?_
              refine aw_block ?_
              refine aw_loopJ (fun n s => ∃ (v16 : Int) (v17 : Bool) (v18 : Int) (v19 : List GType), ref11_check_L0 p0 self_ref11_check p1 j2 n v16 v17 v18 v19 = some r ∧ s = mk [(1, .c (I p1)), (2, .c (I v16)), (3, .c (.ptr 0 0)), (6, .c (.ptr 1 0)), (10, .c (.ptr 2 0)), (11, .c (Bo v17)), (12, .c (I v18))] [(0, .blk 70 [I p0.Kind, I p0.N, Sx p0.S, .lit (List.map eGValue p0.L)]), (1, .blk 163 [I 0, NilS]), (2, .blk 163 [I p0.Kind, .app 3 (List.map eGType v19)]), (3, .tok 163 2 (List.length v19))] 4) n _ (Views.trans (view_nilC (n := 108) (T0 := 163) (l := [I p0.Kind, NilS]) (G2 := [(0, .blk 70 [I p0.Kind, I p0.N, Sx p0.S, .lit (List.map eGValue p0.L)]), (1, .blk 163 [I 0, NilS]), (108, .blk 163 [I p0.Kind, .app 112 (List.map eGType ([] : List GType))]), (112, .tok 163 2 (List.length ([] : List GType)))]) (lim2 := 113) 1 163 2 (by kernel_rfl) (by kernel_rfl) (by kernel_rfl) (by kernel_rfl)) (zv [(0, 0), (1, 1), (108, 2), (112, 3)] [1, 2, 3, 6, 10, 11, 12] 4)) ⟨_, _, _, _, h, rfl⟩ (fun s ⟨v16, v17, v18, v19, h, _⟩ => nomatch h) ?_
              rintro n s ⟨v16, v17, v18, v19, h, rfl⟩
              rw [ref11_check_L0] at h
              refine aw_seq ?_
              refine zx fun _ => ?_
              refine zk 3 ?_
              refine rx_rd (v := .c (I (List.length p0.L : Int))) (foot := []) (rd_len (enc := eGValue) (l := p0.L) (by kernel_rfl)) (by kernel_rfl) rfl rfl ?_
              refine zk 1 ?_
              refine ze [1, 2, 3, 6, 10, 11, 12, 134] ?_
              refine aw_ite (t := (decide (v18 < (List.length p0.L : Int)))) (by kernel_rfl) h (fun h => ?_) (fun h => ?_)
              · refine aw_skip ?_
                refine aw_join h (fun A j => ∀ (v25 : Bool) (v26 : Int) (v27 : List GType), j v25 v26 v27 = some r → A (mk [(1, .c (I p1)), (3, .c (.ptr 0 0)), (6, .c (.ptr 1 0)), (10, .c (.ptr 2 0)), (11, .c (Bo v25)), (12, .c (I v18)), (2, .c (I v26))] [(0, .blk 70 [I p0.Kind, I p0.N, Sx p0.S, .lit (List.map eGValue p0.L)]), (1, .blk 163 [I 0, NilS]), (2, .blk 163 [I p0.Kind, .app 3 (List.map eGType v27)]), (3, .tok 163 2 (List.length v27))] 4)) (fun v25 v26 v27 h => ?_) (fun j20 Aj20 hj20 h => ?_)
                · refine aw_out ?_
                  refine zb ?_
                  exact via (zv [(0, 0), (1, 1), (2, 2), (3, 3)] [1, 2, 3, 6, 10, 11, 12] 4) (⟨_, _, _, _, h, rfl⟩)
                · refine aw_block ?_
                  refine zx fun _ => ?_
                  refine zk 3 ?_
                  obtain ⟨e21, he, h⟩ := bindE h
                  refine rx_rd (v := .c (.imm [I e21.Kind, I e21.N, Sx e21.S, .lit (List.map eGValue e21.L)])) (foot := []) (rd_idx (enc := eGValue) (sz := 4) (l := p0.L) (ix := v18) he (by kernel_rfl) (eGValue_eq e21) (by kernel_rfl)) (by kernel_rfl) rfl rfl ?_
                  clear he
                  refine zk 4 ?_
                  obtain ⟨y22, he, h⟩ := bindE h
                  refine rx_call (F := 97) (As := [.agg [I e21.Kind, I e21.N, Sx e21.S, .lit (List.map eGValue e21.L)], .c (I (IntKind.wrap .i64 (p1 + 1))), .c (I v16)]) (Bs := [.agg [I e21.Kind, I e21.N, Sx e21.S, .lit (List.map eGValue e21.L)], .c (I (IntKind.wrap .i64 (p1 + 1))), .c (I v16)]) (r := .tup [.agg [I y22.1.Kind, .lit (List.map eGType y22.1.Of)], .c (I y22.2.1), .c (I y22.2.2)]) (v := .tup [.agg [I y22.1.Kind, .lit (List.map eGType y22.1.Of)], .c (I y22.2.1), .c (I y22.2.2)]) (by kernel_rfl) fok97 (by kernel_rfl) (ih_ref11_check _ _ _ y22 he) (by kernel_rfl) (by kernel_rfl) rfl rfl ?_
                  clear he
                  refine zk 8 ?_
                  refine ze [1, 3, 6, 10, 11, 12, 13, 14, 15] ?_
                  refine za [1, 2, 3, 6, 10, 11, 12, 13, 15] ?_
                  refine aw_seq ?_
                  refine za [1, 2, 3, 6, 10, 11, 12, 13, 15, 152] ?_
                  refine aw_ite (t := (y22.2.2 != 0)) (by kernel_rfl) h (fun h => ?_) (fun h => ?_)
                  · refine za [6, 7, 8] ?_
                    have h := Option.some.inj h
                    subst h
                    exact aw_ret (fin_pub (A := .tup [.agg [I 0, NilS], .c (I y22.2.1), .c (I y22.2.2)]) (.inl rfl) (by kernel_rfl) (by kernel_rfl) (by kernel_rfl))
                  · refine aw_skip ?_
                    refine aw_seq ?_
                    refine za [1, 2, 3, 6, 10, 11, 12, 13, 157] ?_
                    refine aw_ite (t := (!v17)) (by kernel_rfl) h (fun h => ?_) (fun h => ?_)
                    · exact aw_views (zv [(0, 0), (1, 1), (2, 2), (3, 3)] [1, 3, 6, 10, 11, 12, 2] 4) (aw_exit (hj20 _ _ _ h))
                    · refine aw_skip ?_
                      refine aw_seq ?_
                      refine zx fun _ => ?_
                      refine zk 2 ?_
                      refine rx_rd (v := .c (I (List.length v19 : Int))) (foot := []) (rd_len (enc := eGType) (l := v19) (by kernel_rfl)) (by kernel_rfl) rfl rfl ?_
                      refine zk 1 ?_
                      refine zee [1, 2, 3, 6, 10, 11, 12, 13, 161] (L2 := [(1, .c (I p1)), (3, .c (.ptr 0 0)), (6, .c (.ptr 1 0)), (10, .c (.ptr 2 0)), (11, .c (Bo v17)), (12, .c (I v18)), (13, .c (.ptr 22 0)), (2, .c (I y22.2.1)), (161, .c (Bo ((List.length v19 : Int) == 0)))]) (G2 := [(0, .blk 70 [I p0.Kind, I p0.N, Sx p0.S, .lit (List.map eGValue p0.L)]), (1, .blk 163 [I 0, NilS]), (2, .blk 163 [I p0.Kind, .app 3 (List.map eGType v19)]), (3, .tok 163 2 (List.length v19)), (22, .blk 163 [I y22.1.Kind, .lit (List.map eGType y22.1.Of)])]) 36 ?_
                      refine aw_ite (t := ((List.length v19 : Int) == 0)) (by kernel_rfl) h (fun h => ?_) (fun h => ?_)
                      · refine zx fun _ => ?_
                        refine zk 1 ?_
                        refine rx_bs (e := 163) (sz := 2) (len := 1) (r := [I y22.1.Kind, .lit (List.map eGType y22.1.Of)]) (l' := List.map eGType [y22.1]) (nm := 37) (by kernel_rfl) (by simp only [List.map_cons, List.map_nil, eGType_eq]; kernel_rfl) (by kernel_rfl) (by kernel_rfl) rfl rfl rfl ?_
                        refine zk 2 ?_
                        refine ze [1, 2, 3, 6, 10, 11, 12] ?_
                        exact aw_views (zv [(0, 0), (1, 1), (2, 2), (37, 3)] [1, 3, 6, 10, 11, 12, 2] 4) (aw_exit (hj20 _ _ _ h))
                      · refine aw_skip ?_
                        refine zdx [[], [0], [1, 0], [2, 1, 0], [], [3, 4, 2, 1, 0], [5, 3, 4, 2, 1, 0], [6, 5, 3, 4, 2, 1, 0], [6, 5, 3, 4, 2, 1, 0], [], [9, 7, 5, 0, 1, 2, 3, 4, 6], [8, 10, 0, 1, 2, 3, 4, 5, 6, 7, 9]] fun _ => ?_
                        refine zk 2 ?_
                        obtain ⟨e23, he, h⟩ := bindE h
                        refine rx_rd (v := .c (.imm [I e23.Kind, .lit (List.map eGType e23.Of)])) (foot := []) (rd_idx (enc := eGType) (sz := 2) (l := v19) (ix := 0) he (by kernel_rfl) (eGType_eq e23) (by kernel_rfl)) (by kernel_rfl) rfl rfl ?_
                        clear he
                        refine zk 2 ?_
                        obtain ⟨y24, he, h⟩ := bindE h
                        refine rx_call (F := 103) (As := [.agg [I e23.Kind, .lit (List.map eGType e23.Of)], .agg [I y22.1.Kind, .lit (List.map eGType y22.1.Of)]]) (Bs := [.agg [I e23.Kind, .lit (List.map eGType e23.Of)], .agg [I y22.1.Kind, .lit (List.map eGType y22.1.Of)]]) (r := .tup [.agg [I y24.1.Kind, .lit (List.map eGType y24.1.Of)], .c (Bo y24.2)]) (v := .tup [.agg [I y24.1.Kind, .lit (List.map eGType y24.1.Of)], .c (Bo y24.2)]) (by kernel_rfl) fok103 (by kernel_rfl) (ref11_join_ok n _ _ y24 he) (by kernel_rfl) (by kernel_rfl) rfl rfl ?_
                        clear he
                        refine zk 6 ?_
                        refine ze [1, 2, 3, 6, 10, 12, 16, 17] ?_
                        refine za [1, 2, 3, 6, 10, 11, 12, 16] ?_
                        refine aw_out ?_
                        refine zy fun _ => ?_
                        refine zk 1 ?_
                        refine rx_bs (e := 163) (sz := 2) (len := 1) (r := [I y24.1.Kind, .lit (List.map eGType y24.1.Of)]) (l' := List.map eGType [y24.1]) (nm := 51) (by kernel_rfl) (by simp only [List.map_cons, List.map_nil, eGType_eq]; kernel_rfl) (by kernel_rfl) (by kernel_rfl) rfl rfl rfl ?_
                        refine zk 2 ?_
                        refine x_last ?_
                        exact via (zv [(0, 0), (1, 1), (2, 2), (51, 3)] [1, 3, 6, 10, 11, 12, 2] 4) (hj20 _ _ _ h)
              · exact aw_views (zv [(1, 0), (2, 1), (3, 2)] [2, 6, 10, 11] 3) (aw_exit (hj2 _ _ _ h))
def ref11_check : Nat → GValue → Int → Int → Option (GType × Int × Int)
  | 0, _, _, _ => none
  | n + 1, p0, p1, p2 => ref11_check_body (fun a0 a1 a2 => ref11_check n a0 a1 a2) n p0 p1 p2
theorem ref11_check_ok (n : Nat) : (∀ (p0 : GValue) (p1 : Int) (p2 : Int) (r : (GType × Int × Int)), ref11_check n p0 p1 p2 = some r → FnD E 97 0 [.agg [I p0.Kind, I p0.N, Sx p0.S, .lit (List.map eGValue p0.L)], .c (I p1), .c (I p2)] [] (.tup [.agg [I r.1.Kind, .lit (List.map eGType r.1.Of)], .c (I r.2.1), .c (I r.2.2)]) []) := by
  induction n with
  | zero => intro p0 p1 p2 r h; rw [ref11_check] at h; cases h
  | succ n ih => intro p0 p1 p2 r h; rw [ref11_check] at h; exact ref11_check_body_ok _ ih n _ _ _ r h
def ref11_TypeOf  (n : Nat) (p0 : GValue) : Option (GType × Int) := (ref11_check n p0 1 0).bind fun (y1 : (GType × Int × Int)) => some (y1.1, y1.2.2)
theorem ref11_TypeOf_ok  (n : Nat) (p0 : GValue) (r : (GType × Int)) (h : ref11_TypeOf n p0 = some r) : FnD E 90 0 [.agg [I p0.Kind, I p0.N, Sx p0.S, .lit (List.map eGValue p0.L)]] [] (.tup [.agg [I r.1.Kind, .lit (List.map eGType r.1.Of)], .c (I r.2)]) [] := by
  refine zfn Tryd.func90 rfl ?_
  unfold ref11_TypeOf at h
  refine za [1, 2] ?_
  refine zx fun _ => ?_
  refine zk 1 ?_
  obtain ⟨y1, he, h⟩ := bindE h
  refine rx_call (F := 97) (As := [.agg [I p0.Kind, I p0.N, Sx p0.S, .lit (List.map eGValue p0.L)], .c (I 1), .c (I 0)]) (Bs := [.agg [I p0.Kind, I p0.N, Sx p0.S, .lit (List.map eGValue p0.L)], .c (I 1), .c (I 0)]) (r := .tup [.agg [I y1.1.Kind, .lit (List.map eGType y1.1.Of)], .c (I y1.2.1), .c (I y1.2.2)]) (v := .tup [.agg [I y1.1.Kind, .lit (List.map eGType y1.1.Of)], .c (I y1.2.1), .c (I y1.2.2)]) (by kernel_rfl) fok97 (by kernel_rfl) (ref11_check_ok n _ _ _ y1 he) (by kernel_rfl) (by kernel_rfl) rfl rfl ?_
  clear he
  refine zk 8 ?_
  refine ze [2, 4, 6] ?_
  refine za [2, 3] ?_
  have h := Option.some.inj h
  subst h
  exact aw_ret (fin_pub (A := .tup [.agg [I y1.1.Kind, .lit (List.map eGType y1.1.Of)], .c (I y1.2.2)]) (.inl rfl) (by kernel_rfl) (by kernel_rfl) (by kernel_rfl))
def ref11_Check  (n : Nat) (p0 : GValue) : Option Int := (ref11_TypeOf n p0).bind fun (y1 : (GType × Int)) => some y1.2
theorem ref11_Check_ok  (n : Nat) (p0 : GValue) (r : Int) (h : ref11_Check n p0 = some r) : FnD E 77 0 [.agg [I p0.Kind, I p0.N, Sx p0.S, .lit (List.map eGValue p0.L)]] [] (.c (I r)) [] := by
  refine zfn Tryd.func77 rfl ?_
  unfold ref11_Check at h
  refine za [1] ?_
  refine zx fun _ => ?_
  refine zk 1 ?_
  obtain ⟨y1, he, h⟩ := bindE h
  refine rx_call (F := 90) (As := [.agg [I p0.Kind, I p0.N, Sx p0.S, .lit (List.map eGValue p0.L)]]) (Bs := [.agg [I p0.Kind, I p0.N, Sx p0.S, .lit (List.map eGValue p0.L)]]) (r := .tup [.agg [I y1.1.Kind, .lit (List.map eGType y1.1.Of)], .c (I y1.2)]) (v := .tup [.agg [I y1.1.Kind, .lit (List.map eGType y1.1.Of)], .c (I y1.2)]) (by kernel_rfl) fok90 (by kernel_rfl) (ref11_TypeOf_ok n _ y1 he) (by kernel_rfl) (by kernel_rfl) rfl rfl ?_
  clear he
  refine zk 6 ?_
  refine ze [4] ?_
  refine za [2] ?_
  have h := Option.some.inj h
  subst h
  exact aw_ret (fin_pub (A := .c (I y1.2)) (.inl rfl) (by kernel_rfl) (by kernel_rfl) (by kernel_rfl))
end Go.Proofs.YtojkihhnioeggaaDoor.S
