/- Functions, and that the program's are they. Printed by ext.py. -/
import Derived.Test.YtojkihhnioeggaaDoorGQ2
set_option linter.unusedVariables false
set_option linter.unusedSimpArgs false
set_option maxRecDepth 100000
set_option maxHeartbeats 4000000
namespace Go.Proofs.YtojkihhnioeggaaDoor.S
open Go Go.Bm
def expr_Name_L0 (p0 : ByteArray) (j1 : Unit → Option Bool) : Nat → Int → Option Bool
  | 0, _ => none
  | n + 1, v3 => (if (decide (v3 < (ByteArray.size p0 : Int))) = true then (sidx p0 v3).bind fun (u4 : Int) => (if ((!(((decide (u4 ≥ 97)) && (decide (u4 ≤ 122))) || ((decide (u4 ≥ 65)) && (decide (u4 ≤ 90))))) && ((v3 == 0) || ((((decide (u4 < 48)) || (decide (u4 > 57))) && (u4 != 45)) && (u4 != 95)))) = true then some false else expr_Name_L0 p0 j1 n (IntKind.wrap .i64 (v3 + 1))) else j1 ())
def expr_Name  (n : Nat) (p0 : ByteArray) : Option Bool := (if (((ByteArray.size p0 : Int) == 0) || (decide ((ByteArray.size p0 : Int) > 24))) = true then some false else (withJ (fun (_ : Unit) => some true) (fun (j1 : Unit → Option Bool) => expr_Name_L0 p0 j1 n 0)))
theorem expr_Name_ok  (n : Nat) (p0 : ByteArray) (r : Bool) (h : expr_Name n p0 = some r) : FnD E 29 0 [.c (Sx p0)] [] (.c (Bo r)) [] := by
  refine zfn Tryd.func29 rfl ?_
  unfold expr_Name at h
  refine za [0] ?_
  refine aw_seq ?_
  refine zx fun _ => ?_
  refine zk 4 ?_
  refine zE (.c (Sx p0)) ?_
  refine zE (.c (I (ByteArray.size p0 : Int))) ?_
  refine zE (.c (Bo (decide ((ByteArray.size p0 : Int) > 24)))) ?_
  refine zP (.bool (((ByteArray.size p0 : Int) == 0) || (decide ((ByteArray.size p0 : Int) > 24)))) ?_
  refine ze [0, 13] ?_
  refine aw_ite (t := (((ByteArray.size p0 : Int) == 0) || (decide ((ByteArray.size p0 : Int) > 24)))) (by kernel_rfl) h (fun h => ?_) (fun h => ?_)
  · refine za [2] ?_
    have h := Option.some.inj h
    subst h
    exact aw_ret (fin_pub (A := .c (Bo false)) (.inl rfl) (by kernel_rfl) (by kernel_rfl) (by kernel_rfl))
  · refine aw_skip ?_
    refine aw_join h (fun A j => ∀ (u : Unit), j u = some r → A (mk [] [] 0)) (fun u h => ?_) (fun j1 Aj1 hj1 h => ?_)
    · refine za [2] ?_
      have h := Option.some.inj h
      subst h
      exact aw_ret (fin_pub (A := .c (Bo true)) (.inl rfl) (by kernel_rfl) (by kernel_rfl) (by kernel_rfl))
    · refine za [0, 15, 16] ?_
      refine aw_block ?_
      refine aw_loopJ (fun n s => ∃ (v3 : Int), expr_Name_L0 p0 j1 n v3 = some r ∧ s = mk [(0, .c (Sx p0)), (15, .c (I (ByteArray.size p0 : Int))), (16, .c (I v3))] [] 0) n _ (zv [] [0, 15, 16] 0) ⟨_, h, rfl⟩ (fun s ⟨v3, h, _⟩ => nomatch h) ?_
      rintro n s ⟨v3, h, rfl⟩
      rw [expr_Name_L0] at h
      refine za [0, 15, 16, 17] ?_
      refine aw_seq ?_
      refine aw_ite (t := (decide (v3 < (ByteArray.size p0 : Int)))) (by kernel_rfl) h (fun h => ?_) (fun h => ?_)
      · refine aw_skip ?_
        refine aw_seq ?_
        refine aw_block ?_
        refine za [0, 3, 15, 16] ?_
        refine zx fun _ => ?_
        refine zk 2 ?_
        obtain ⟨u4, he, h⟩ := bindE h
        refine rx_rd (v := .c (U8 u4)) (foot := []) (rd_sidx (s := p0) (ix := v3) he (by kernel_rfl)) (by kernel_rfl) rfl rfl ?_
        clear he
        refine zk 1 ?_
        refine ze [0, 3, 4, 15, 16] ?_
        refine zx fun _ => ?_
        refine zk 3 ?_
        refine zE (.c (U8 u4)) ?_
        refine zE (.c (Bo (decide (u4 ≤ 122)))) ?_
        refine zP (.bool ((decide (u4 ≥ 97)) && (decide (u4 ≤ 122)))) ?_
        refine zk 1 ?_
        refine zE (.c (U8 u4)) ?_
        refine zE (.c (Bo (decide (u4 ≥ 65)))) ?_
        refine zF [(!((decide (u4 ≥ 97)) && (decide (u4 ≤ 122))))] (.c (Bo (decide (u4 ≥ 65)))) ?_
        refine zE (.c (U8 u4)) ?_
        refine zE (.c (Bo (decide (u4 ≤ 90)))) ?_
        refine zP (.bool ((decide (u4 ≥ 65)) && (decide (u4 ≤ 90)))) ?_
        refine zP (.bool (((decide (u4 ≥ 97)) && (decide (u4 ≤ 122))) || ((decide (u4 ≥ 65)) && (decide (u4 ≤ 90))))) ?_
        refine zk 1 ?_
        refine zee [0, 3, 4, 5, 15, 16] (L2 := [(0, .c (Sx p0)), (15, .c (I (ByteArray.size p0 : Int))), (16, .c (I v3)), (3, .c (I v3)), (4, .c (U8 u4)), (5, .c (Bo (((decide (u4 ≥ 97)) && (decide (u4 ≤ 122))) || ((decide (u4 ≥ 65)) && (decide (u4 ≤ 90))))))]) (G2 := []) 22 ?_
        refine zx fun _ => ?_
        refine zk 3 ?_
        refine zE (.c (I v3)) ?_
        refine zE (.c (Bo (v3 == 0))) ?_
        refine zF [(!(((decide (u4 ≥ 97)) && (decide (u4 ≤ 122))) || ((decide (u4 ≥ 65)) && (decide (u4 ≤ 90)))))] (.c (Bo (v3 == 0))) ?_
        refine zE (.c (U8 u4)) ?_
        refine zE (.c (Bo (decide (u4 < 48)))) ?_
        refine zF [(!(((decide (u4 ≥ 97)) && (decide (u4 ≤ 122))) || ((decide (u4 ≥ 65)) && (decide (u4 ≤ 90))))), (!(v3 == 0))] (.c (Bo (decide (u4 < 48)))) ?_
        refine zE (.c (U8 u4)) ?_
        refine zE (.c (Bo (decide (u4 > 57)))) ?_
        refine zP (.bool ((decide (u4 < 48)) || (decide (u4 > 57)))) ?_
        refine zF [(!(((decide (u4 ≥ 97)) && (decide (u4 ≤ 122))) || ((decide (u4 ≥ 65)) && (decide (u4 ≤ 90))))), (!(v3 == 0))] (.c (Bo ((decide (u4 < 48)) || (decide (u4 > 57))))) ?_
        refine zE (.c (U8 u4)) ?_
        refine zE (.c (Bo (u4 != 45))) ?_
        refine zP (.bool (((decide (u4 < 48)) || (decide (u4 > 57))) && (u4 != 45))) ?_
        refine zF [(!(((decide (u4 ≥ 97)) && (decide (u4 ≤ 122))) || ((decide (u4 ≥ 65)) && (decide (u4 ≤ 90))))), (!(v3 == 0))] (.c (Bo (((decide (u4 < 48)) || (decide (u4 > 57))) && (u4 != 45)))) ?_
        refine zE (.c (U8 u4)) ?_
        refine zE (.c (Bo (u4 != 95))) ?_
        refine zP (.bool ((((decide (u4 < 48)) || (decide (u4 > 57))) && (u4 != 45)) && (u4 != 95))) ?_
        refine zP (.bool ((v3 == 0) || ((((decide (u4 < 48)) || (decide (u4 > 57))) && (u4 != 45)) && (u4 != 95)))) ?_
        refine zP (.bool ((!(((decide (u4 ≥ 97)) && (decide (u4 ≤ 122))) || ((decide (u4 ≥ 65)) && (decide (u4 ≤ 90))))) && ((v3 == 0) || ((((decide (u4 < 48)) || (decide (u4 > 57))) && (u4 != 45)) && (u4 != 95))))) ?_
        refine zee [0, 15, 16, 57] (L2 := [(0, .c (Sx p0)), (15, .c (I (ByteArray.size p0 : Int))), (16, .c (I v3)), (57, .c (Bo ((!(((decide (u4 ≥ 97)) && (decide (u4 ≤ 122))) || ((decide (u4 ≥ 65)) && (decide (u4 ≤ 90))))) && ((v3 == 0) || ((((decide (u4 < 48)) || (decide (u4 > 57))) && (u4 != 45)) && (u4 != 95))))))]) (G2 := []) 44 ?_
        refine aw_ite (t := ((!(((decide (u4 ≥ 97)) && (decide (u4 ≤ 122))) || ((decide (u4 ≥ 65)) && (decide (u4 ≤ 90))))) && ((v3 == 0) || ((((decide (u4 < 48)) || (decide (u4 > 57))) && (u4 != 45)) && (u4 != 95))))) (by kernel_rfl) h (fun h => ?_) (fun h => ?_)
        · refine za [2] ?_
          have h := Option.some.inj h
          subst h
          exact aw_ret (fin_pub (A := .c (Bo false)) (.inl rfl) (by kernel_rfl) (by kernel_rfl) (by kernel_rfl))
        · refine aw_skip ?_
          refine aw_out ?_
          refine zb ?_
          exact via (zv [] [0, 15, 16] 0) (⟨_, h, rfl⟩)
      · exact aw_views (zv [] [] 0) (aw_exit (hj1 _ h))
def style_declaration  (n : Nat) (p0 : GDecl) (p1 : Int) : Option Int := (style_exists n p0.Prop_).bind fun (y1 : Bool) => (if (!y1) = true then some 1 else (withJ (fun (v3 : Bool) => (if v3 = true then some 9 else (gd [(p0.Source == 0)] (style_InRange n p0.Prop_ p0.N)).bind fun (y4 : Bool) => (if ((p0.Source == 0) && (!y4)) = true then some 1 else (gd [(p0.Source == 1)] (expr_Name n p0.Token)).bind fun (y5 : Bool) => (if ((p0.Source == 1) && (!y5)) = true then some 4 else (if (((p0.Prop_ == 5) || (p0.Prop_ == 21)) && ((bAnd .i64 p1 7) != 0)) = true then some 13 else some 0))))) (fun (j2 : Bool → Option Int) => (if ((decide (p0.Source < 0)) || (decide (p0.Source > 3))) = true then j2 ((decide (p0.Source < 0)) || (decide (p0.Source > 3))) else (if ((p0.N != 0) && (p0.Source != 0)) = true then j2 ((p0.N != 0) && (p0.Source != 0)) else j2 ((!(sEq p0.Token (⟨#[]⟩ : ByteArray))) && (p0.Source != 1)))))))
theorem style_declaration_ok  (n : Nat) (p0 : GDecl) (p1 : Int) (r : Int) (h : style_declaration n p0 p1 = some r) : FnD E 30 0 [.agg [I p0.Prop_, I p0.Source, I p0.N, Sx p0.Token], .c (I p1)] [] (.c (I r)) [] := by
  refine zfn Tryd.func30 rfl ?_
  unfold style_declaration at h
  refine za [1, 2] ?_
  refine aw_seq ?_
  refine aw_block ?_
  refine zx fun _ => ?_
  refine zk 2 ?_
  obtain ⟨y1, he, h⟩ := bindE h
  refine rx_call (F := 28) (As := [.c (I p0.Prop_)]) (Bs := [.c (I p0.Prop_)]) (r := .c (Bo y1)) (v := .c (Bo y1)) (by kernel_rfl) fok28 (by kernel_rfl) (style_exists_ok n _ y1 he) (by kernel_rfl) (by kernel_rfl) rfl rfl ?_
  clear he
  refine zk 2 ?_
  refine ze [1, 2, 5] ?_
  refine aw_ite (t := (!y1)) (by kernel_rfl) h (fun h => ?_) (fun h => ?_)
  · refine za [4] ?_
    have h := Option.some.inj h
    subst h
    exact aw_ret (fin_pub (A := .c (I 1)) (.inl rfl) (by kernel_rfl) (by kernel_rfl) (by kernel_rfl))
  · refine aw_join h (fun A j => ∀ (v3 : Bool), j v3 = some r → A (mk [(1, .c (I p1)), (2, .c (.ptr 0 0)), (10, .c (Bo v3))] [(0, .blk 45 [I p0.Prop_, I p0.Source, I p0.N, Sx p0.Token])] 1)) (fun v3 h => ?_) (fun j2 Aj2 hj2 h => ?_)
    · refine aw_ite (t := v3) (by kernel_rfl) h (fun h => ?_) (fun h => ?_)
      · refine za [4] ?_
        have h := Option.some.inj h
        subst h
        exact aw_ret (fin_pub (A := .c (I 9)) (.inl rfl) (by kernel_rfl) (by kernel_rfl) (by kernel_rfl))
      · refine zx fun _ => ?_
        refine zk 4 ?_
        refine zE (.c (.ptr 0 0)) ?_
        refine zE (.c (I p0.Prop_)) ?_
        refine zE (.c (.ptr 0 2)) ?_
        refine zE (.c (I p0.N)) ?_
        obtain ⟨y4, he, h⟩ := bindE h
        refine rx_Ecall (e := [(p0.Source == 0)]) [(41, .c (I p0.Prop_), some 1), (43, .c (I p0.N), some 1)] (F := 11) (As := [.c (I p0.Prop_), .c (I p0.N)]) (Bs := [.c (I p0.Prop_), .c (I p0.N)]) (r := .c (Bo y4)) (v := .c (Bo y4)) (by kernel_rfl) (by kernel_rfl) (by kernel_rfl) (by kernel_rfl) fok11 (by kernel_rfl) (fun hg => style_InRange_ok n _ _ y4 (gd_spec he hg)) (by kernel_rfl) rfl rfl ?_
        clear he
        refine zE (.c (Bo (!y4))) ?_
        refine zP (.bool ((p0.Source == 0) && (!y4))) ?_
        refine zk 1 ?_
        refine ze [1, 2, 35] ?_
        refine aw_ite (t := ((p0.Source == 0) && (!y4))) (by kernel_rfl) h (fun h => ?_) (fun h => ?_)
        · refine za [4] ?_
          have h := Option.some.inj h
          subst h
          exact aw_ret (fin_pub (A := .c (I 1)) (.inl rfl) (by kernel_rfl) (by kernel_rfl) (by kernel_rfl))
        · refine zx fun _ => ?_
          refine zk 4 ?_
          refine zE (.c (.ptr 0 3)) ?_
          refine zE (.c (Sx p0.Token)) ?_
          obtain ⟨y5, he, h⟩ := bindE h
          refine rx_Ecall (e := [(p0.Source == 1)]) [(53, .c (Sx p0.Token), some 1)] (F := 29) (As := [.c (Sx p0.Token)]) (Bs := [.c (Sx p0.Token)]) (r := .c (Bo y5)) (v := .c (Bo y5)) (by kernel_rfl) (by kernel_rfl) (by kernel_rfl) (by kernel_rfl) fok29 (by kernel_rfl) (fun hg => expr_Name_ok n _ y5 (gd_spec he hg)) (by kernel_rfl) rfl rfl ?_
          clear he
          refine zE (.c (Bo (!y5))) ?_
          refine zP (.bool ((p0.Source == 1) && (!y5))) ?_
          refine zk 1 ?_
          refine zee [1, 2, 47] (L2 := [(1, .c (I p1)), (2, .c (.ptr 0 0)), (47, .c (Bo ((p0.Source == 1) && (!y5))))]) (G2 := [(0, .blk 45 [I p0.Prop_, I p0.Source, I p0.N, Sx p0.Token])]) 23 ?_
          refine aw_ite (t := ((p0.Source == 1) && (!y5))) (by kernel_rfl) h (fun h => ?_) (fun h => ?_)
          · refine za [4] ?_
            have h := Option.some.inj h
            subst h
            exact aw_ret (fin_pub (A := .c (I 4)) (.inl rfl) (by kernel_rfl) (by kernel_rfl) (by kernel_rfl))
          · refine zx fun _ => ?_
            refine zk 4 ?_
            refine zE (.c (.ptr 0 0)) ?_
            refine zE (.c (I p0.Prop_)) ?_
            refine zE (.c (Bo (p0.Prop_ == 21))) ?_
            refine zP (.bool ((p0.Prop_ == 5) || (p0.Prop_ == 21))) ?_
            refine zk 1 ?_
            refine zE (.c (I p1)) ?_
            refine zE (.c (I (bAnd .i64 p1 7))) ?_
            refine zE (.c (Bo ((bAnd .i64 p1 7) != 0))) ?_
            refine zP (.bool (((p0.Prop_ == 5) || (p0.Prop_ == 21)) && ((bAnd .i64 p1 7) != 0))) ?_
            refine zk 1 ?_
            refine zee [57] (L2 := [(57, .c (Bo (((p0.Prop_ == 5) || (p0.Prop_ == 21)) && ((bAnd .i64 p1 7) != 0))))]) (G2 := [(0, .blk 45 [I p0.Prop_, I p0.Source, I p0.N, Sx p0.Token])]) 37 ?_
            refine aw_ite (t := (((p0.Prop_ == 5) || (p0.Prop_ == 21)) && ((bAnd .i64 p1 7) != 0))) (by kernel_rfl) h (fun h => ?_) (fun h => ?_)
            · refine za [4] ?_
              have h := Option.some.inj h
              subst h
              exact aw_ret (fin_pub (A := .c (I 13)) (.inl rfl) (by kernel_rfl) (by kernel_rfl) (by kernel_rfl))
            · refine aw_skip ?_
              refine za [4] ?_
              have h := Option.some.inj h
              subst h
              exact aw_ret (fin_pub (A := .c (I 0)) (.inl rfl) (by kernel_rfl) (by kernel_rfl) (by kernel_rfl))
    · refine zx fun _ => ?_
      refine zk 4 ?_
      refine zE (.c (.ptr 0 1)) ?_
      refine zE (.c (I p0.Source)) ?_
      refine zE (.c (Bo (decide (p0.Source > 3)))) ?_
      refine zP (.bool ((decide (p0.Source < 0)) || (decide (p0.Source > 3)))) ?_
      refine zk 1 ?_
      refine zee [1, 2, 10] (L2 := [(1, .c (I p1)), (2, .c (.ptr 0 0)), (10, .c (Bo ((decide (p0.Source < 0)) || (decide (p0.Source > 3)))))]) (G2 := [(0, .blk 45 [I p0.Prop_, I p0.Source, I p0.N, Sx p0.Token])]) 16 ?_
      refine aw_ite (t := ((decide (p0.Source < 0)) || (decide (p0.Source > 3)))) (by kernel_rfl) h (fun h => ?_) (fun h => ?_)
      · exact aw_views (zv [(0, 0)] [1, 2, 10] 1) (aw_skip (hj2 _ h))
      · refine zx fun _ => ?_
        refine zk 4 ?_
        refine zE (.c (.ptr 0 1)) ?_
        refine zE (.c (I p0.Source)) ?_
        refine zE (.c (Bo (p0.Source != 0))) ?_
        refine zP (.bool ((p0.N != 0) && (p0.Source != 0))) ?_
        refine zk 1 ?_
        refine ze [1, 2, 10] ?_
        refine aw_ite (t := ((p0.N != 0) && (p0.Source != 0))) (by kernel_rfl) h (fun h => ?_) (fun h => ?_)
        · exact aw_views (zv [(0, 0)] [1, 2, 10] 1) (aw_skip (hj2 _ h))
        · refine aw_out ?_
          refine zy fun _ => ?_
          refine zk 4 ?_
          refine zE (.c (.ptr 0 1)) ?_
          refine zE (.c (I p0.Source)) ?_
          refine zE (.c (Bo (p0.Source != 1))) ?_
          refine zP (.bool ((!(sEq p0.Token (⟨#[]⟩ : ByteArray))) && (p0.Source != 1))) ?_
          refine zk 1 ?_
          refine x_last ?_
          exact via (zv [(0, 0)] [1, 2, 10] 1) (hj2 _ h)
def style_Validate_L1 (e14 : GRule) (j13 : Unit → Option Int) (p0 : GSheet) (v12 : Int) : Nat → Int → Option Int
  | 0, _ => none
  | n + 1, v19 => (if (decide (v19 < (List.length e14.Decls : Int))) = true then (idx e14.Decls v19).bind fun (e20 : GDecl) => (style_declaration n e20 e14.States).bind fun (y21 : Int) => (if (y21 != 0) = true then some y21 else style_Validate_L1 e14 j13 p0 v12 n (IntKind.wrap .i64 (v19 + 1))) else j13 ())
def style_Validate_L0 (p0 : GSheet) (j1 : Unit → Option Int) : Nat → Int → Option Int
  | 0, _ => none
  | n + 1, v12 => (if (decide (v12 < (List.length p0.Rules : Int))) = true then (withJ (fun (_ : Unit) => style_Validate_L0 p0 j1 n (IntKind.wrap .i64 (v12 + 1))) (fun (j13 : Unit → Option Int) => (idx p0.Rules v12).bind fun (e14 : GRule) => (if ((((decide (e14.Kind < 0)) || (decide (e14.Kind > 13))) || (decide (e14.UnderKind < 0))) || (decide (e14.UnderKind > 13))) = true then some 9 else (gd [(!(sEq e14.Class (⟨#[]⟩ : ByteArray)))] (expr_Name n e14.Class)).bind fun (y15 : Bool) => (gd [(!((!(sEq e14.Class (⟨#[]⟩ : ByteArray))) && (!y15))), (!(sEq e14.UnderClass (⟨#[]⟩ : ByteArray)))] (expr_Name n e14.UnderClass)).bind fun (y16 : Bool) => (if (((!(sEq e14.Class (⟨#[]⟩ : ByteArray))) && (!y15)) || ((!(sEq e14.UnderClass (⟨#[]⟩ : ByteArray))) && (!y16))) = true then some 4 else (if ((decide (e14.States < 0)) || (decide (e14.States > 31))) = true then some 1 else (if (decide ((List.length e14.Decls : Int) > 50)) = true then some 2 else style_Validate_L1 e14 j13 p0 v12 n 0)))))) else j1 ())
def style_Validate  (n : Nat) (p0 : GSheet) : Option Int := (if (decide ((List.length p0.Rules : Int) > 100)) = true then some 2 else (withJ (fun (_ : Unit) => some 0) (fun (j1 : Unit → Option Int) => style_Validate_L0 p0 j1 n 0)))
theorem style_Validate_ok  (n : Nat) (p0 : GSheet) (r : Int) (h : style_Validate n p0 = some r) : FnD E 16 0 [.agg [.lit (List.map eGRule p0.Rules)]] [] (.c (I r)) [] := by
  refine zfn Tryd.func16 rfl ?_
  unfold style_Validate at h
  refine za [1] ?_
  refine aw_seq ?_
  refine zx fun _ => ?_
  refine zk 2 ?_
  refine rx_rd (v := .c (I (List.length p0.Rules : Int))) (foot := []) (rd_len (enc := eGRule) (l := p0.Rules) (by kernel_rfl)) (by kernel_rfl) rfl rfl ?_
  refine zk 1 ?_
  refine ze [1, 11] ?_
  refine aw_ite (t := (decide ((List.length p0.Rules : Int) > 100))) (by kernel_rfl) h (fun h => ?_) (fun h => ?_)
  · refine za [2] ?_
    have h := Option.some.inj h
    subst h
    exact aw_ret (fin_pub (A := .c (I 2)) (.inl rfl) (by kernel_rfl) (by kernel_rfl) (by kernel_rfl))
  · refine aw_skip ?_
    refine aw_join h (fun A j => ∀ (u : Unit), j u = some r → A (mk [] [] 0)) (fun u h => ?_) (fun j1 Aj1 hj1 h => ?_)
    · refine za [2] ?_
      have h := Option.some.inj h
      subst h
      exact aw_ret (fin_pub (A := .c (I 0)) (.inl rfl) (by kernel_rfl) (by kernel_rfl) (by kernel_rfl))
    · refine zx fun _ => ?_
      refine zk 2 ?_
      refine rx_rd (v := .c (I (List.length p0.Rules : Int))) (foot := []) (rd_len (enc := eGRule) (l := p0.Rules) (by kernel_rfl)) (by kernel_rfl) rfl rfl ?_
      refine zk 1 ?_
      refine ze [13, 14, 15] ?_
      refine aw_block ?_
      refine aw_loopJ (fun n s => ∃ (v12 : Int), style_Validate_L0 p0 j1 n v12 = some r ∧ s = mk [(13, .c (.lit (List.map eGRule p0.Rules))), (14, .c (I (List.length p0.Rules : Int))), (15, .c (I v12))] [] 0) n _ (zv [] [13, 14, 15] 0) ⟨_, h, rfl⟩ (fun s ⟨v12, h, _⟩ => nomatch h) ?_
      rintro n s ⟨v12, h, rfl⟩
      rw [style_Validate_L0] at h
      refine za [13, 14, 15, 16] ?_
      refine aw_seq ?_
      refine aw_ite (t := (decide (v12 < (List.length p0.Rules : Int)))) (by kernel_rfl) h (fun h => ?_) (fun h => ?_)
      · refine aw_skip ?_
        refine aw_join h (fun A j => ∀ (u : Unit), j u = some r → A (mk [(13, .c (.lit (List.map eGRule p0.Rules))), (14, .c (I (List.length p0.Rules : Int))), (15, .c (I v12))] [] 0)) (fun u h => ?_) (fun j13 Aj13 hj13 h => ?_)
        · refine aw_out ?_
          refine zb ?_
          exact via (zv [] [13, 14, 15] 0) (⟨_, h, rfl⟩)
        · refine aw_block ?_
          refine zx fun _ => ?_
          obtain ⟨e14, he, h⟩ := bindE h
          refine rx_rd (v := .c (.imm [I e14.Kind, Sx e14.Class, I e14.States, I e14.UnderKind, Sx e14.UnderClass, .lit (List.map eGDecl e14.Decls)])) (foot := []) (rd_idx (enc := eGRule) (sz := 6) (l := p0.Rules) (ix := v12) he (by kernel_rfl) (by kernel_rfl) (by kernel_rfl)) (by kernel_rfl) rfl rfl ?_
          clear he
          refine zk 3 ?_
          refine ze [4, 13, 14, 15] ?_
          refine aw_seq ?_
          refine aw_block ?_
          refine zx fun _ => ?_
          refine zk 4 ?_
          refine zE (.c (.ptr 3 0)) ?_
          refine zE (.c (I e14.Kind)) ?_
          refine zE (.c (Bo (decide (e14.Kind > 13)))) ?_
          refine zP (.bool ((decide (e14.Kind < 0)) || (decide (e14.Kind > 13)))) ?_
          refine zk 1 ?_
          refine zE (.c (.ptr 3 3)) ?_
          refine zE (.c (I e14.UnderKind)) ?_
          refine zE (.c (Bo (decide (e14.UnderKind < 0)))) ?_
          refine zP (.bool (((decide (e14.Kind < 0)) || (decide (e14.Kind > 13))) || (decide (e14.UnderKind < 0)))) ?_
          refine zk 1 ?_
          refine zE (.c (.ptr 3 3)) ?_
          refine zE (.c (I e14.UnderKind)) ?_
          refine zE (.c (Bo (decide (e14.UnderKind > 13)))) ?_
          refine zP (.bool ((((decide (e14.Kind < 0)) || (decide (e14.Kind > 13))) || (decide (e14.UnderKind < 0))) || (decide (e14.UnderKind > 13)))) ?_
          refine zk 1 ?_
          refine zee [4, 13, 14, 15, 19] (L2 := [(13, .c (.lit (List.map eGRule p0.Rules))), (14, .c (I (List.length p0.Rules : Int))), (15, .c (I v12)), (4, .c (.ptr 3 0)), (19, .c (Bo ((((decide (e14.Kind < 0)) || (decide (e14.Kind > 13))) || (decide (e14.UnderKind < 0))) || (decide (e14.UnderKind > 13)))))]) (G2 := [(3, .blk 33 [I e14.Kind, Sx e14.Class, I e14.States, I e14.UnderKind, Sx e14.UnderClass, .lit (List.map eGDecl e14.Decls)])]) 24 ?_
          refine aw_ite (t := ((((decide (e14.Kind < 0)) || (decide (e14.Kind > 13))) || (decide (e14.UnderKind < 0))) || (decide (e14.UnderKind > 13)))) (by kernel_rfl) h (fun h => ?_) (fun h => ?_)
          · refine za [2] ?_
            have h := Option.some.inj h
            subst h
            exact aw_ret (fin_pub (A := .c (I 9)) (.inl rfl) (by kernel_rfl) (by kernel_rfl) (by kernel_rfl))
          · refine zx fun _ => ?_
            refine zk 4 ?_
            refine zE (.c (.ptr 3 1)) ?_
            refine zE (.c (Sx e14.Class)) ?_
            obtain ⟨y15, he, h⟩ := bindE h
            refine rx_Ecall (e := [(!(sEq e14.Class (⟨#[]⟩ : ByteArray)))]) [(44, .c (Sx e14.Class), some 1)] (F := 29) (As := [.c (Sx e14.Class)]) (Bs := [.c (Sx e14.Class)]) (r := .c (Bo y15)) (v := .c (Bo y15)) (by kernel_rfl) (by kernel_rfl) (by kernel_rfl) (by kernel_rfl) fok29 (by kernel_rfl) (fun hg => expr_Name_ok n _ y15 (gd_spec he hg)) (by kernel_rfl) rfl rfl ?_
            clear he
            refine zE (.c (Bo (!y15))) ?_
            refine zP (.bool ((!(sEq e14.Class (⟨#[]⟩ : ByteArray))) && (!y15))) ?_
            refine zk 1 ?_
            refine zE (.c (.ptr 3 4)) ?_
            refine zE (.c (Sx e14.UnderClass)) ?_
            refine zE (.c (Bo (!(sEq e14.UnderClass (⟨#[]⟩ : ByteArray))))) ?_
            refine zF [(!((!(sEq e14.Class (⟨#[]⟩ : ByteArray))) && (!y15)))] (.c (Bo (!(sEq e14.UnderClass (⟨#[]⟩ : ByteArray))))) ?_
            refine zE (.c (.ptr 3 4)) ?_
            refine zE (.c (Sx e14.UnderClass)) ?_
            obtain ⟨y16, he, h⟩ := bindE h
            refine rx_Ecall (e := [(!((!(sEq e14.Class (⟨#[]⟩ : ByteArray))) && (!y15))), (!(sEq e14.UnderClass (⟨#[]⟩ : ByteArray)))]) [(54, .c (Sx e14.UnderClass), some 2)] (F := 29) (As := [.c (Sx e14.UnderClass)]) (Bs := [.c (Sx e14.UnderClass)]) (r := .c (Bo y16)) (v := .c (Bo y16)) (by kernel_rfl) (by kernel_rfl) (by kernel_rfl) (by kernel_rfl) fok29 (by kernel_rfl) (fun hg => expr_Name_ok n _ y16 (gd_spec he hg)) (by kernel_rfl) rfl rfl ?_
            clear he
            refine zE (.c (Bo (!y16))) ?_
            refine zP (.bool ((!(sEq e14.UnderClass (⟨#[]⟩ : ByteArray))) && (!y16))) ?_
            refine zP (.bool (((!(sEq e14.Class (⟨#[]⟩ : ByteArray))) && (!y15)) || ((!(sEq e14.UnderClass (⟨#[]⟩ : ByteArray))) && (!y16)))) ?_
            refine zk 1 ?_
            refine zee [4, 13, 14, 15, 38] (L2 := [(13, .c (.lit (List.map eGRule p0.Rules))), (14, .c (I (List.length p0.Rules : Int))), (15, .c (I v12)), (4, .c (.ptr 3 0)), (38, .c (Bo (((!(sEq e14.Class (⟨#[]⟩ : ByteArray))) && (!y15)) || ((!(sEq e14.UnderClass (⟨#[]⟩ : ByteArray))) && (!y16)))))]) (G2 := [(3, .blk 33 [I e14.Kind, Sx e14.Class, I e14.States, I e14.UnderKind, Sx e14.UnderClass, .lit (List.map eGDecl e14.Decls)])]) 45 ?_
            refine aw_ite (t := (((!(sEq e14.Class (⟨#[]⟩ : ByteArray))) && (!y15)) || ((!(sEq e14.UnderClass (⟨#[]⟩ : ByteArray))) && (!y16)))) (by kernel_rfl) h (fun h => ?_) (fun h => ?_)
            · refine za [2] ?_
              have h := Option.some.inj h
              subst h
              exact aw_ret (fin_pub (A := .c (I 4)) (.inl rfl) (by kernel_rfl) (by kernel_rfl) (by kernel_rfl))
            · refine zx fun _ => ?_
              refine zk 4 ?_
              refine zE (.c (.ptr 3 2)) ?_
              refine zE (.c (I e14.States)) ?_
              refine zE (.c (Bo (decide (e14.States > 31)))) ?_
              refine zP (.bool ((decide (e14.States < 0)) || (decide (e14.States > 31)))) ?_
              refine zk 1 ?_
              refine ze [4, 13, 14, 15, 59] ?_
              refine aw_ite (t := ((decide (e14.States < 0)) || (decide (e14.States > 31)))) (by kernel_rfl) h (fun h => ?_) (fun h => ?_)
              · refine za [2] ?_
                have h := Option.some.inj h
                subst h
                exact aw_ret (fin_pub (A := .c (I 1)) (.inl rfl) (by kernel_rfl) (by kernel_rfl) (by kernel_rfl))
              · refine zx fun _ => ?_
                refine zk 2 ?_
                refine rx_rd (v := .c (I (List.length e14.Decls : Int))) (foot := []) (rd_len (enc := eGDecl) (l := e14.Decls) (by kernel_rfl)) (by kernel_rfl) rfl rfl ?_
                refine zk 2 ?_
                refine ze [4, 13, 14, 15, 68] ?_
                refine aw_ite (t := (decide ((List.length e14.Decls : Int) > 50))) (by kernel_rfl) h (fun h => ?_) (fun h => ?_)
                · refine za [2] ?_
                  have h := Option.some.inj h
                  subst h
                  exact aw_ret (fin_pub (A := .c (I 2)) (.inl rfl) (by kernel_rfl) (by kernel_rfl) (by kernel_rfl))
                · refine aw_skip ?_
                  refine zx fun _ => ?_
                  refine zk 2 ?_
                  refine rx_rd (v := .c (I (List.length e14.Decls : Int))) (foot := []) (rd_len (enc := eGDecl) (l := e14.Decls) (by kernel_rfl)) (by kernel_rfl) rfl rfl ?_
                  refine zk 1 ?_
                  refine zee [4, 13, 14, 15, 74, 75, 76] (L2 := [(13, .c (.lit (List.map eGRule p0.Rules))), (14, .c (I (List.length p0.Rules : Int))), (15, .c (I v12)), (4, .c (.ptr 3 0)), (74, .c (.lit (List.map eGDecl e14.Decls))), (75, .c (I (List.length e14.Decls : Int))), (76, .c (I 0))]) (G2 := [(3, .blk 33 [I e14.Kind, Sx e14.Class, I e14.States, I e14.UnderKind, Sx e14.UnderClass, .lit (List.map eGDecl e14.Decls)])]) 63 ?_
                  refine aw_block ?_
                  refine aw_loopJ (fun n s => ∃ (v19 : Int), style_Validate_L1 e14 j13 p0 v12 n v19 = some r ∧ s = mk [(13, .c (.lit (List.map eGRule p0.Rules))), (14, .c (I (List.length p0.Rules : Int))), (15, .c (I v12)), (4, .c (.ptr 0 0)), (74, .c (.lit (List.map eGDecl e14.Decls))), (75, .c (I (List.length e14.Decls : Int))), (76, .c (I v19))] [(0, .blk 33 [I e14.Kind, Sx e14.Class, I e14.States, I e14.UnderKind, Sx e14.UnderClass, .lit (List.map eGDecl e14.Decls)])] 1) n _ (zv [(3, 0)] [13, 14, 15, 4, 74, 75, 76] 1) ⟨_, h, rfl⟩ (fun s ⟨v19, h, _⟩ => nomatch h) ?_
                  rintro n s ⟨v19, h, rfl⟩
                  rw [style_Validate_L1] at h
                  refine za [4, 13, 14, 15, 74, 75, 76, 77] ?_
                  refine aw_seq ?_
                  refine aw_ite (t := (decide (v19 < (List.length e14.Decls : Int)))) (by kernel_rfl) h (fun h => ?_) (fun h => ?_)
                  · refine aw_skip ?_
                    refine aw_seq ?_
                    refine aw_block ?_
                    refine zx fun _ => ?_
                    obtain ⟨e20, he, h⟩ := bindE h
                    refine rx_rd (v := .c (.imm [I e20.Prop_, I e20.Source, I e20.N, Sx e20.Token])) (foot := []) (rd_idx (enc := eGDecl) (sz := 4) (l := e14.Decls) (ix := v19) he (by kernel_rfl) (by kernel_rfl) (by kernel_rfl)) (by kernel_rfl) rfl rfl ?_
                    clear he
                    refine zk 3 ?_
                    refine ze [4, 6, 13, 14, 15, 74, 75, 76] ?_
                    refine zx fun _ => ?_
                    refine zk 3 ?_
                    obtain ⟨y21, he, h⟩ := bindE h
                    refine rx_call (F := 30) (As := [.agg [I e20.Prop_, I e20.Source, I e20.N, Sx e20.Token], .c (I e14.States)]) (Bs := [.agg [I e20.Prop_, I e20.Source, I e20.N, Sx e20.Token], .c (I e14.States)]) (r := .c (I y21)) (v := .c (I y21)) (by kernel_rfl) fok30 (by kernel_rfl) (style_declaration_ok n _ _ y21 he) (by kernel_rfl) (by kernel_rfl) rfl rfl ?_
                    clear he
                    refine zk 1 ?_
                    refine ze [4, 7, 13, 14, 15, 74, 75, 76] ?_
                    refine za [4, 7, 13, 14, 15, 74, 75, 76, 85] ?_
                    refine aw_ite (t := (y21 != 0)) (by kernel_rfl) h (fun h => ?_) (fun h => ?_)
                    · refine za [2] ?_
                      have h := Option.some.inj h
                      subst h
                      exact aw_ret (fin_pub (A := .c (I y21)) (.inl rfl) (by kernel_rfl) (by kernel_rfl) (by kernel_rfl))
                    · refine aw_skip ?_
                      refine aw_out ?_
                      refine zb ?_
                      exact via (zv [(0, 0)] [13, 14, 15, 4, 74, 75, 76] 1) (⟨_, h, rfl⟩)
                  · exact aw_views (zv [] [13, 14, 15] 0) (aw_exit (hj13 _ h))
      · exact aw_views (zv [] [] 0) (aw_exit (hj1 _ h))
def theme_color  (n : Nat) (p0 : Int) : Option Bool := some ((decide (p0 ≥ 0)) && (decide (p0 ≤ 16777215)))
theorem theme_color_ok  (n : Nat) (p0 : Int) (r : Bool) (h : theme_color n p0 = some r) : FnD E 51 0 [.c (I p0)] [] (.c (Bo r)) [] := by
  refine zfn Tryd.func51 rfl ?_
  unfold theme_color at h
  refine za [0] ?_
  refine zx fun _ => ?_
  refine zk 3 ?_
  refine zE (.c (I p0)) ?_
  refine zE (.c (Bo (decide (p0 ≤ 16777215)))) ?_
  refine zP (.bool ((decide (p0 ≥ 0)) && (decide (p0 ≤ 16777215)))) ?_
  refine zk 1 ?_
  refine ze [2] ?_
  have h := Option.some.inj h
  subst h
  exact aw_ret (fin_pub (A := .c (Bo ((decide (p0 ≥ 0)) && (decide (p0 ≤ 16777215))))) (.inl rfl) (by kernel_rfl) (by kernel_rfl) (by kernel_rfl))
def theme_Validate_L1 (e15 : GToken) (j14 : List (ByteArray × Bool) → Option Int) (v13 : List (ByteArray × Bool)) (p0 : GTheme) (v12 : Int) : Nat → Int → Option Int
  | 0, _ => none
  | n + 1, v19 => (if (decide (v19 < 4)) = true then (idx (A4_Int.toL (A4_Int.mk e15.Light e15.Dark e15.HighLight e15.HighDark)) v19).bind fun (e20 : Int) => (gd [(e20 != (-1 : Int))] (theme_color n e20)).bind fun (y21 : Bool) => (if ((e20 != (-1 : Int)) && (!y21)) = true then some 1 else theme_Validate_L1 e15 j14 v13 p0 v12 n (IntKind.wrap .i64 (v19 + 1))) else j14 (mput e15.Name true v13))
def theme_Validate_L0 (p0 : GTheme) (j1 : Unit → Option Int) : Nat → Int → List (ByteArray × Bool) → Option Int
  | 0, _, _ => none
  | n + 1, v12, v13 => (if (decide (v12 < (List.length p0.Tokens : Int))) = true then (withJ (fun (v23 : List (ByteArray × Bool)) => theme_Validate_L0 p0 j1 n (IntKind.wrap .i64 (v12 + 1)) v23) (fun (j14 : List (ByteArray × Bool) → Option Int) => (idx p0.Tokens v12).bind fun (e15 : GToken) => (expr_Name n e15.Name).bind fun (y16 : Bool) => (if (!y16) = true then some 4 else (some (mget e15.Name v13, mhas e15.Name v13)).bind fun (y17 : (Bool × Bool)) => (if y17.1 = true then some 6 else theme_Validate_L1 e15 j14 v13 p0 v12 n 0)))) else j1 ())
def theme_Validate  (n : Nat) (p0 : GTheme) : Option Int := (if (decide ((List.length p0.Tokens : Int) > 100)) = true then some 2 else (withJ (fun (_ : Unit) => some 0) (fun (j1 : Unit → Option Int) => theme_Validate_L0 p0 j1 n 0 ([] : List (ByteArray × Bool)))))
theorem theme_Validate_ok  (n : Nat) (p0 : GTheme) (r : Int) (h : theme_Validate n p0 = some r) : FnD E 36 0 [.agg [.lit (List.map eGToken p0.Tokens)]] [] (.c (I r)) [] := by
  refine zfn Tryd.func36 rfl ?_
  unfold theme_Validate at h
  refine za [1] ?_
  refine aw_seq ?_
  refine zx fun _ => ?_
  refine zk 2 ?_
  refine rx_rd (v := .c (I (List.length p0.Tokens : Int))) (foot := []) (rd_len (enc := eGToken) (l := p0.Tokens) (by kernel_rfl)) (by kernel_rfl) rfl rfl ?_
  refine zk 1 ?_
  refine ze [1, 11] ?_
  refine aw_ite (t := (decide ((List.length p0.Tokens : Int) > 100))) (by kernel_rfl) h (fun h => ?_) (fun h => ?_)
  · refine za [2] ?_
    have h := Option.some.inj h
    subst h
    exact aw_ret (fin_pub (A := .c (I 2)) (.inl rfl) (by kernel_rfl) (by kernel_rfl) (by kernel_rfl))
  · refine aw_skip ?_
    refine za [1, 3] ?_
    refine aw_join h (fun A j => ∀ (u : Unit), j u = some r → A (mk [] [] 0)) (fun u h => ?_) (fun j1 Aj1 hj1 h => ?_)
    · refine za [2] ?_
      have h := Option.some.inj h
      subst h
      exact aw_ret (fin_pub (A := .c (I 0)) (.inl rfl) (by kernel_rfl) (by kernel_rfl) (by kernel_rfl))
    · refine zx fun _ => ?_
      refine zk 2 ?_
      refine rx_rd (v := .c (I (List.length p0.Tokens : Int))) (foot := []) (rd_len (enc := eGToken) (l := p0.Tokens) (by kernel_rfl)) (by kernel_rfl) rfl rfl ?_
      refine zk 1 ?_
      refine ze [3, 14, 15, 16] ?_
      refine aw_block ?_
      refine aw_loopJ (fun n s => ∃ (v12 : Int) (v13 : List (ByteArray × Bool)), theme_Validate_L0 p0 j1 n v12 v13 = some r ∧ s = mk [(3, .c (.mapr 0)), (14, .c (.lit (List.map eGToken p0.Tokens))), (15, .c (I (List.length p0.Tokens : Int))), (16, .c (I v12))] [(0, .map false (List.map (eM Value.string eB) v13))] 1) n _ (zv [(6, 0)] [3, 14, 15, 16] 1) ⟨_, _, h, rfl⟩ (fun s ⟨v12, v13, h, _⟩ => nomatch h) ?_
      rintro n s ⟨v12, v13, h, rfl⟩
      rw [theme_Validate_L0] at h
      refine za [3, 14, 15, 16, 17] ?_
      refine aw_seq ?_
      refine aw_ite (t := (decide (v12 < (List.length p0.Tokens : Int)))) (by kernel_rfl) h (fun h => ?_) (fun h => ?_)
      · refine aw_skip ?_
        refine aw_join h (fun A j => ∀ (v23 : List (ByteArray × Bool)), j v23 = some r → A (mk [(3, .c (.mapr 0)), (14, .c (.lit (List.map eGToken p0.Tokens))), (15, .c (I (List.length p0.Tokens : Int))), (16, .c (I v12))] [(0, .map false (List.map (eM Value.string eB) v23))] 1)) (fun v23 h => ?_) (fun j14 Aj14 hj14 h => ?_)
        · refine aw_out ?_
          refine zb ?_
          exact via (zv [(0, 0)] [3, 14, 15, 16] 1) (⟨_, _, h, rfl⟩)
        · refine aw_block ?_
          refine zx fun _ => ?_
          obtain ⟨e15, he, h⟩ := bindE h
          refine rx_rd (v := .c (.imm [Sx e15.Name, I e15.Light, I e15.Dark, I e15.HighLight, I e15.HighDark])) (foot := []) (rd_idx (enc := eGToken) (sz := 5) (l := p0.Tokens) (ix := v12) he (by kernel_rfl) (by kernel_rfl) (by kernel_rfl)) (by kernel_rfl) rfl rfl ?_
          clear he
          refine zk 3 ?_
          refine ze [3, 5, 14, 15, 16] ?_
          refine aw_seq ?_
          refine aw_block ?_
          refine zx fun _ => ?_
          refine zk 2 ?_
          obtain ⟨y16, he, h⟩ := bindE h
          refine rx_call (F := 29) (As := [.c (Sx e15.Name)]) (Bs := [.c (Sx e15.Name)]) (r := .c (Bo y16)) (v := .c (Bo y16)) (by kernel_rfl) fok29 (by kernel_rfl) (expr_Name_ok n _ y16 he) (by kernel_rfl) (by kernel_rfl) rfl rfl ?_
          clear he
          refine zk 2 ?_
          refine ze [3, 5, 14, 15, 16, 20] ?_
          refine aw_ite (t := (!y16)) (by kernel_rfl) h (fun h => ?_) (fun h => ?_)
          · refine za [2] ?_
            have h := Option.some.inj h
            subst h
            exact aw_ret (fin_pub (A := .c (I 4)) (.inl rfl) (by kernel_rfl) (by kernel_rfl) (by kernel_rfl))
          · refine zx fun _ => ?_
            refine zk 3 ?_
            obtain ⟨y17, he, h⟩ := bindE h
            refine rx_W (v := .c (Bo y17.1)) (foot := [0]) (rdW_lookup (kf := Value.string) (enc := eB) (l := v13) (k := e15.Name) (ok := false) (kk := .str) (j := ⟨.boo, 1, 1, [.bool false]⟩) (p := y17) (v := .c (Bo y17.1)) he (by kernel_rfl) keyStr (by kernel_rfl) (by kernel_rfl) (by kernel_rfl)) (by kernel_rfl) rfl rfl ?_
            clear he
            refine zk 1 ?_
            refine ze [3, 5, 14, 15, 16, 25] ?_
            refine aw_ite (t := y17.1) (by kernel_rfl) h (fun h => ?_) (fun h => ?_)
            · refine za [2] ?_
              have h := Option.some.inj h
              subst h
              exact aw_ret (fin_pub (A := .c (I 6)) (.inl rfl) (by kernel_rfl) (by kernel_rfl) (by kernel_rfl))
            · refine aw_skip ?_
              refine zx fun _ => ?_
              refine zk 3 ?_
              refine rx_mapset (kf := Value.string) (enc := eB) (l := v13) (k := e15.Name) (v := true) (n := 0) (ag := false) (kk := .str) (by kernel_rfl) keyStr (by kernel_rfl) (by kernel_rfl) rfl rfl ?_
              refine zee [3, 5, 14, 15, 16] (L2 := [(3, .c (.mapr 0)), (14, .c (.lit (List.map eGToken p0.Tokens))), (15, .c (I (List.length p0.Tokens : Int))), (16, .c (I v12)), (5, .c (.ptr 4 0))]) (G2 := [(0, .map false (List.map (eM Value.string eB) (mput e15.Name true v13))), (4, .blk 118 [Sx e15.Name, I e15.Light, I e15.Dark, I e15.HighLight, I e15.HighDark])]) 20 ?_
              refine za [3, 14, 15, 16, 41, 42] ?_
              refine aw_block ?_
              refine aw_loopJ (fun n s => ∃ (v19 : Int), theme_Validate_L1 e15 j14 v13 p0 v12 n v19 = some r ∧ s = mk [(3, .c (.mapr 0)), (14, .c (.lit (List.map eGToken p0.Tokens))), (15, .c (I (List.length p0.Tokens : Int))), (16, .c (I v12)), (41, .agg [I e15.Light, I e15.Dark, I e15.HighLight, I e15.HighDark]), (42, .c (I v19))] [(0, .map false (List.map (eM Value.string eB) (mput e15.Name true v13)))] 1) n _ (zv [(0, 0)] [3, 14, 15, 16, 41, 42] 1) ⟨_, h, rfl⟩ (fun s ⟨v19, h, _⟩ => nomatch h) ?_
              rintro n s ⟨v19, h, rfl⟩
              rw [theme_Validate_L1] at h
              refine za [3, 14, 15, 16, 41, 42, 43] ?_
              refine aw_seq ?_
              refine aw_ite (t := (decide (v19 < 4))) (by kernel_rfl) h (fun h => ?_) (fun h => ?_)
              · refine aw_skip ?_
                refine aw_seq ?_
                refine aw_block ?_
                refine zx fun _ => ?_
                obtain ⟨e20, he, h⟩ := bindE h
                refine rx_rd (v := .c (I e20)) (foot := []) (rd_idxG (enc := eI64) (xs := (A4_Int.toL (A4_Int.mk e15.Light e15.Dark e15.HighLight e15.HighDark))) (ix := v19) (e := e20) (len := 4) (j := ⟨.int .i64, 1, 8, [.int .i64 0]⟩) (v := .c (I e20)) he (by kernel_rfl) (by kernel_rfl) (fun x => by kernel_rfl) (by decide) (by kernel_rfl)) (by kernel_rfl) rfl rfl ?_
                clear he
                refine zk 1 ?_
                refine ze [3, 7, 14, 15, 16, 41, 42] ?_
                refine zx fun _ => ?_
                refine zk 3 ?_
                refine zE (.c (I e20)) ?_
                obtain ⟨y21, he, h⟩ := bindE h
                refine rx_Ecall (e := [(e20 != (-1 : Int))]) [(48, .c (I e20), some 1)] (F := 51) (As := [.c (I e20)]) (Bs := [.c (I e20)]) (r := .c (Bo y21)) (v := .c (Bo y21)) (by kernel_rfl) (by kernel_rfl) (by kernel_rfl) (by kernel_rfl) fok51 (by kernel_rfl) (fun hg => theme_color_ok n _ y21 (gd_spec he hg)) (by kernel_rfl) rfl rfl ?_
                clear he
                refine zE (.c (Bo (!y21))) ?_
                refine zP (.bool ((e20 != (-1 : Int)) && (!y21))) ?_
                refine ze [3, 14, 15, 16, 41, 42, 51] ?_
                refine aw_ite (t := ((e20 != (-1 : Int)) && (!y21))) (by kernel_rfl) h (fun h => ?_) (fun h => ?_)
                · refine za [2] ?_
                  have h := Option.some.inj h
                  subst h
                  exact aw_ret (fin_pub (A := .c (I 1)) (.inl rfl) (by kernel_rfl) (by kernel_rfl) (by kernel_rfl))
                · refine aw_skip ?_
                  refine aw_out ?_
                  refine zb ?_
                  exact via (zv [(0, 0)] [3, 14, 15, 16, 41, 42] 1) (⟨_, h, rfl⟩)
              · exact aw_views (zv [(0, 0)] [3, 14, 15, 16] 1) (aw_exit (hj14 _ h))
      · exact aw_views (zv [] [] 0) (aw_exit (hj1 _ h))
def view_preorder_L0 (y2 : (GNode × Bool)) (self_view_preorder : (List (Int × GNode)) → Int → Option (List Int)) (p0 : (List (Int × GNode))) (j1 : List Int → Option (List Int)) : Nat → List Int → Int → Option (List Int)
  | 0, _, _ => none
  | n + 1, v6, v7 => (if (decide (v7 < (List.length y2.1.Kids : Int))) = true then (idx y2.1.Kids v7).bind fun (e8 : Int) => (self_view_preorder p0 e8).bind fun (y9 : (List Int)) => (apd 8 v6 y9).bind fun (l10 : List Int) => view_preorder_L0 y2 self_view_preorder p0 j1 n l10 (IntKind.wrap .i64 (v7 + 1)) else j1 v6)
def view_preorder_body (self_view_preorder : (List (Int × GNode)) → Int → Option (List Int)) (n : Nat) (p0 : (List (Int × GNode))) (p1 : Int) : Option (List Int) := (withJ (fun (v13 : List Int) => some v13) (fun (j1 : List Int → Option (List Int)) => (some (mget p1 p0, mhas p1 p0)).bind fun (y2 : (GNode × Bool)) => view_preorder_L0 y2 self_view_preorder p0 j1 n [p1] 0))
theorem view_preorder_body_ok (self_view_preorder : (List (Int × GNode)) → Int → Option (List Int)) (ih_view_preorder : ∀ (p0 : (List (Int × GNode))) (p1 : Int) (r : (List Int)), self_view_preorder p0 p1 = some r → FnD E 58 0 [.c (.lmap true (List.map (eM (Value.int .i64) eGNode) p0)), .c (I p1)] [] (.c (.lit (List.map eI64 r))) []) (n : Nat) (p0 : (List (Int × GNode))) (p1 : Int) (r : (List Int)) (h : view_preorder_body self_view_preorder n p0 p1 = some r) : FnD E 58 0 [.c (.lmap true (List.map (eM (Value.int .i64) eGNode) p0)), .c (I p1)] [] (.c (.lit (List.map eI64 r))) [] := by
  refine zfn Tryd.func58 rfl ?_
  unfold view_preorder_body at h
  refine za [0, 1] ?_
  refine za [0, 1, 5] ?_
  refine aw_join h (fun A j => ∀ (v13 : List Int), j v13 = some r → A (mk [(5, .c (.app 0 (List.map eI64 v13)))] [(0, .tok 3 1 (List.length v13))] 1)) (fun v13 h => ?_) (fun j1 Aj1 hj1 h => ?_)
  · refine za [4] ?_
    have h := Option.some.inj h
    subst h
    exact aw_ret (fin_pub (A := .c (.app 0 (List.map eI64 v13))) (.inl rfl) (by kernel_rfl) (by kernel_rfl) (by kernel_rfl))
  · refine zx fun _ => ?_
    refine zk 2 ?_
    obtain ⟨y2, he, h⟩ := bindE h
    refine rx_W (v := .agg [I y2.1.ID, I y2.1.Parent, I y2.1.Kind, Sx y2.1.Key, .lit (List.map eGAttr y2.1.Attrs), .lit (List.map eGAction y2.1.Actions), .lit (List.map eI64 y2.1.Kids)]) (foot := []) (rdW_lookup (kf := (Value.int .i64)) (enc := eGNode) (l := p0) (k := p1) (ok := false) (kk := .int .i64) (j := ⟨.st [(3, 0, 1), (3, 1, 1), (3, 2, 1), (9, 3, 1), (61, 4, 1), (62, 5, 1), (37, 6, 1)], 7, 112, [.int .i64 0, .int .i64 0, .int .i64 0, .string ⟨#[]⟩, .slice none 0 0, .slice none 0 0, .slice none 0 0]⟩) (p := y2) (v := .agg [I y2.1.ID, I y2.1.Parent, I y2.1.Kind, Sx y2.1.Key, .lit (List.map eGAttr y2.1.Attrs), .lit (List.map eGAction y2.1.Actions), .lit (List.map eI64 y2.1.Kids)]) he (by kernel_rfl) keyInt (by kernel_rfl) (by kernel_rfl) (by kernel_rfl)) (by kernel_rfl) rfl rfl ?_
    clear he
    refine zk 1 ?_
    refine rx_rd (v := .c (I (List.length y2.1.Kids : Int))) (foot := []) (rd_len (enc := eI64) (l := y2.1.Kids) (by kernel_rfl)) (by kernel_rfl) rfl rfl ?_
    refine zk 1 ?_
    refine ze [0, 5, 13, 14, 15] ?_
    refine aw_block ?_
    refine aw_loopJ (fun n s => ∃ (v6 : List Int) (v7 : Int), view_preorder_L0 y2 self_view_preorder p0 j1 n v6 v7 = some r ∧ s = mk [(0, .c (.lmap true (List.map (eM (Value.int .i64) eGNode) p0))), (5, .c (.app 0 (List.map eI64 v6))), (13, .c (.lit (List.map eI64 y2.1.Kids))), (14, .c (I (List.length y2.1.Kids : Int))), (15, .c (I v7))] [(0, .tok 3 1 (List.length v6))] 1) n _ (zv [(2, 0)] [0, 5, 13, 14, 15] 1) ⟨_, _, h, rfl⟩ (fun s ⟨v6, v7, h, _⟩ => nomatch h) ?_
    rintro n s ⟨v6, v7, h, rfl⟩
    rw [view_preorder_L0] at h
    refine za [0, 5, 13, 14, 15, 16] ?_
    refine aw_seq ?_
    refine aw_ite (t := (decide (v7 < (List.length y2.1.Kids : Int)))) (by kernel_rfl) h (fun h => ?_) (fun h => ?_)
    · refine aw_skip ?_
      refine aw_seq ?_
      refine aw_block ?_
      refine zx fun _ => ?_
      obtain ⟨e8, he, h⟩ := bindE h
      refine rx_rd (v := .c (.imm [I e8])) (foot := []) (rd_idx (enc := eI64) (sz := 1) (l := y2.1.Kids) (ix := v7) he (by kernel_rfl) (by kernel_rfl) (by kernel_rfl)) (by kernel_rfl) rfl rfl ?_
      clear he
      refine zk 2 ?_
      refine ze [0, 5, 7, 13, 14, 15] ?_
      refine zy fun _ => ?_
      refine zk 3 ?_
      obtain ⟨y9, he, h⟩ := bindE h
      refine rx_call (F := 58) (As := [.c (.lmap true (List.map (eM (Value.int .i64) eGNode) p0)), .c (I e8)]) (Bs := [.c (.lmap true (List.map (eM (Value.int .i64) eGNode) p0)), .c (I e8)]) (r := .c (.lit (List.map eI64 y9))) (v := .c (.lit (List.map eI64 y9))) (by kernel_rfl) fok58 (by kernel_rfl) (ih_view_preorder _ _ y9 he) (by kernel_rfl) (by kernel_rfl) rfl rfl ?_
      clear he
      obtain ⟨l10, he, h⟩ := bindE h
      refine rx_append (enc := eI64) (l := v6) (els := y9) (r := l10) (old := some 0) (e := 3) (sz := 1) (bytes := 8) (k := (List.length v6)) (nm := 9) he (by kernel_rfl) (by kernel_rfl) (fun x => by kernel_rfl) (by kernel_rfl) (by kernel_rfl) rfl rfl rfl ?_
      clear he
      refine zk 1 ?_
      refine x_last ?_
      refine aw_out ?_
      refine zb ?_
      exact via (zv [(9, 0)] [0, 5, 13, 14, 15] 1) (⟨_, _, h, rfl⟩)
    · exact aw_views (zv [(0, 0)] [5] 1) (aw_exit (hj1 _ h))
def view_preorder : Nat → (List (Int × GNode)) → Int → Option (List Int)
  | 0, _, _ => none
  | n + 1, p0, p1 => view_preorder_body (fun a0 a1 => view_preorder n a0 a1) n p0 p1
theorem view_preorder_ok (n : Nat) : (∀ (p0 : (List (Int × GNode))) (p1 : Int) (r : (List Int)), view_preorder n p0 p1 = some r → FnD E 58 0 [.c (.lmap true (List.map (eM (Value.int .i64) eGNode) p0)), .c (I p1)] [] (.c (.lit (List.map eI64 r))) []) := by
  induction n with
  | zero => intro p0 p1 r h; rw [view_preorder] at h; cases h
  | succ n ih => intro p0 p1 r h; rw [view_preorder] at h; exact view_preorder_body_ok _ ih n _ _ r h
end Go.Proofs.YtojkihhnioeggaaDoor.S
