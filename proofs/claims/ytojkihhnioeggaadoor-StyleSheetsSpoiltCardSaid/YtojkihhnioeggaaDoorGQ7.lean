/- Functions, and that the program's are they. Printed by ext.py. -/
import Derived.Test.YtojkihhnioeggaaDoorGQ6
set_option linter.unusedVariables false
set_option linter.unusedSimpArgs false
set_option maxRecDepth 100000
set_option maxHeartbeats 4000000
namespace Go.Proofs.YtojkihhnioeggaaDoor.S
open Go Go.Bm
def view_validate_L1 (p0 : GView) (self_view_validate : GView → Int → Int → Option (Int × Int)) (p1 : Int) (j13 : Int → Option (Int × Int)) : Nat → Int → Int → Option (Int × Int)
  | 0, _, _ => none
  | n + 1, v16, v17 => (if (decide (v16 < (List.length p0.Kids : Int))) = true then (idx p0.Kids v16).bind fun (e18 : GView) => (self_view_validate e18 (IntKind.wrap .i64 (p1 + 1)) v17).bind fun (y19 : (Int × Int)) => (if (y19.1 != 0) = true then some (y19.1, y19.2) else view_validate_L1 p0 self_view_validate p1 j13 n (IntKind.wrap .i64 (v16 + 1)) y19.2) else j13 v17)
def view_validate_L0 (p0 : GView) (p2 : Int) (j4 : Unit → Option (Int × Int)) (p1 : Int) : Nat → Int → List (ByteArray × Bool) → Option (Int × Int)
  | 0, _, _ => none
  | n + 1, v7, v8 => (if (decide (v7 < (List.length p0.Kids : Int))) = true then (idx p0.Kids v7).bind fun (e9 : GView) => (gd [(!(sEq e9.Key (⟨#[]⟩ : ByteArray)))] (some (mget e9.Key v8, mhas e9.Key v8))).bind fun (y10 : (Bool × Bool)) => (if ((!(sEq e9.Key (⟨#[]⟩ : ByteArray))) && y10.1) = true then some (6, (IntKind.wrap .i64 (p2 + 1))) else view_validate_L0 p0 p2 j4 p1 n (IntKind.wrap .i64 (v7 + 1)) (mput e9.Key true v8)) else j4 ())
def view_validate_body (self_view_validate : GView → Int → Int → Option (Int × Int)) (n : Nat) (p0 : GView) (p1 : Int) (p2 : Int) : Option (Int × Int) := (if (decide (p1 > 16)) = true then some (8, (IntKind.wrap .i64 (p2 + 1))) else (if (decide ((IntKind.wrap .i64 (p2 + 1)) > 400)) = true then some (2, (IntKind.wrap .i64 (p2 + 1))) else (if ((decide (p0.Kind < 1)) || (decide (p0.Kind > 13))) = true then some (9, (IntKind.wrap .i64 (p2 + 1))) else (view_Key n p0.Key).bind fun (y1 : Bool) => (if (!y1) = true then some (4, (IntKind.wrap .i64 (p2 + 1))) else (if (((decide ((List.length p0.Attrs : Int) > 24)) || (decide ((List.length p0.Actions : Int) > 24))) || (decide ((List.length p0.Kids : Int) > 100))) = true then some (2, (IntKind.wrap .i64 (p2 + 1))) else (view_attributes n p0.Attrs).bind fun (y2 : Int) => (if (y2 != 0) = true then some (y2, (IntKind.wrap .i64 (p2 + 1))) else (view_actions n p0.Actions).bind fun (y3 : Int) => (if (y3 != 0) = true then some (y3, (IntKind.wrap .i64 (p2 + 1))) else (withJ (fun (_ : Unit) => (withJ (fun (v22 : Int) => some (0, v22)) (fun (j13 : Int → Option (Int × Int)) => view_validate_L1 p0 self_view_validate p1 j13 n 0 (IntKind.wrap .i64 (p2 + 1))))) (fun (j4 : Unit → Option (Int × Int)) => view_validate_L0 p0 p2 j4 p1 n 0 ([] : List (ByteArray × Bool)))))))))))
theorem view_validate_body_ok (self_view_validate : GView → Int → Int → Option (Int × Int)) (ih_view_validate : ∀ (p0 : GView) (p1 : Int) (p2 : Int) (r : (Int × Int)), self_view_validate p0 p1 p2 = some r → FnD E 85 1 [.agg [I p0.Kind, Sx p0.Key, .lit (List.map eGAttr p0.Attrs), .lit (List.map eGAction p0.Actions), .lit (List.map eGView p0.Kids)], .c (I p1), .c (.ptr 0 0)] [(0, .blk 3 [I p2])] (.c (I r.1)) [(0, .blk 3 [I r.2])]) (n : Nat) (p0 : GView) (p1 : Int) (p2 : Int) (r : (Int × Int)) (h : view_validate_body self_view_validate n p0 p1 p2 = some r) : FnD E 85 1 [.agg [I p0.Kind, Sx p0.Key, .lit (List.map eGAttr p0.Attrs), .lit (List.map eGAction p0.Actions), .lit (List.map eGView p0.Kids)], .c (I p1), .c (.ptr 0 0)] [(0, .blk 3 [I p2])] (.c (I r.1)) [(0, .blk 3 [I r.2])] := by
  refine zfn Tryd.func85 rfl ?_
  unfold view_validate_body at h
  refine za [1, 2, 3] ?_
  refine za [1, 2, 3] ?_
  refine aw_seq ?_
  refine aw_block ?_
  refine za [1, 2, 3, 20] ?_
  refine aw_ite (t := (decide (p1 > 16))) (by kernel_rfl) h (fun h => ?_) (fun h => ?_)
  · refine za [6] ?_
    have h := Option.some.inj h
    subst h
    exact aw_ret (fin_pub (A := .c (I 8)) (.inl rfl) (by kernel_rfl) (by kernel_rfl) (by kernel_rfl))
  · refine za [1, 2, 3, 23] ?_
    refine aw_ite (t := (decide ((IntKind.wrap .i64 (p2 + 1)) > 400))) (by kernel_rfl) h (fun h => ?_) (fun h => ?_)
    · refine za [6] ?_
      have h := Option.some.inj h
      subst h
      exact aw_ret (fin_pub (A := .c (I 2)) (.inl rfl) (by kernel_rfl) (by kernel_rfl) (by kernel_rfl))
    · refine zx fun _ => ?_
      refine zk 4 ?_
      refine zE (.c (.ptr 1 0)) ?_
      refine zE (.c (I p0.Kind)) ?_
      refine zE (.c (Bo (decide (p0.Kind > 13)))) ?_
      refine zP (.bool ((decide (p0.Kind < 1)) || (decide (p0.Kind > 13)))) ?_
      refine zk 1 ?_
      refine zee [1, 2, 3, 28] (L2 := [(1, .c (I p1)), (2, .c (.ptr 0 0)), (3, .c (.ptr 1 0)), (28, .c (Bo ((decide (p0.Kind < 1)) || (decide (p0.Kind > 13)))))]) (G2 := [(0, .blk 3 [I (IntKind.wrap .i64 (p2 + 1))]), (1, .blk 75 [I p0.Kind, Sx p0.Key, .lit (List.map eGAttr p0.Attrs), .lit (List.map eGAction p0.Actions), .lit (List.map eGView p0.Kids)])]) 26 ?_
      refine aw_ite (t := ((decide (p0.Kind < 1)) || (decide (p0.Kind > 13)))) (by kernel_rfl) h (fun h => ?_) (fun h => ?_)
      · refine za [6] ?_
        have h := Option.some.inj h
        subst h
        exact aw_ret (fin_pub (A := .c (I 9)) (.inl rfl) (by kernel_rfl) (by kernel_rfl) (by kernel_rfl))
      · refine zx fun _ => ?_
        refine zk 2 ?_
        obtain ⟨y1, he, h⟩ := bindE h
        refine rx_call (F := 92) (As := [.c (Sx p0.Key)]) (Bs := [.c (Sx p0.Key)]) (r := .c (Bo y1)) (v := .c (Bo y1)) (by kernel_rfl) fok92 (by kernel_rfl) (view_Key_ok n _ y1 he) (by kernel_rfl) (by kernel_rfl) rfl rfl ?_
        clear he
        refine zk 2 ?_
        refine ze [1, 2, 3, 37] ?_
        refine aw_ite (t := (!y1)) (by kernel_rfl) h (fun h => ?_) (fun h => ?_)
        · refine za [6] ?_
          have h := Option.some.inj h
          subst h
          exact aw_ret (fin_pub (A := .c (I 4)) (.inl rfl) (by kernel_rfl) (by kernel_rfl) (by kernel_rfl))
        · refine zx fun _ => ?_
          refine zk 2 ?_
          refine rx_rd (v := .c (I (List.length p0.Attrs : Int))) (foot := []) (rd_len (enc := eGAttr) (l := p0.Attrs) (by kernel_rfl)) (by kernel_rfl) rfl rfl ?_
          refine zk 2 ?_
          refine zE (.c (.ptr 1 3)) ?_
          refine zE (.c (.lit (List.map eGAction p0.Actions))) ?_
          refine rx_E (e := [(!(decide ((List.length p0.Attrs : Int) > 24)))]) [(49, .c (.lit (List.map eGAction p0.Actions)), some 1)] (v := .c (I (List.length p0.Actions : Int))) (foot := []) (by kernel_rfl) (by kernel_rfl) (by kernel_rfl) (fun hg => rd_len (enc := eGAction) (l := p0.Actions) (by kernel_rfl)) rfl rfl ?_
          refine zE (.c (Bo (decide ((List.length p0.Actions : Int) > 24)))) ?_
          refine zP (.bool ((decide ((List.length p0.Attrs : Int) > 24)) || (decide ((List.length p0.Actions : Int) > 24)))) ?_
          refine zk 1 ?_
          refine zE (.c (.ptr 1 4)) ?_
          refine zE (.c (.lit (List.map eGView p0.Kids))) ?_
          refine rx_E (e := [(!((decide ((List.length p0.Attrs : Int) > 24)) || (decide ((List.length p0.Actions : Int) > 24))))]) [(55, .c (.lit (List.map eGView p0.Kids)), some 1)] (v := .c (I (List.length p0.Kids : Int))) (foot := []) (by kernel_rfl) (by kernel_rfl) (by kernel_rfl) (fun hg => rd_len (enc := eGView) (l := p0.Kids) (by kernel_rfl)) rfl rfl ?_
          refine zE (.c (Bo (decide ((List.length p0.Kids : Int) > 100)))) ?_
          refine zP (.bool (((decide ((List.length p0.Attrs : Int) > 24)) || (decide ((List.length p0.Actions : Int) > 24))) || (decide ((List.length p0.Kids : Int) > 100)))) ?_
          refine zk 1 ?_
          refine zee [1, 2, 3, 42] (L2 := [(1, .c (I p1)), (2, .c (.ptr 0 0)), (3, .c (.ptr 1 0)), (42, .c (Bo (((decide ((List.length p0.Attrs : Int) > 24)) || (decide ((List.length p0.Actions : Int) > 24))) || (decide ((List.length p0.Kids : Int) > 100)))))]) (G2 := [(0, .blk 3 [I (IntKind.wrap .i64 (p2 + 1))]), (1, .blk 75 [I p0.Kind, Sx p0.Key, .lit (List.map eGAttr p0.Attrs), .lit (List.map eGAction p0.Actions), .lit (List.map eGView p0.Kids)])]) 48 ?_
          refine aw_ite (t := (((decide ((List.length p0.Attrs : Int) > 24)) || (decide ((List.length p0.Actions : Int) > 24))) || (decide ((List.length p0.Kids : Int) > 100)))) (by kernel_rfl) h (fun h => ?_) (fun h => ?_)
          · refine za [6] ?_
            have h := Option.some.inj h
            subst h
            exact aw_ret (fin_pub (A := .c (I 2)) (.inl rfl) (by kernel_rfl) (by kernel_rfl) (by kernel_rfl))
          · refine aw_skip ?_
            refine aw_seq ?_
            refine zx fun _ => ?_
            refine zk 2 ?_
            obtain ⟨y2, he, h⟩ := bindE h
            refine rx_call (F := 93) (As := [.c (.lit (List.map eGAttr p0.Attrs))]) (Bs := [.c (.lit (List.map eGAttr p0.Attrs))]) (r := .c (I y2)) (v := .c (I y2)) (by kernel_rfl) fok93 (by kernel_rfl) (view_attributes_ok n _ y2 he) (by kernel_rfl) (by kernel_rfl) rfl rfl ?_
            clear he
            refine zk 1 ?_
            refine ze [1, 2, 3, 7] ?_
            refine za [1, 2, 3, 7, 63] ?_
            refine aw_ite (t := (y2 != 0)) (by kernel_rfl) h (fun h => ?_) (fun h => ?_)
            · refine za [6] ?_
              have h := Option.some.inj h
              subst h
              exact aw_ret (fin_pub (A := .c (I y2)) (.inl rfl) (by kernel_rfl) (by kernel_rfl) (by kernel_rfl))
            · refine aw_skip ?_
              refine aw_seq ?_
              refine zx fun _ => ?_
              refine zk 2 ?_
              obtain ⟨y3, he, h⟩ := bindE h
              refine rx_call (F := 94) (As := [.c (.lit (List.map eGAction p0.Actions))]) (Bs := [.c (.lit (List.map eGAction p0.Actions))]) (r := .c (I y3)) (v := .c (I y3)) (by kernel_rfl) fok94 (by kernel_rfl) (view_actions_ok n _ y3 he) (by kernel_rfl) (by kernel_rfl) rfl rfl ?_
              clear he
              refine zk 1 ?_
              refine ze [1, 2, 3, 8] ?_
              refine za [1, 2, 3, 8, 69] ?_
              refine aw_ite (t := (y3 != 0)) (by kernel_rfl) h (fun h => ?_) (fun h => ?_)
              · refine za [6] ?_
                have h := Option.some.inj h
                subst h
                exact aw_ret (fin_pub (A := .c (I y3)) (.inl rfl) (by kernel_rfl) (by kernel_rfl) (by kernel_rfl))
              · refine aw_skip ?_
                refine za [1, 2, 3, 9] ?_
                refine aw_join h (fun A j => ∀ (u : Unit), j u = some r → A (mk [(1, .c (I p1)), (2, .c (.ptr 0 0)), (3, .c (.ptr 1 0))] [(0, .blk 3 [I (IntKind.wrap .i64 (p2 + 1))]), (1, .blk 75 [I p0.Kind, Sx p0.Key, .lit (List.map eGAttr p0.Attrs), .lit (List.map eGAction p0.Actions), .lit (List.map eGView p0.Kids)])] 2)) (fun u h => ?_) (fun j4 Aj4 hj4 h => ?_)
                · refine aw_join h (fun A j => ∀ (v22 : Int), j v22 = some r → A (mk [] [(0, .blk 3 [I v22])] 1)) (fun v22 h => ?_) (fun j13 Aj13 hj13 h => ?_)
                  · refine za [6] ?_
                    have h := Option.some.inj h
                    subst h
                    exact aw_ret (fin_pub (A := .c (I 0)) (.inl rfl) (by kernel_rfl) (by kernel_rfl) (by kernel_rfl))
                  · refine zx fun _ => ?_
                    refine zk 2 ?_
                    refine rx_rd (v := .c (I (List.length p0.Kids : Int))) (foot := []) (rd_len (enc := eGView) (l := p0.Kids) (by kernel_rfl)) (by kernel_rfl) rfl rfl ?_
                    refine zk 1 ?_
                    refine ze [1, 2, 93, 94, 95] ?_
                    refine aw_block ?_
                    refine aw_loopJ (fun n s => ∃ (v16 : Int) (v17 : Int), view_validate_L1 p0 self_view_validate p1 j13 n v16 v17 = some r ∧ s = mk [(1, .c (I p1)), (2, .c (.ptr 0 0)), (93, .c (.lit (List.map eGView p0.Kids))), (94, .c (I (List.length p0.Kids : Int))), (95, .c (I v16))] [(0, .blk 3 [I v17])] 1) n _ (zv [(0, 0)] [1, 2, 93, 94, 95] 1) ⟨_, _, h, rfl⟩ (fun s ⟨v16, v17, h, _⟩ => nomatch h) ?_
                    rintro n s ⟨v16, v17, h, rfl⟩
                    rw [view_validate_L1] at h
                    refine za [1, 2, 93, 94, 95, 96] ?_
                    refine aw_seq ?_
                    refine aw_ite (t := (decide (v16 < (List.length p0.Kids : Int)))) (by kernel_rfl) h (fun h => ?_) (fun h => ?_)
                    · refine aw_skip ?_
                      refine aw_seq ?_
                      refine aw_block ?_
                      refine zx fun _ => ?_
                      obtain ⟨e18, he, h⟩ := bindE h
                      refine rx_rd (v := .c (.imm [I e18.Kind, Sx e18.Key, .lit (List.map eGAttr e18.Attrs), .lit (List.map eGAction e18.Actions), .lit (List.map eGView e18.Kids)])) (foot := []) (rd_idx (enc := eGView) (sz := 5) (l := p0.Kids) (ix := v16) he (by kernel_rfl) (eGView_eq e18) (by kernel_rfl)) (by kernel_rfl) rfl rfl ?_
                      clear he
                      refine zk 3 ?_
                      refine ze [1, 2, 13, 93, 94, 95] ?_
                      refine zx fun _ => ?_
                      refine zk 4 ?_
                      obtain ⟨y19, he, h⟩ := bindE h
                      refine rx_callO (F := 85) (As := [.agg [I e18.Kind, Sx e18.Key, .lit (List.map eGAttr e18.Attrs), .lit (List.map eGAction e18.Actions), .lit (List.map eGView e18.Kids)], .c (I (IntKind.wrap .i64 (p1 + 1))), .c (.ptr 0 0)]) (Bs := [.agg [I e18.Kind, Sx e18.Key, .lit (List.map eGAttr e18.Attrs), .lit (List.map eGAction e18.Actions), .lit (List.map eGView e18.Kids)], .c (I (IntKind.wrap .i64 (p1 + 1))), .c (.ptr 0 0)]) (σ := [(0, 0)]) (k := 1) (Gc := [(0, .blk 3 [I v17])]) (Gf := [(0, .blk 3 [I y19.2])]) (r := .c (I y19.1)) (v := .c (I y19.1)) (by kernel_rfl) fok85 ⟨.inl (by kernel_rfl), ⟨.inl (by kernel_rfl), ⟨.inr ⟨(by kernel_rfl), (by kernel_rfl)⟩, trivial⟩⟩⟩ (ih_view_validate _ _ _ y19 he) (by kernel_rfl) (by kernel_rfl) (by kernel_rfl) (by kernel_rfl) rfl rfl rfl ?_
                      clear he
                      refine zk 1 ?_
                      refine ze [1, 2, 14, 93, 94, 95] ?_
                      refine za [1, 2, 14, 93, 94, 95, 105] ?_
                      refine aw_ite (t := (y19.1 != 0)) (by kernel_rfl) h (fun h => ?_) (fun h => ?_)
                      · refine za [6] ?_
                        have h := Option.some.inj h
                        subst h
                        exact aw_ret (fin_pub (A := .c (I y19.1)) (.inl rfl) (by kernel_rfl) (by kernel_rfl) (by kernel_rfl))
                      · refine aw_skip ?_
                        refine aw_out ?_
                        refine zb ?_
                        exact via (zv [(0, 0)] [1, 2, 93, 94, 95] 1) (⟨_, _, h, rfl⟩)
                    · exact aw_views (zv [(0, 0)] [] 1) (aw_exit (hj13 _ h))
                · refine zx fun _ => ?_
                  refine zk 2 ?_
                  refine rx_rd (v := .c (I (List.length p0.Kids : Int))) (foot := []) (rd_len (enc := eGView) (l := p0.Kids) (by kernel_rfl)) (by kernel_rfl) rfl rfl ?_
                  refine zk 1 ?_
                  refine zee [1, 2, 3, 9, 73, 74, 75] (L2 := [(1, .c (I p1)), (2, .c (.ptr 0 0)), (3, .c (.ptr 1 0)), (9, .c (.mapr 60)), (73, .c (.lit (List.map eGView p0.Kids))), (74, .c (I (List.length p0.Kids : Int))), (75, .c (I 0))]) (G2 := [(0, .blk 3 [I (IntKind.wrap .i64 (p2 + 1))]), (1, .blk 75 [I p0.Kind, Sx p0.Key, .lit (List.map eGAttr p0.Attrs), .lit (List.map eGAction p0.Actions), .lit (List.map eGView p0.Kids)]), (60, .map false (List.map (eM Value.string eB) ([] : List (ByteArray × Bool))))]) 66 ?_
                  refine aw_block ?_
                  refine aw_loopJ (fun n s => ∃ (v7 : Int) (v8 : List (ByteArray × Bool)), view_validate_L0 p0 p2 j4 p1 n v7 v8 = some r ∧ s = mk [(1, .c (I p1)), (2, .c (.ptr 0 0)), (3, .c (.ptr 1 0)), (9, .c (.mapr 2)), (73, .c (.lit (List.map eGView p0.Kids))), (74, .c (I (List.length p0.Kids : Int))), (75, .c (I v7))] [(0, .blk 3 [I (IntKind.wrap .i64 (p2 + 1))]), (1, .blk 75 [I p0.Kind, Sx p0.Key, .lit (List.map eGAttr p0.Attrs), .lit (List.map eGAction p0.Actions), .lit (List.map eGView p0.Kids)]), (2, .map false (List.map (eM Value.string eB) v8))] 3) n _ (zv [(0, 0), (1, 1), (60, 2)] [1, 2, 3, 9, 73, 74, 75] 3) ⟨_, _, h, rfl⟩ (fun s ⟨v7, v8, h, _⟩ => nomatch h) ?_
                  rintro n s ⟨v7, v8, h, rfl⟩
                  rw [view_validate_L0] at h
                  refine za [1, 2, 3, 9, 73, 74, 75, 76] ?_
                  refine aw_seq ?_
                  refine aw_ite (t := (decide (v7 < (List.length p0.Kids : Int)))) (by kernel_rfl) h (fun h => ?_) (fun h => ?_)
                  · refine aw_skip ?_
                    refine aw_seq ?_
                    refine aw_block ?_
                    refine zx fun _ => ?_
                    obtain ⟨e9, he, h⟩ := bindE h
                    refine rx_rd (v := .c (.imm [I e9.Kind, Sx e9.Key, .lit (List.map eGAttr e9.Attrs), .lit (List.map eGAction e9.Actions), .lit (List.map eGView e9.Kids)])) (foot := []) (rd_idx (enc := eGView) (sz := 5) (l := p0.Kids) (ix := v7) he (by kernel_rfl) (eGView_eq e9) (by kernel_rfl)) (by kernel_rfl) rfl rfl ?_
                    clear he
                    refine zk 3 ?_
                    refine ze [1, 2, 3, 9, 11, 73, 74, 75] ?_
                    refine aw_seq ?_
                    refine zx fun _ => ?_
                    refine zk 4 ?_
                    refine zE (.c (.mapr 2)) ?_
                    refine zE (.c (.ptr 6 1)) ?_
                    refine zE (.c (Sx e9.Key)) ?_
                    obtain ⟨y10, he, h⟩ := bindE h
                    refine rx_EW (e := [(!(sEq e9.Key (⟨#[]⟩ : ByteArray)))]) [(83, .c (.mapr 2), some 1), (85, .c (Sx e9.Key), some 1)] (v := .c (Bo y10.1)) (foot := [2]) (by kernel_rfl) (by kernel_rfl) (by kernel_rfl) (fun hg => rdW_lookup (kf := Value.string) (enc := eB) (l := v8) (k := e9.Key) (ok := false) (kk := .str) (j := ⟨.boo, 1, 1, [.bool false]⟩) (p := y10) (v := .c (Bo y10.1)) (gd_spec he hg) (by kernel_rfl) keyStr (by kernel_rfl) (by kernel_rfl) (by kernel_rfl)) rfl rfl ?_
                    clear he
                    refine zP (.bool ((!(sEq e9.Key (⟨#[]⟩ : ByteArray))) && y10.1)) ?_
                    refine ze [1, 2, 3, 9, 11, 73, 74, 75, 87] ?_
                    refine aw_ite (t := ((!(sEq e9.Key (⟨#[]⟩ : ByteArray))) && y10.1)) (by kernel_rfl) h (fun h => ?_) (fun h => ?_)
                    · refine za [6] ?_
                      have h := Option.some.inj h
                      subst h
                      exact aw_ret (fin_pub (A := .c (I 6)) (.inl rfl) (by kernel_rfl) (by kernel_rfl) (by kernel_rfl))
                    · refine aw_skip ?_
                      refine zy fun _ => ?_
                      refine zk 3 ?_
                      refine rx_mapset (kf := Value.string) (enc := eB) (l := v8) (k := e9.Key) (v := true) (n := 2) (ag := false) (kk := .str) (by kernel_rfl) keyStr (by kernel_rfl) (by kernel_rfl) rfl rfl ?_
                      refine x_last ?_
                      refine aw_out ?_
                      refine zb ?_
                      exact via (zv [(0, 0), (1, 1), (2, 2)] [1, 2, 3, 9, 73, 74, 75] 3) (⟨_, _, h, rfl⟩)
                  · exact aw_views (zv [(0, 0), (1, 1)] [1, 2, 3] 2) (aw_exit (hj4 _ h))
def view_validate : Nat → GView → Int → Int → Option (Int × Int)
  | 0, _, _, _ => none
  | n + 1, p0, p1, p2 => view_validate_body (fun a0 a1 a2 => view_validate n a0 a1 a2) n p0 p1 p2
theorem view_validate_ok (n : Nat) : (∀ (p0 : GView) (p1 : Int) (p2 : Int) (r : (Int × Int)), view_validate n p0 p1 p2 = some r → FnD E 85 1 [.agg [I p0.Kind, Sx p0.Key, .lit (List.map eGAttr p0.Attrs), .lit (List.map eGAction p0.Actions), .lit (List.map eGView p0.Kids)], .c (I p1), .c (.ptr 0 0)] [(0, .blk 3 [I p2])] (.c (I r.1)) [(0, .blk 3 [I r.2])]) := by
  induction n with
  | zero => intro p0 p1 p2 r h; rw [view_validate] at h; cases h
  | succ n ih => intro p0 p1 p2 r h; rw [view_validate] at h; exact view_validate_body_ok _ ih n _ _ _ r h
def view_Validate  (n : Nat) (p0 : GView) : Option Int := (view_validate n p0 1 0).bind fun (y1 : (Int × Int)) => some y1.1
theorem view_Validate_ok  (n : Nat) (p0 : GView) (r : Int) (h : view_Validate n p0 = some r) : FnD E 66 0 [.agg [I p0.Kind, Sx p0.Key, .lit (List.map eGAttr p0.Attrs), .lit (List.map eGAction p0.Actions), .lit (List.map eGView p0.Kids)]] [] (.c (I r)) [] := by
  refine zfn Tryd.func66 rfl ?_
  unfold view_Validate at h
  refine za [1] ?_
  refine za [1, 3] ?_
  refine zx fun _ => ?_
  refine zk 1 ?_
  obtain ⟨y1, he, h⟩ := bindE h
  refine rx_callO (F := 85) (As := [.agg [I p0.Kind, Sx p0.Key, .lit (List.map eGAttr p0.Attrs), .lit (List.map eGAction p0.Actions), .lit (List.map eGView p0.Kids)], .c (I 1), .c (.ptr 2 0)]) (Bs := [.agg [I p0.Kind, Sx p0.Key, .lit (List.map eGAttr p0.Attrs), .lit (List.map eGAction p0.Actions), .lit (List.map eGView p0.Kids)], .c (I 1), .c (.ptr 0 0)]) (σ := [(0, 2)]) (k := 1) (Gc := [(0, .blk 3 [I 0])]) (Gf := [(0, .blk 3 [I y1.2])]) (r := .c (I y1.1)) (v := .c (I y1.1)) (by kernel_rfl) fok85 ⟨.inl (by kernel_rfl), ⟨.inl (by kernel_rfl), ⟨.inr ⟨(by kernel_rfl), (by kernel_rfl)⟩, trivial⟩⟩⟩ (view_validate_ok n _ _ _ y1 he) (by kernel_rfl) (by kernel_rfl) (by kernel_rfl) (by kernel_rfl) rfl rfl rfl ?_
  clear he
  refine zk 1 ?_
  refine ze [2] ?_
  have h := Option.some.inj h
  subst h
  exact aw_ret (fin_pub (A := .c (I y1.1)) (.inl rfl) (by kernel_rfl) (by kernel_rfl) (by kernel_rfl))
def view_examine  (n : Nat) (p0 : GTree) : Option ((List (Int × GNode)) × GView × Int) := (view_graph n p0).bind fun (y1 : ((List (Int × GNode)) × Bool)) => (if (!y1.2) = true then some (([] : List (Int × GNode)), (GView.mk 0 (⟨#[]⟩ : ByteArray) ([] : List GAttr) ([] : List GAction) ([] : List GView)), 12) else (view_described n y1.1 p0.Root).bind fun (y2 : GView) => (view_Validate n y2).bind fun (y3 : Int) => some (y1.1, y2, y3))
theorem view_examine_ok  (n : Nat) (p0 : GTree) (r : ((List (Int × GNode)) × GView × Int)) (h : view_examine n p0 = some r) : FnD E 52 0 [.agg [I p0.Root, I p0.Next, .lit (List.map eGNode p0.Nodes)]] [] (.tup [.c (.lmap true (List.map (eM (Value.int .i64) eGNode) r.1)), .agg [I r.2.1.Kind, Sx r.2.1.Key, .lit (List.map eGAttr r.2.1.Attrs), .lit (List.map eGAction r.2.1.Actions), .lit (List.map eGView r.2.1.Kids)], .c (I r.2.2)]) [] := by
  refine zfn Tryd.func52 rfl ?_
  unfold view_examine at h
  refine za [1, 3] ?_
  refine zx fun _ => ?_
  refine zk 1 ?_
  obtain ⟨y1, he, h⟩ := bindE h
  refine rx_call (F := 64) (As := [.agg [I p0.Root, I p0.Next, .lit (List.map eGNode p0.Nodes)]]) (Bs := [.agg [I p0.Root, I p0.Next, .lit (List.map eGNode p0.Nodes)]]) (r := .tup [.c (.lmap true (List.map (eM (Value.int .i64) eGNode) y1.1)), .c (Bo y1.2)]) (v := .tup [.c (.lmap true (List.map (eM (Value.int .i64) eGNode) y1.1)), .c (Bo y1.2)]) (by kernel_rfl) fok64 (by kernel_rfl) (view_graph_ok n _ y1 he) (by kernel_rfl) (by kernel_rfl) rfl rfl ?_
  clear he
  refine zk 5 ?_
  refine ze [1, 3, 5, 6] ?_
  refine aw_seq ?_
  refine za [1, 3, 5, 14] ?_
  refine aw_ite (t := (!y1.2)) (by kernel_rfl) h (fun h => ?_) (fun h => ?_)
  · refine za [2, 3, 4] ?_
    refine aw_views (view_nilM 2 true (L2 := [(3, .c (.ptr 2 0)), (2, .c (.lmap true (List.map (eM (Value.int .i64) eGNode) ([] : List (Int × GNode))))), (4, .c (I 12))]) (by kernel_rfl) (by kernel_rfl)) ?_
    have h := Option.some.inj h
    subst h
    exact aw_ret (fin_pub (A := .tup [.c (.lmap true (List.map (eM (Value.int .i64) eGNode) ([] : List (Int × GNode)))), .agg [I 0, Sx (⟨#[]⟩ : ByteArray), NilS, NilS, NilS], .c (I 12)]) (.inl rfl) (by kernel_rfl) (by kernel_rfl) (by kernel_rfl))
  · refine aw_skip ?_
    refine zx fun _ => ?_
    refine zk 3 ?_
    obtain ⟨y2, he, h⟩ := bindE h
    refine rx_call (F := 65) (As := [.c (.lmap true (List.map (eM (Value.int .i64) eGNode) y1.1)), .c (I p0.Root)]) (Bs := [.c (.lmap true (List.map (eM (Value.int .i64) eGNode) y1.1)), .c (I p0.Root)]) (r := .agg [I y2.Kind, Sx y2.Key, .lit (List.map eGAttr y2.Attrs), .lit (List.map eGAction y2.Actions), .lit (List.map eGView y2.Kids)]) (v := .agg [I y2.Kind, Sx y2.Key, .lit (List.map eGAttr y2.Attrs), .lit (List.map eGAction y2.Actions), .lit (List.map eGView y2.Kids)]) (by kernel_rfl) fok65 (by kernel_rfl) (view_described_ok n _ _ y2 he) (by kernel_rfl) (by kernel_rfl) rfl rfl ?_
    clear he
    refine zk 2 ?_
    refine ze [3, 5, 7] ?_
    refine zdx [[], [], [], [2], [0, 3, 2], [1, 4, 0, 3, 2], [3, 5, 0, 1, 2, 4]] fun _ => ?_
    refine zk 3 ?_
    obtain ⟨y3, he, h⟩ := bindE h
    refine rx_call (F := 66) (As := [.agg [I y2.Kind, Sx y2.Key, .lit (List.map eGAttr y2.Attrs), .lit (List.map eGAction y2.Actions), .lit (List.map eGView y2.Kids)]]) (Bs := [.agg [I y2.Kind, Sx y2.Key, .lit (List.map eGAttr y2.Attrs), .lit (List.map eGAction y2.Actions), .lit (List.map eGView y2.Kids)]]) (r := .c (I y3)) (v := .c (I y3)) (by kernel_rfl) fok66 (by kernel_rfl) (view_Validate_ok n _ y3 he) (by kernel_rfl) (by kernel_rfl) rfl rfl ?_
    clear he
    refine zk 3 ?_
    refine zee [2, 3, 4] (L2 := [(3, .c (.ptr 2 0)), (2, .c (.lmap true (List.map (eM (Value.int .i64) eGNode) y1.1))), (4, .c (I y3))]) (G2 := [(0, .blk 49 [I p0.Root, I p0.Next, .lit (List.map eGNode p0.Nodes)]), (2, .blk 75 [I y2.Kind, Sx y2.Key, .lit (List.map eGAttr y2.Attrs), .lit (List.map eGAction y2.Actions), .lit (List.map eGView y2.Kids)]), (17, .blk 75 [I y2.Kind, Sx y2.Key, .lit (List.map eGAttr y2.Attrs), .lit (List.map eGAction y2.Actions), .lit (List.map eGView y2.Kids)])]) 26 ?_
    have h := Option.some.inj h
    subst h
    exact aw_ret (fin_pub (A := .tup [.c (.lmap true (List.map (eM (Value.int .i64) eGNode) y1.1)), .agg [I y2.Kind, Sx y2.Key, .lit (List.map eGAttr y2.Attrs), .lit (List.map eGAction y2.Actions), .lit (List.map eGView y2.Kids)], .c (I y3)]) (.inl rfl) (by kernel_rfl) (by kernel_rfl) (by kernel_rfl))
def view_Check  (n : Nat) (p0 : GTree) : Option Int := (view_examine n p0).bind fun (y1 : ((List (Int × GNode)) × GView × Int)) => some y1.2.2
theorem view_Check_ok  (n : Nat) (p0 : GTree) (r : Int) (h : view_Check n p0 = some r) : FnD E 37 0 [.agg [I p0.Root, I p0.Next, .lit (List.map eGNode p0.Nodes)]] [] (.c (I r)) [] := by
  refine zfn Tryd.func37 rfl ?_
  unfold view_Check at h
  refine za [1] ?_
  refine zx fun _ => ?_
  refine zk 1 ?_
  obtain ⟨y1, he, h⟩ := bindE h
  refine rx_call (F := 52) (As := [.agg [I p0.Root, I p0.Next, .lit (List.map eGNode p0.Nodes)]]) (Bs := [.agg [I p0.Root, I p0.Next, .lit (List.map eGNode p0.Nodes)]]) (r := .tup [.c (.lmap true (List.map (eM (Value.int .i64) eGNode) y1.1)), .agg [I y1.2.1.Kind, Sx y1.2.1.Key, .lit (List.map eGAttr y1.2.1.Attrs), .lit (List.map eGAction y1.2.1.Actions), .lit (List.map eGView y1.2.1.Kids)], .c (I y1.2.2)]) (v := .tup [.c (.lmap true (List.map (eM (Value.int .i64) eGNode) y1.1)), .agg [I y1.2.1.Kind, Sx y1.2.1.Key, .lit (List.map eGAttr y1.2.1.Attrs), .lit (List.map eGAction y1.2.1.Actions), .lit (List.map eGView y1.2.1.Kids)], .c (I y1.2.2)]) (by kernel_rfl) fok52 (by kernel_rfl) (view_examine_ok n _ y1 he) (by kernel_rfl) (by kernel_rfl) rfl rfl ?_
  clear he
  refine zk 8 ?_
  refine ze [5] ?_
  refine za [2] ?_
  have h := Option.some.inj h
  subst h
  exact aw_ret (fin_pub (A := .c (I y1.2.2)) (.inl rfl) (by kernel_rfl) (by kernel_rfl) (by kernel_rfl))
def view_value_body (self_view_value : GValue → Option GValue) (self_view_values : (List GValue) → Option (List GValue)) (n : Nat) (p0 : GValue) : Option GValue := (self_view_values p0.L).bind fun (y1 : (List GValue)) => some (GValue.mk p0.Kind p0.N p0.S y1)
theorem view_value_body_ok (self_view_value : GValue → Option GValue) (self_view_values : (List GValue) → Option (List GValue)) (ih_view_value : ∀ (p0 : GValue) (r : GValue), self_view_value p0 = some r → FnD E 86 0 [.agg [I p0.Kind, I p0.N, Sx p0.S, .lit (List.map eGValue p0.L)]] [] (.agg [I r.Kind, I r.N, Sx r.S, .lit (List.map eGValue r.L)]) []) (ih_view_values : ∀ (p0 : (List GValue)) (r : (List GValue)), self_view_values p0 = some r → FnD E 95 0 [.c (.lit (List.map eGValue p0))] [] (.c (.lit (List.map eGValue r))) []) (n : Nat) (p0 : GValue) (r : GValue) (h : view_value_body self_view_value self_view_values n p0 = some r) : FnD E 86 0 [.agg [I p0.Kind, I p0.N, Sx p0.S, .lit (List.map eGValue p0.L)]] [] (.agg [I r.Kind, I r.N, Sx r.S, .lit (List.map eGValue r.L)]) [] := by
  refine zfn Tryd.func86 rfl ?_
  unfold view_value_body at h
  refine za [1, 2] ?_
  refine zx fun _ => ?_
  refine zk 2 ?_
  obtain ⟨y1, he, h⟩ := bindE h
  refine rx_call (F := 95) (As := [.c (.lit (List.map eGValue p0.L))]) (Bs := [.c (.lit (List.map eGValue p0.L))]) (r := .c (.lit (List.map eGValue y1))) (v := .c (.lit (List.map eGValue y1))) (by kernel_rfl) fok95 (by kernel_rfl) (ih_view_values _ y1 he) (by kernel_rfl) (by kernel_rfl) rfl rfl ?_
  clear he
  refine zk 2 ?_
  refine ze [1, 2] ?_
  refine za [2] ?_
  have h := Option.some.inj h
  subst h
  exact aw_ret (fin_pub (A := .agg [I p0.Kind, I p0.N, Sx p0.S, .lit (List.map eGValue y1)]) (.inl rfl) (by kernel_rfl) (by kernel_rfl) (by kernel_rfl))
def view_values_L0 (p0 : (List GValue)) (self_view_value : GValue → Option GValue) (j1 : List GValue → Option (List GValue)) : Nat → List GValue → Int → Option (List GValue)
  | 0, _, _ => none
  | n + 1, v5, v6 => (if (decide (v6 < (List.length p0 : Int))) = true then (idx p0 v6).bind fun (e7 : GValue) => (self_view_value e7).bind fun (y8 : GValue) => (apd 56 v5 [y8]).bind fun (l9 : List GValue) => view_values_L0 p0 self_view_value j1 n l9 (IntKind.wrap .i64 (v6 + 1)) else j1 v5)
def view_values_body (self_view_value : GValue → Option GValue) (self_view_values : (List GValue) → Option (List GValue)) (n : Nat) (p0 : (List GValue)) : Option (List GValue) := (withJ (fun (v12 : List GValue) => some v12) (fun (j1 : List GValue → Option (List GValue)) => view_values_L0 p0 self_view_value j1 n ([] : List GValue) 0))
theorem view_values_body_ok (self_view_value : GValue → Option GValue) (self_view_values : (List GValue) → Option (List GValue)) (ih_view_value : ∀ (p0 : GValue) (r : GValue), self_view_value p0 = some r → FnD E 86 0 [.agg [I p0.Kind, I p0.N, Sx p0.S, .lit (List.map eGValue p0.L)]] [] (.agg [I r.Kind, I r.N, Sx r.S, .lit (List.map eGValue r.L)]) []) (ih_view_values : ∀ (p0 : (List GValue)) (r : (List GValue)), self_view_values p0 = some r → FnD E 95 0 [.c (.lit (List.map eGValue p0))] [] (.c (.lit (List.map eGValue r))) []) (n : Nat) (p0 : (List GValue)) (r : (List GValue)) (h : view_values_body self_view_value self_view_values n p0 = some r) : FnD E 95 0 [.c (.lit (List.map eGValue p0))] [] (.c (.lit (List.map eGValue r))) [] := by
  refine zfn Tryd.func95 rfl ?_
  unfold view_values_body at h
  refine za [0] ?_
  refine za [0, 3] ?_
  refine aw_join h (fun A j => ∀ (v12 : List GValue), j v12 = some r → A (mk [(3, .c (.app 0 (List.map eGValue v12)))] [(0, .tok 70 4 (List.length v12))] 1)) (fun v12 h => ?_) (fun j1 Aj1 hj1 h => ?_)
  · refine za [2] ?_
    have h := Option.some.inj h
    subst h
    exact aw_ret (fin_pub (A := .c (.app 0 (List.map eGValue v12))) (.inl rfl) (by kernel_rfl) (by kernel_rfl) (by kernel_rfl))
  · refine zx fun _ => ?_
    refine zk 1 ?_
    refine rx_rd (v := .c (I (List.length p0 : Int))) (foot := []) (rd_len (enc := eGValue) (l := p0) (by kernel_rfl)) (by kernel_rfl) rfl rfl ?_
    refine zk 1 ?_
    refine ze [3, 6, 7, 8] ?_
    refine aw_block ?_
    refine aw_loopJ (fun n s => ∃ (v5 : List GValue) (v6 : Int), view_values_L0 p0 self_view_value j1 n v5 v6 = some r ∧ s = mk [(3, .c (.app 0 (List.map eGValue v5))), (6, .c (.lit (List.map eGValue p0))), (7, .c (I (List.length p0 : Int))), (8, .c (I v6))] [(0, .tok 70 4 (List.length v5))] 1) n _ (Views.trans (view_nilS (L2 := [(3, .c (.app 5 (List.map eGValue ([] : List GValue)))), (6, .c (.lit (List.map eGValue p0))), (7, .c (I (List.length p0 : Int))), (8, .c (I 0))]) (G2 := [(5, .tok 70 4 (List.length ([] : List GValue)))]) (lim2 := 6) 3 70 4 (by kernel_rfl) (by kernel_rfl) (by kernel_rfl) (by kernel_rfl)) (zv [(5, 0)] [3, 6, 7, 8] 1)) ⟨_, _, h, rfl⟩ (fun s ⟨v5, v6, h, _⟩ => nomatch h) ?_
    rintro n s ⟨v5, v6, h, rfl⟩
    rw [view_values_L0] at h
    refine za [3, 6, 7, 8, 9] ?_
    refine aw_seq ?_
    refine aw_ite (t := (decide (v6 < (List.length p0 : Int)))) (by kernel_rfl) h (fun h => ?_) (fun h => ?_)
    · refine aw_skip ?_
      refine aw_seq ?_
      refine aw_block ?_
      refine zx fun _ => ?_
      obtain ⟨e7, he, h⟩ := bindE h
      refine rx_rd (v := .c (.imm [I e7.Kind, I e7.N, Sx e7.S, .lit (List.map eGValue e7.L)])) (foot := []) (rd_idx (enc := eGValue) (sz := 4) (l := p0) (ix := v6) he (by kernel_rfl) (eGValue_eq e7) (by kernel_rfl)) (by kernel_rfl) rfl rfl ?_
      clear he
      refine zk 3 ?_
      refine ze [3, 5, 6, 7, 8] ?_
      refine zy fun _ => ?_
      refine zk 2 ?_
      obtain ⟨y8, he, h⟩ := bindE h
      refine rx_call (F := 86) (As := [.agg [I e7.Kind, I e7.N, Sx e7.S, .lit (List.map eGValue e7.L)]]) (Bs := [.agg [I e7.Kind, I e7.N, Sx e7.S, .lit (List.map eGValue e7.L)]]) (r := .agg [I y8.Kind, I y8.N, Sx y8.S, .lit (List.map eGValue y8.L)]) (v := .agg [I y8.Kind, I y8.N, Sx y8.S, .lit (List.map eGValue y8.L)]) (by kernel_rfl) fok86 (by kernel_rfl) (ih_view_value _ y8 he) (by kernel_rfl) (by kernel_rfl) rfl rfl ?_
      clear he
      refine rx_bs (e := 70) (sz := 4) (len := 1) (r := [I y8.Kind, I y8.N, Sx y8.S, .lit (List.map eGValue y8.L)]) (l' := List.map eGValue [y8]) (nm := 9) (by kernel_rfl) (by simp only [List.map_cons, List.map_nil, eGValue_eq]; kernel_rfl) (by kernel_rfl) (by kernel_rfl) rfl rfl rfl ?_
      obtain ⟨l9, he, h⟩ := bindE h
      refine rx_append (enc := eGValue) (l := v5) (els := [y8]) (r := l9) (old := some 0) (e := 70) (sz := 4) (bytes := 56) (k := (List.length v5)) (nm := 10) he (by kernel_rfl) (by kernel_rfl) (fun x => by rw [eGValue_eq]; rfl) (by kernel_rfl) (by kernel_rfl) rfl rfl rfl ?_
      clear he
      refine zk 1 ?_
      refine x_last ?_
      refine aw_out ?_
      refine zb ?_
      exact via (zv [(10, 0)] [3, 6, 7, 8] 1) (⟨_, _, h, rfl⟩)
    · exact aw_views (zv [(0, 0)] [3] 1) (aw_exit (hj1 _ h))
mutual
def view_value : Nat → GValue → Option GValue
  | 0, _ => none
  | n + 1, p0 => view_value_body (fun a0 => view_value n a0) (fun a0 => view_values n a0) n p0
def view_values : Nat → (List GValue) → Option (List GValue)
  | 0, _ => none
  | n + 1, p0 => view_values_body (fun a0 => view_value n a0) (fun a0 => view_values n a0) n p0
end
theorem knot_view_value (n : Nat) : (∀ (p0 : GValue) (r : GValue), view_value n p0 = some r → FnD E 86 0 [.agg [I p0.Kind, I p0.N, Sx p0.S, .lit (List.map eGValue p0.L)]] [] (.agg [I r.Kind, I r.N, Sx r.S, .lit (List.map eGValue r.L)]) []) ∧ (∀ (p0 : (List GValue)) (r : (List GValue)), view_values n p0 = some r → FnD E 95 0 [.c (.lit (List.map eGValue p0))] [] (.c (.lit (List.map eGValue r))) []) := by
  induction n with
  | zero => refine ⟨fun p0 r h => (by rw [view_value] at h; cases h), fun p0 r h => (by rw [view_values] at h; cases h)⟩
  | succ n ih =>
    obtain ⟨i0, i1⟩ := ih
    refine ⟨fun p0 r h => (by rw [view_value] at h; exact view_value_body_ok _ _ i0 i1 n _ r h), fun p0 r h => (by rw [view_values] at h; exact view_values_body_ok _ _ i0 i1 n _ r h)⟩
theorem view_value_ok (n : Nat) : (∀ (p0 : GValue) (r : GValue), view_value n p0 = some r → FnD E 86 0 [.agg [I p0.Kind, I p0.N, Sx p0.S, .lit (List.map eGValue p0.L)]] [] (.agg [I r.Kind, I r.N, Sx r.S, .lit (List.map eGValue r.L)]) []) := (knot_view_value n).1
theorem view_values_ok (n : Nat) : (∀ (p0 : (List GValue)) (r : (List GValue)), view_values n p0 = some r → FnD E 95 0 [.c (.lit (List.map eGValue p0))] [] (.c (.lit (List.map eGValue r))) []) := (knot_view_value n).2
def view_Attr_L0 (p0 : (List GAttr)) (p1 : ByteArray) (j1 : Unit → Option (GValue × Bool)) : Nat → Int → Option (GValue × Bool)
  | 0, _ => none
  | n + 1, v4 => (if (decide (v4 < (List.length p0 : Int))) = true then (idx p0 v4).bind fun (e5 : GAttr) => (if (sEq e5.Name p1) = true then (view_value n e5.Value).bind fun (y6 : GValue) => some (y6, true) else view_Attr_L0 p0 p1 j1 n (IntKind.wrap .i64 (v4 + 1))) else j1 ())
def view_Attr  (n : Nat) (p0 : (List GAttr)) (p1 : ByteArray) : Option (GValue × Bool) := (withJ (fun (_ : Unit) => some ((GValue.mk 0 0 (⟨#[]⟩ : ByteArray) ([] : List GValue)), false)) (fun (j1 : Unit → Option (GValue × Bool)) => view_Attr_L0 p0 p1 j1 n 0))
theorem view_Attr_ok  (n : Nat) (p0 : (List GAttr)) (p1 : ByteArray) (r : (GValue × Bool)) (h : view_Attr n p0 p1 = some r) : FnD E 67 0 [.c (.lit (List.map eGAttr p0)), .c (Sx p1)] [] (.tup [.agg [I r.1.Kind, I r.1.N, Sx r.1.S, .lit (List.map eGValue r.1.L)], .c (Bo r.2)]) [] := by
  refine zfn Tryd.func67 rfl ?_
  unfold view_Attr at h
  refine za [0, 1, 4] ?_
  refine aw_join h (fun A j => ∀ (u : Unit), j u = some r → A (mk [(4, .c (.ptr 0 0))] [(0, .blk 70 [I 0, I 0, Sx (⟨#[]⟩ : ByteArray), NilS])] 1)) (fun u h => ?_) (fun j1 Aj1 hj1 h => ?_)
  · refine za [4, 5] ?_
    have h := Option.some.inj h
    subst h
    exact aw_ret (fin_pub (A := .tup [.agg [I 0, I 0, Sx (⟨#[]⟩ : ByteArray), NilS], .c (Bo false)]) (.inl rfl) (by kernel_rfl) (by kernel_rfl) (by kernel_rfl))
  · refine zx fun _ => ?_
    refine zk 1 ?_
    refine rx_rd (v := .c (I (List.length p0 : Int))) (foot := []) (rd_len (enc := eGAttr) (l := p0) (by kernel_rfl)) (by kernel_rfl) rfl rfl ?_
    refine zk 1 ?_
    refine ze [1, 4, 8, 9, 10] ?_
    refine aw_block ?_
    refine aw_loopJ (fun n s => ∃ (v4 : Int), view_Attr_L0 p0 p1 j1 n v4 = some r ∧ s = mk [(1, .c (Sx p1)), (4, .c (.ptr 0 0)), (8, .c (.lit (List.map eGAttr p0))), (9, .c (I (List.length p0 : Int))), (10, .c (I v4))] [(0, .blk 70 [I 0, I 0, Sx (⟨#[]⟩ : ByteArray), NilS])] 1) n _ (zv [(0, 0)] [1, 4, 8, 9, 10] 1) ⟨_, h, rfl⟩ (fun s ⟨v4, h, _⟩ => nomatch h) ?_
    rintro n s ⟨v4, h, rfl⟩
    rw [view_Attr_L0] at h
    refine za [1, 4, 8, 9, 10, 11] ?_
    refine aw_seq ?_
    refine aw_ite (t := (decide (v4 < (List.length p0 : Int)))) (by kernel_rfl) h (fun h => ?_) (fun h => ?_)
    · refine aw_skip ?_
      refine aw_seq ?_
      refine aw_block ?_
      refine zx fun _ => ?_
      obtain ⟨e5, he, h⟩ := bindE h
      refine rx_rd (v := .c (.imm [Sx e5.Name, I e5.Value.Kind, I e5.Value.N, Sx e5.Value.S, .lit (List.map eGValue e5.Value.L)])) (foot := []) (rd_idx (enc := eGAttr) (sz := 5) (l := p0) (ix := v4) he (by kernel_rfl) (by kernel_rfl) (by kernel_rfl)) (by kernel_rfl) rfl rfl ?_
      clear he
      refine zk 3 ?_
      refine ze [1, 4, 7, 8, 9, 10] ?_
      refine za [1, 4, 7, 8, 9, 10, 17] ?_
      refine aw_ite (t := (sEq e5.Name p1)) (by kernel_rfl) h (fun h => ?_) (fun h => ?_)
      · refine zx fun _ => ?_
        refine zk 2 ?_
        obtain ⟨y6, he, h⟩ := bindE h
        refine rx_call (F := 86) (As := [.agg [I e5.Value.Kind, I e5.Value.N, Sx e5.Value.S, .lit (List.map eGValue e5.Value.L)]]) (Bs := [.agg [I e5.Value.Kind, I e5.Value.N, Sx e5.Value.S, .lit (List.map eGValue e5.Value.L)]]) (r := .agg [I y6.Kind, I y6.N, Sx y6.S, .lit (List.map eGValue y6.L)]) (v := .agg [I y6.Kind, I y6.N, Sx y6.S, .lit (List.map eGValue y6.L)]) (by kernel_rfl) fok86 (by kernel_rfl) (view_value_ok n _ y6 he) (by kernel_rfl) (by kernel_rfl) rfl rfl ?_
        clear he
        refine zk 2 ?_
        refine ze [4, 5] ?_
        have h := Option.some.inj h
        subst h
        exact aw_ret (fin_pub (A := .tup [.agg [I y6.Kind, I y6.N, Sx y6.S, .lit (List.map eGValue y6.L)], .c (Bo true)]) (.inl rfl) (by kernel_rfl) (by kernel_rfl) (by kernel_rfl))
      · refine aw_skip ?_
        refine aw_out ?_
        refine zb ?_
        exact via (zv [(0, 0)] [1, 4, 8, 9, 10] 1) (⟨_, h, rfl⟩)
    · exact aw_views (zv [(0, 0)] [4] 1) (aw_exit (hj1 _ h))
def view_Text  (n : Nat) (p0 : (List GAttr)) (p1 : ByteArray) : Option ByteArray := (view_Attr n p0 p1).bind fun (y1 : (GValue × Bool)) => (if (y1.1.Kind == 3) = true then some y1.1.S else some (⟨#[]⟩ : ByteArray))
theorem view_Text_ok  (n : Nat) (p0 : (List GAttr)) (p1 : ByteArray) (r : ByteArray) (h : view_Text n p0 p1 = some r) : FnD E 53 0 [.c (.lit (List.map eGAttr p0)), .c (Sx p1)] [] (.c (Sx r)) [] := by
  refine zfn Tryd.func53 rfl ?_
  unfold view_Text at h
  refine za [0, 1] ?_
  refine aw_seq ?_
  refine zx fun _ => ?_
  refine zk 2 ?_
  obtain ⟨y1, he, h⟩ := bindE h
  refine rx_call (F := 67) (As := [.c (.lit (List.map eGAttr p0)), .c (Sx p1)]) (Bs := [.c (.lit (List.map eGAttr p0)), .c (Sx p1)]) (r := .tup [.agg [I y1.1.Kind, I y1.1.N, Sx y1.1.S, .lit (List.map eGValue y1.1.L)], .c (Bo y1.2)]) (v := .tup [.agg [I y1.1.Kind, I y1.1.N, Sx y1.1.S, .lit (List.map eGValue y1.1.L)], .c (Bo y1.2)]) (by kernel_rfl) fok67 (by kernel_rfl) (view_Attr_ok n _ _ y1 he) (by kernel_rfl) (by kernel_rfl) rfl rfl ?_
  clear he
  refine zk 6 ?_
  refine ze [5] ?_
  refine za [5, 15] ?_
  refine aw_ite (t := (y1.1.Kind == 3)) (by kernel_rfl) h (fun h => ?_) (fun h => ?_)
  · refine za [4] ?_
    have h := Option.some.inj h
    subst h
    exact aw_ret (fin_pub (A := .c (Sx y1.1.S)) (.inl rfl) (by kernel_rfl) (by kernel_rfl) (by kernel_rfl))
  · refine aw_skip ?_
    refine za [4] ?_
    have h := Option.some.inj h
    subst h
    exact aw_ret (fin_pub (A := .c (Sx (⟨#[]⟩ : ByteArray))) (.inl rfl) (by kernel_rfl) (by kernel_rfl) (by kernel_rfl))
theorem back68 : BackOk E 68 eGNodeStates (fun x => .agg (eGNodeStates x)) := ⟨Tryd.f68, _, 2, _, _, _, _, _, _, _, _, _, Tryd.func68, rfl, rfl, by decide, rfl, fun D l y => by kernel_rfl, fun D l y i => by kernel_rfl, fun D l y i => by kernel_rfl, rfl, fun D l y i => by kernel_rfl, rfl, rfl, rfl, fun D l y i => by kernel_rfl, fun x => rfl, rfl, fun D l y i x => by kernel_rfl, rfl, rfl, rfl, rfl, rfl, fun D l y i b => by kernel_rfl, fun x => rfl⟩
def slices_Backward_api_NodeStates_api_NodeStates  (n : Nat) (p0 : (List GNodeStates)) : Option (List GNodeStates) := some p0
theorem slices_Backward_api_NodeStates_api_NodeStates_ok  (n : Nat) (p0 : (List GNodeStates)) (r : (List GNodeStates)) (h : slices_Backward_api_NodeStates_api_NodeStates n p0 = some r) : FnD E 54 0 [.c (.lit (List.map eGNodeStates p0))] [] (.c (.fn 68 [.imm [.lit (List.map eGNodeStates r)]])) [] := by
  refine zfn Tryd.func54 rfl ?_
  unfold slices_Backward_api_NodeStates_api_NodeStates at h
  refine za [1] ?_
  refine za [2] ?_
  refine aw_views (view_frzB 0 (T := 82) (l := [.lit (List.map eGNodeStates p0)]) (l2 := [.lit (List.map eGNodeStates p0)]) (L2 := [(2, .c (.fn 68 [.imm [.lit (List.map eGNodeStates p0)]]))]) (G2 := []) (by kernel_rfl) (by kernel_rfl) (by kernel_rfl) (by kernel_rfl)) ?_
  have h := Option.some.inj h
  subst h
  exact aw_ret (fin_pub (A := .c (.fn 68 [.imm [.lit (List.map eGNodeStates p0)]])) (.inl rfl) (by kernel_rfl) (by kernel_rfl) (by kernel_rfl))
def style_see_R1 (n : Nat) (v12 : List (Int × GNode)) (v13 : List (Int × ByteArray)) : List (Nat × GNodeStates) → List (Int × Int) → Option Gshape
  | [], v18 => some (Gshape.mk v12 v13 v18)
  | (i15, e16) :: t17, v18 => style_see_R1 n v12 v13 t17 (mput e16.ID e16.States v18)
def style_see_L0 (p0 : GTree) (j1 : List (Int × GNode) → List (Int × ByteArray) → Option Gshape) (p1 : (List GNodeStates)) : Nat → Int → List (Int × GNode) → List (Int × ByteArray) → Option Gshape
  | 0, _, _, _ => none
  | n + 1, v4, v5, v6 => (if (decide (v4 < (List.length p0.Nodes : Int))) = true then (idx p0.Nodes v4).bind fun (e7 : GNode) => (view_Text n e7.Attrs (⟨#[99, 108, 97, 115, 115]⟩ : ByteArray)).bind fun (y8 : ByteArray) => style_see_L0 p0 j1 p1 n (IntKind.wrap .i64 (v4 + 1)) (mput e7.ID e7 v5) (mput e7.ID y8 v6) else j1 v5 v6)
def style_see  (n : Nat) (p0 : GTree) (p1 : (List GNodeStates)) : Option Gshape := (withJ (fun (v12 : List (Int × GNode)) (v13 : List (Int × ByteArray)) => (slices_Backward_api_NodeStates_api_NodeStates n p1).bind fun (y14 : (List GNodeStates)) => (lenOk y14).bind fun (_ : Unit) => style_see_R1 n v12 v13 (remL y14 (List.length y14)) ([] : List (Int × Int))) (fun (j1 : List (Int × GNode) → List (Int × ByteArray) → Option Gshape) => style_see_L0 p0 j1 p1 n 0 ([] : List (Int × GNode)) ([] : List (Int × ByteArray))))
theorem style_see_ok  (n : Nat) (p0 : GTree) (p1 : (List GNodeStates)) (r : Gshape) (h : style_see n p0 p1 = some r) : FnD E 38 0 [.agg [I p0.Root, I p0.Next, .lit (List.map eGNode p0.Nodes)], .c (.lit (List.map eGNodeStates p1))] [] (.agg [.lmap true (List.map (eM (Value.int .i64) eGNode) r.nodes), .lmap false (List.map (eM (Value.int .i64) eS) r.class_), .lmap false (List.map (eM (Value.int .i64) eI64) r.states)]) [] := by
  refine zfn Tryd.func38 rfl ?_
  unfold style_see at h
  refine za [1, 2, 4] ?_
  refine za [1, 2, 4, 5] ?_
  refine aw_join h (fun A j => ∀ (v12 : List (Int × GNode)) (v13 : List (Int × ByteArray)), j v12 v13 = some r → A (mk [(1, .c (.lit (List.map eGNodeStates p1))), (4, .c (.ptr 0 0)), (5, .c (.ptr 1 0))] [(0, .blk 100 [.v (.map none), .v (.map none), .v (.map none)]), (1, .blk 100 [.mapr 2, .mapr 3, .mapr 4]), (2, .map true (List.map (eM (Value.int .i64) eGNode) v12)), (3, .map false (List.map (eM (Value.int .i64) eS) v13)), (4, .map false (List.map (eM (Value.int .i64) eI64) ([] : List (Int × Int))))] 5)) (fun v12 v13 h => ?_) (fun j1 Aj1 hj1 h => ?_)
  · refine aw_seq ?_
    refine zx fun _ => ?_
    refine zk 1 ?_
    obtain ⟨y14, he, h⟩ := bindE h
    refine rx_call (F := 54) (As := [.c (.lit (List.map eGNodeStates p1))]) (Bs := [.c (.lit (List.map eGNodeStates p1))]) (r := .c (.fn 68 [.imm [.lit (List.map eGNodeStates y14)]])) (v := .c (.fn 68 [.imm [.lit (List.map eGNodeStates y14)]])) (by kernel_rfl) fok54 (by kernel_rfl) (slices_Backward_api_NodeStates_api_NodeStates_ok n _ y14 he) (by kernel_rfl) (by kernel_rfl) rfl rfl ?_
    clear he
    refine ze [4, 5, 35] ?_
    refine aw_block ?_
    refine aw_views (views_of rfl [(0, 0), (1, 1), (2, 2), (3, 3), (4, 4)] [4, 5, 35] (L2 := [(4, .c (.ptr 0 0)), (5, .c (.ptr 1 0)), (35, .c (.fn 68 [.imm [.lit (List.map eGNodeStates y14)]]))]) (G2 := [(0, .blk 100 [.v (.map none), .v (.map none), .v (.map none)]), (1, .blk 100 [.mapr 2, .mapr 3, .mapr 4]), (2, .map true (List.map (eM (Value.int .i64) eGNode) v12)), (3, .map false (List.map (eM (Value.int .i64) eS) v13)), (4, .map false (List.map (eM (Value.int .i64) eI64) ([] : List (Int × Int))))]) (lim2 := 5) (by kernel_rfl)) ?_
    obtain ⟨_, he, h⟩ := bindE h
    refine aw_back (l := y14) fok68 back68 (by kernel_rfl) (lenOk_le he) (by kernel_rfl) (fun t G1 lim1 => ∃ (v18 : List (Int × Int)), style_see_R1 n v12 v13 t v18 = some r ∧ G1 = [(0, .blk 100 [.v (.map none), .v (.map none), .v (.map none)]), (1, .blk 100 [.mapr 2, .mapr 3, .mapr 4]), (2, .map true (List.map (eM (Value.int .i64) eGNode) v12)), (3, .map false (List.map (eM (Value.int .i64) eS) v13)), (4, .map false (List.map (eM (Value.int .i64) eI64) v18))] ∧ lim1 = 5) ⟨_, h, rfl, rfl⟩ (fun lp x t17 G1 lim1 hJ => ?_) (fun G1 lim1 hJ => ?_)
    · obtain ⟨i15, e16⟩ := x
      obtain ⟨v18, h, rfl, rfl⟩ := hJ
      rw [style_see_R1] at h
      show AW _ _ (mk [(4, .c (.ptr 0 0)), (5, .c (.ptr 1 0)), (35, .c (.fn 68 [.imm [.lit (List.map eGNodeStates y14)]])), (36, .c (I (i15 : Int))), (37, .agg [I e16.ID, I e16.States])] [(0, .blk 100 [.v (.map none), .v (.map none), .v (.map none)]), (1, .blk 100 [.mapr 2, .mapr 3, .mapr 4]), (2, .map true (List.map (eM (Value.int .i64) eGNode) v12)), (3, .map false (List.map (eM (Value.int .i64) eS) v13)), (4, .map false (List.map (eM (Value.int .i64) eI64) v18))] 5) _
      refine zb ?_
      refine aw_block ?_
      refine aw_out ?_
      refine zy fun _ => ?_
      refine zk 6 ?_
      refine rx_mapset (kf := (Value.int .i64)) (enc := eI64) (l := v18) (k := e16.ID) (v := e16.States) (n := 4) (ag := false) (kk := .int .i64) (by kernel_rfl) keyInt (by kernel_rfl) (by kernel_rfl) rfl rfl ?_
      refine x_last ?_
      exact via (zv (L2 := []) [(0, 0), (1, 1), (2, 2), (3, 3), (4, 4)] [] 5) (⟨_, _, ⟨_, h, rfl, rfl⟩, rfl, rfl⟩)
    · obtain ⟨v18, h, rfl, rfl⟩ := hJ
      rw [style_see_R1] at h
      refine za [4] ?_
      refine aw_views (view_frzM 2 (ag := true) (l := List.map (eM (Value.int .i64) eGNode) v12) (L2 := [(4, .c (.ptr 0 0))]) (G2 := [(0, .blk 100 [.lmap true (List.map (eM (Value.int .i64) eGNode) v12), .mapr 3, .mapr 4]), (1, .blk 100 [.lmap true (List.map (eM (Value.int .i64) eGNode) v12), .mapr 3, .mapr 4]), (3, .map false (List.map (eM (Value.int .i64) eS) v13)), (4, .map false (List.map (eM (Value.int .i64) eI64) v18))]) (by kernel_rfl) (by kernel_rfl) (by kernel_rfl)) ?_
      refine aw_views (view_frzM 3 (ag := false) (l := List.map (eM (Value.int .i64) eS) v13) (L2 := [(4, .c (.ptr 0 0))]) (G2 := [(0, .blk 100 [.lmap true (List.map (eM (Value.int .i64) eGNode) v12), .lmap false (List.map (eM (Value.int .i64) eS) v13), .mapr 4]), (1, .blk 100 [.lmap true (List.map (eM (Value.int .i64) eGNode) v12), .lmap false (List.map (eM (Value.int .i64) eS) v13), .mapr 4]), (4, .map false (List.map (eM (Value.int .i64) eI64) v18))]) (by kernel_rfl) (by kernel_rfl) (by kernel_rfl)) ?_
      refine aw_views (view_frzM 4 (ag := false) (l := List.map (eM (Value.int .i64) eI64) v18) (L2 := [(4, .c (.ptr 0 0))]) (G2 := [(0, .blk 100 [.lmap true (List.map (eM (Value.int .i64) eGNode) v12), .lmap false (List.map (eM (Value.int .i64) eS) v13), .lmap false (List.map (eM (Value.int .i64) eI64) v18)]), (1, .blk 100 [.lmap true (List.map (eM (Value.int .i64) eGNode) v12), .lmap false (List.map (eM (Value.int .i64) eS) v13), .lmap false (List.map (eM (Value.int .i64) eI64) v18)])]) (by kernel_rfl) (by kernel_rfl) (by kernel_rfl)) ?_
      have h := Option.some.inj h
      subst h
      exact aw_ret (fin_pub (A := .agg [.lmap true (List.map (eM (Value.int .i64) eGNode) v12), .lmap false (List.map (eM (Value.int .i64) eS) v13), .lmap false (List.map (eM (Value.int .i64) eI64) v18)]) (.inl rfl) (by kernel_rfl) (by kernel_rfl) (by kernel_rfl))
  · refine zx fun _ => ?_
    refine zk 2 ?_
    refine rx_rd (v := .c (I (List.length p0.Nodes : Int))) (foot := []) (rd_len (enc := eGNode) (l := p0.Nodes) (by kernel_rfl)) (by kernel_rfl) rfl rfl ?_
    refine zk 1 ?_
    refine ze [1, 4, 5, 15, 16, 17] ?_
    refine aw_block ?_
    refine aw_loopJ (fun n s => ∃ (v4 : Int) (v5 : List (Int × GNode)) (v6 : List (Int × ByteArray)), style_see_L0 p0 j1 p1 n v4 v5 v6 = some r ∧ s = mk [(1, .c (.lit (List.map eGNodeStates p1))), (4, .c (.ptr 0 0)), (5, .c (.ptr 1 0)), (15, .c (.lit (List.map eGNode p0.Nodes))), (16, .c (I (List.length p0.Nodes : Int))), (17, .c (I v4))] [(0, .blk 100 [.v (.map none), .v (.map none), .v (.map none)]), (1, .blk 100 [.mapr 2, .mapr 3, .mapr 4]), (2, .map true (List.map (eM (Value.int .i64) eGNode) v5)), (3, .map false (List.map (eM (Value.int .i64) eS) v6)), (4, .map false (List.map (eM (Value.int .i64) eI64) ([] : List (Int × Int))))] 5) n _ (zv [(1, 0), (6, 1), (2, 2), (3, 3), (4, 4)] [1, 4, 5, 15, 16, 17] 5) ⟨_, _, _, h, rfl⟩ (fun s ⟨v4, v5, v6, h, _⟩ => nomatch h) ?_
    rintro n s ⟨v4, v5, v6, h, rfl⟩
    rw [style_see_L0] at h
    refine za [1, 4, 5, 15, 16, 17, 18] ?_
    refine aw_seq ?_
    refine aw_ite (t := (decide (v4 < (List.length p0.Nodes : Int)))) (by kernel_rfl) h (fun h => ?_) (fun h => ?_)
    · refine aw_skip ?_
      refine aw_seq ?_
      refine aw_block ?_
      refine zx fun _ => ?_
      obtain ⟨e7, he, h⟩ := bindE h
      refine rx_rd (v := .c (.imm [I e7.ID, I e7.Parent, I e7.Kind, Sx e7.Key, .lit (List.map eGAttr e7.Attrs), .lit (List.map eGAction e7.Actions), .lit (List.map eI64 e7.Kids)])) (foot := []) (rd_idx (enc := eGNode) (sz := 7) (l := p0.Nodes) (ix := v4) he (by kernel_rfl) (by kernel_rfl) (by kernel_rfl)) (by kernel_rfl) rfl rfl ?_
      clear he
      refine zk 3 ?_
      refine ze [1, 4, 5, 7, 15, 16, 17] ?_
      refine zdy [[], [0], [], [2], [], [4], [], [6], [], [], [9], [10, 9], [1, 3, 8, 11, 0, 2, 10, 9], [5, 7, 11, 12, 0, 1, 2, 3, 4, 6, 8, 9, 10]] fun _ => ?_
      refine zk 11 ?_
      obtain ⟨y8, he, h⟩ := bindE h
      refine rx_call (F := 53) (As := [.c (.lit (List.map eGAttr e7.Attrs)), .c (Sx (⟨#[99, 108, 97, 115, 115]⟩ : ByteArray))]) (Bs := [.c (.lit (List.map eGAttr e7.Attrs)), .c (Sx (⟨#[99, 108, 97, 115, 115]⟩ : ByteArray))]) (r := .c (Sx y8)) (v := .c (Sx y8)) (by kernel_rfl) fok53 (by kernel_rfl) (view_Text_ok n _ _ y8 he) (by kernel_rfl) (by kernel_rfl) rfl rfl ?_
      clear he
      refine rx_mapset (kf := (Value.int .i64)) (enc := eGNode) (l := v5) (k := e7.ID) (v := e7) (n := 2) (ag := true) (kk := .int .i64) (by kernel_rfl) keyInt (by kernel_rfl) (by kernel_rfl) rfl rfl ?_
      refine rx_mapset (kf := (Value.int .i64)) (enc := eS) (l := v6) (k := e7.ID) (v := y8) (n := 3) (ag := false) (kk := .int .i64) (by kernel_rfl) keyInt (by kernel_rfl) (by kernel_rfl) rfl rfl ?_
      refine x_last ?_
      refine aw_out ?_
      refine zb ?_
      exact via (zv [(0, 0), (1, 1), (2, 2), (3, 3), (4, 4)] [1, 4, 5, 15, 16, 17] 5) (⟨_, _, _, h, rfl⟩)
    · exact aw_views (zv [(0, 0), (1, 1), (2, 2), (3, 3), (4, 4)] [1, 4, 5] 5) (aw_exit (hj1 _ _ h))
end Go.Proofs.YtojkihhnioeggaaDoor.S
