/- Functions, and that the program's are they. Printed by ext.py. -/
import Derived.Test.YtojkihhnioeggaaDoorGA13
set_option linter.unusedVariables false
set_option linter.unusedSimpArgs false
namespace Go.Proofs.YtojkihhnioeggaaDoor.S
open Go Go.Bm
def law17_StyleTable_L0 (p1 : Int) (j1 : Unit → Option Bool) (p0 : Int) : Nat → Int → Option Bool
  | 0, _ => none
  | n + 1, v6 => (if (decide (v6 ≤ 22)) = true then (style_Inherited n v6).bind fun (y7 : Bool) => (ref17_Inherited n v6).bind fun (y8 : Bool) => (gd [(!(y7 != y8))] (style_InRange n v6 p1)).bind fun (y9 : Bool) => (gd [(!(y7 != y8))] (ref17_InRange n v6 p1)).bind fun (y10 : Bool) => (if ((y7 != y8) || (y9 != y10)) = true then some false else law17_StyleTable_L0 p1 j1 p0 n (IntKind.wrap .i64 (v6 + 1))) else j1 ())
def law17_StyleTable  (n : Nat) (p0 : Int) (p1 : Int) : Option Bool := (withJ (fun (_ : Unit) => (style_Inherited n p0).bind fun (y12 : Bool) => (ref17_Inherited n p0).bind fun (y13 : Bool) => (gd [(y12 == y13)] (style_InRange n p0 p1)).bind fun (y14 : Bool) => (gd [(y12 == y13)] (ref17_InRange n p0 p1)).bind fun (y15 : Bool) => (gd [((y12 == y13) && (y14 == y15))] (style_Initial n)).bind fun (y16 : A22_Int) => (gd [((y12 == y13) && (y14 == y15))] (ref17_Initial n)).bind fun (y17 : A22_Int) => (gd [(((y12 == y13) && (y14 == y15)) && (([y16.x0, y16.x1, y16.x2, y16.x3, y16.x4, y16.x5, y16.x6, y16.x7, y16.x8, y16.x9, y16.x10, y16.x11, y16.x12, y16.x13, y16.x14, y16.x15, y16.x16, y16.x17, y16.x18, y16.x19, y16.x20, y16.x21] : List Int) == [y17.x0, y17.x1, y17.x2, y17.x3, y17.x4, y17.x5, y17.x6, y17.x7, y17.x8, y17.x9, y17.x10, y17.x11, y17.x12, y17.x13, y17.x14, y17.x15, y17.x16, y17.x17, y17.x18, y17.x19, y17.x20, y17.x21]))] (law17_awake n)).bind fun (y18 : Bool) => some ((((y12 == y13) && (y14 == y15)) && (([y16.x0, y16.x1, y16.x2, y16.x3, y16.x4, y16.x5, y16.x6, y16.x7, y16.x8, y16.x9, y16.x10, y16.x11, y16.x12, y16.x13, y16.x14, y16.x15, y16.x16, y16.x17, y16.x18, y16.x19, y16.x20, y16.x21] : List Int) == [y17.x0, y17.x1, y17.x2, y17.x3, y17.x4, y17.x5, y17.x6, y17.x7, y17.x8, y17.x9, y17.x10, y17.x11, y17.x12, y17.x13, y17.x14, y17.x15, y17.x16, y17.x17, y17.x18, y17.x19, y17.x20, y17.x21])) && y18)) (fun (j1 : Unit → Option Bool) => law17_StyleTable_L0 p1 j1 p0 n (-1 : Int)))
set_option maxRecDepth 100000 in
set_option maxHeartbeats 4000000 in
theorem law17_StyleTable_ok  (n : Nat) (p0 : Int) (p1 : Int) (r : Bool) (h : law17_StyleTable n p0 p1 = some r) : FnD E 3 0 [.c (I p0), .c (I p1)] [] (.c (Bo r)) [] := by
  refine zfn Tryd.func3 rfl ?_
  unfold law17_StyleTable at h
  refine za [0, 1] ?_
  refine aw_join h (fun A j => ∀ (u : Unit), j u = some r → A (mk [(0, .c (I p0)), (1, .c (I p1))] [] 0)) (fun u h => ?_) (fun j1 Aj1 hj1 h => ?_)
  · refine zx fun _ => ?_
    refine zk 1 ?_
    obtain ⟨y12, he, h⟩ := bindE h
    refine rx_call (F := 9) (As := [.c (I p0)]) (Bs := [.c (I p0)]) (r := .c (Bo y12)) (v := .c (Bo y12)) (by kernel_rfl) fok9 (by kernel_rfl) (style_Inherited_ok n _ y12 he) (by kernel_rfl) (by kernel_rfl) rfl rfl ?_
    clear he
    refine zk 1 ?_
    obtain ⟨y13, he, h⟩ := bindE h
    refine rx_call (F := 10) (As := [.c (I p0)]) (Bs := [.c (I p0)]) (r := .c (Bo y13)) (v := .c (Bo y13)) (by kernel_rfl) fok10 (by kernel_rfl) (ref17_Inherited_ok n _ y13 he) (by kernel_rfl) (by kernel_rfl) rfl rfl ?_
    clear he
    refine zk 2 ?_
    refine zE (.c (I p0)) ?_
    refine zE (.c (I p1)) ?_
    obtain ⟨y14, he, h⟩ := bindE h
    refine rx_Ecall (e := [(y12 == y13)]) [(30, .c (I p0), some 1), (31, .c (I p1), some 1)] (F := 11) (As := [.c (I p0), .c (I p1)]) (Bs := [.c (I p0), .c (I p1)]) (r := .c (Bo y14)) (v := .c (Bo y14)) (by kernel_rfl) (by kernel_rfl) (by kernel_rfl) (by kernel_rfl) fok11 (by kernel_rfl) (fun hg => style_InRange_ok n _ _ y14 (gd_spec he hg)) (by kernel_rfl) rfl rfl ?_
    clear he
    refine zE (.c (I p0)) ?_
    refine zE (.c (I p1)) ?_
    obtain ⟨y15, he, h⟩ := bindE h
    refine rx_Ecall (e := [(y12 == y13)]) [(33, .c (I p0), some 1), (34, .c (I p1), some 1)] (F := 12) (As := [.c (I p0), .c (I p1)]) (Bs := [.c (I p0), .c (I p1)]) (r := .c (Bo y15)) (v := .c (Bo y15)) (by kernel_rfl) (by kernel_rfl) (by kernel_rfl) (by kernel_rfl) fok12 (by kernel_rfl) (fun hg => ref17_InRange_ok n _ _ y15 (gd_spec he hg)) (by kernel_rfl) rfl rfl ?_
    clear he
    refine zE (.c (Bo (y14 == y15))) ?_
    refine zP (.bool ((y12 == y13) && (y14 == y15))) ?_
    refine zke 1 (L' := [(0, .c (I p0)), (1, .c (I p1)), (24, .c (I p0)), (25, .c (Bo y12)), (26, .c (I p0)), (27, .c (Bo y13)), (28, .c (Bo (y12 == y13))), (29, .c (Bo (y12 == y13))), (30, .cnd [(y12 == y13)] (.c (I p0))), (31, .cnd [(y12 == y13)] (.c (I p1))), (32, .cnd [(y12 == y13)] (.c (Bo y14))), (33, .cnd [(y12 == y13)] (.c (I p0))), (34, .cnd [(y12 == y13)] (.c (I p1))), (35, .cnd [(y12 == y13)] (.c (Bo y15))), (36, .cnd [(y12 == y13)] (.c (Bo (y14 == y15)))), (37, .c (Bo ((y12 == y13) && (y14 == y15)))), (38, .c (Bo ((y12 == y13) && (y14 == y15))))]) (G' := []) (X' := []) ?_
    obtain ⟨y16, he, h⟩ := bindE h
    refine rx_Ecall (e := [((y12 == y13) && (y14 == y15))]) [] (F := 13) (As := []) (Bs := []) (r := .agg [I y16.x0, I y16.x1, I y16.x2, I y16.x3, I y16.x4, I y16.x5, I y16.x6, I y16.x7, I y16.x8, I y16.x9, I y16.x10, I y16.x11, I y16.x12, I y16.x13, I y16.x14, I y16.x15, I y16.x16, I y16.x17, I y16.x18, I y16.x19, I y16.x20, I y16.x21]) (v := .agg [I y16.x0, I y16.x1, I y16.x2, I y16.x3, I y16.x4, I y16.x5, I y16.x6, I y16.x7, I y16.x8, I y16.x9, I y16.x10, I y16.x11, I y16.x12, I y16.x13, I y16.x14, I y16.x15, I y16.x16, I y16.x17, I y16.x18, I y16.x19, I y16.x20, I y16.x21]) (by kernel_rfl) (by kernel_rfl) (by kernel_rfl) (by kernel_rfl) fok13 (by kernel_rfl) (fun hg => style_Initial_ok n  y16 (gd_spec he hg)) (by kernel_rfl) rfl rfl ?_
    clear he
    obtain ⟨y17, he, h⟩ := bindE h
    refine rx_Ecall (e := [((y12 == y13) && (y14 == y15))]) [] (F := 14) (As := []) (Bs := []) (r := .agg [I y17.x0, I y17.x1, I y17.x2, I y17.x3, I y17.x4, I y17.x5, I y17.x6, I y17.x7, I y17.x8, I y17.x9, I y17.x10, I y17.x11, I y17.x12, I y17.x13, I y17.x14, I y17.x15, I y17.x16, I y17.x17, I y17.x18, I y17.x19, I y17.x20, I y17.x21]) (v := .agg [I y17.x0, I y17.x1, I y17.x2, I y17.x3, I y17.x4, I y17.x5, I y17.x6, I y17.x7, I y17.x8, I y17.x9, I y17.x10, I y17.x11, I y17.x12, I y17.x13, I y17.x14, I y17.x15, I y17.x16, I y17.x17, I y17.x18, I y17.x19, I y17.x20, I y17.x21]) (by kernel_rfl) (by kernel_rfl) (by kernel_rfl) (by kernel_rfl) fok14 (by kernel_rfl) (fun hg => ref17_Initial_ok n  y17 (gd_spec he hg)) (by kernel_rfl) rfl rfl ?_
    clear he
    refine rx_EW (e := [((y12 == y13) && (y14 == y15))]) [(39, .agg [I y16.x0, I y16.x1, I y16.x2, I y16.x3, I y16.x4, I y16.x5, I y16.x6, I y16.x7, I y16.x8, I y16.x9, I y16.x10, I y16.x11, I y16.x12, I y16.x13, I y16.x14, I y16.x15, I y16.x16, I y16.x17, I y16.x18, I y16.x19, I y16.x20, I y16.x21], some 1), (40, .agg [I y17.x0, I y17.x1, I y17.x2, I y17.x3, I y17.x4, I y17.x5, I y17.x6, I y17.x7, I y17.x8, I y17.x9, I y17.x10, I y17.x11, I y17.x12, I y17.x13, I y17.x14, I y17.x15, I y17.x16, I y17.x17, I y17.x18, I y17.x19, I y17.x20, I y17.x21], some 1)] (v := .c (Bo (([y16.x0, y16.x1, y16.x2, y16.x3, y16.x4, y16.x5, y16.x6, y16.x7, y16.x8, y16.x9, y16.x10, y16.x11, y16.x12, y16.x13, y16.x14, y16.x15, y16.x16, y16.x17, y16.x18, y16.x19, y16.x20, y16.x21] : List Int) == [y17.x0, y17.x1, y17.x2, y17.x3, y17.x4, y17.x5, y17.x6, y17.x7, y17.x8, y17.x9, y17.x10, y17.x11, y17.x12, y17.x13, y17.x14, y17.x15, y17.x16, y17.x17, y17.x18, y17.x19, y17.x20, y17.x21]))) (foot := []) (by kernel_rfl) (by kernel_rfl) (by kernel_rfl) (fun hg => rdW_eqA (w := true) (xs := [y16.x0, y16.x1, y16.x2, y16.x3, y16.x4, y16.x5, y16.x6, y16.x7, y16.x8, y16.x9, y16.x10, y16.x11, y16.x12, y16.x13, y16.x14, y16.x15, y16.x16, y16.x17, y16.x18, y16.x19, y16.x20, y16.x21]) (ys := [y17.x0, y17.x1, y17.x2, y17.x3, y17.x4, y17.x5, y17.x6, y17.x7, y17.x8, y17.x9, y17.x10, y17.x11, y17.x12, y17.x13, y17.x14, y17.x15, y17.x16, y17.x17, y17.x18, y17.x19, y17.x20, y17.x21]) (T := 25) (e := 3) (r := (([y16.x0, y16.x1, y16.x2, y16.x3, y16.x4, y16.x5, y16.x6, y16.x7, y16.x8, y16.x9, y16.x10, y16.x11, y16.x12, y16.x13, y16.x14, y16.x15, y16.x16, y16.x17, y16.x18, y16.x19, y16.x20, y16.x21] : List Int) == [y17.x0, y17.x1, y17.x2, y17.x3, y17.x4, y17.x5, y17.x6, y17.x7, y17.x8, y17.x9, y17.x10, y17.x11, y17.x12, y17.x13, y17.x14, y17.x15, y17.x16, y17.x17, y17.x18, y17.x19, y17.x20, y17.x21])) (len := 22) (by kernel_rfl) rfl rfl (by kernel_rfl) rfl rfl rfl) rfl rfl ?_
    refine zP (.bool (((y12 == y13) && (y14 == y15)) && (([y16.x0, y16.x1, y16.x2, y16.x3, y16.x4, y16.x5, y16.x6, y16.x7, y16.x8, y16.x9, y16.x10, y16.x11, y16.x12, y16.x13, y16.x14, y16.x15, y16.x16, y16.x17, y16.x18, y16.x19, y16.x20, y16.x21] : List Int) == [y17.x0, y17.x1, y17.x2, y17.x3, y17.x4, y17.x5, y17.x6, y17.x7, y17.x8, y17.x9, y17.x10, y17.x11, y17.x12, y17.x13, y17.x14, y17.x15, y17.x16, y17.x17, y17.x18, y17.x19, y17.x20, y17.x21]))) ?_
    refine zk 1 ?_
    obtain ⟨y18, he, h⟩ := bindE h
    refine rx_Ecall (e := [(((y12 == y13) && (y14 == y15)) && (([y16.x0, y16.x1, y16.x2, y16.x3, y16.x4, y16.x5, y16.x6, y16.x7, y16.x8, y16.x9, y16.x10, y16.x11, y16.x12, y16.x13, y16.x14, y16.x15, y16.x16, y16.x17, y16.x18, y16.x19, y16.x20, y16.x21] : List Int) == [y17.x0, y17.x1, y17.x2, y17.x3, y17.x4, y17.x5, y17.x6, y17.x7, y17.x8, y17.x9, y17.x10, y17.x11, y17.x12, y17.x13, y17.x14, y17.x15, y17.x16, y17.x17, y17.x18, y17.x19, y17.x20, y17.x21]))]) [] (F := 15) (As := []) (Bs := []) (r := .c (Bo y18)) (v := .c (Bo y18)) (by kernel_rfl) (by kernel_rfl) (by kernel_rfl) (by kernel_rfl) fok15 (by kernel_rfl) (fun hg => law17_awake_ok n  y18 (gd_spec he hg)) (by kernel_rfl) rfl rfl ?_
    clear he
    refine zP (.bool ((((y12 == y13) && (y14 == y15)) && (([y16.x0, y16.x1, y16.x2, y16.x3, y16.x4, y16.x5, y16.x6, y16.x7, y16.x8, y16.x9, y16.x10, y16.x11, y16.x12, y16.x13, y16.x14, y16.x15, y16.x16, y16.x17, y16.x18, y16.x19, y16.x20, y16.x21] : List Int) == [y17.x0, y17.x1, y17.x2, y17.x3, y17.x4, y17.x5, y17.x6, y17.x7, y17.x8, y17.x9, y17.x10, y17.x11, y17.x12, y17.x13, y17.x14, y17.x15, y17.x16, y17.x17, y17.x18, y17.x19, y17.x20, y17.x21])) && y18)) ?_
    refine zk 1 ?_
    refine zee [4] (L2 := [(4, .c (Bo ((((y12 == y13) && (y14 == y15)) && (([y16.x0, y16.x1, y16.x2, y16.x3, y16.x4, y16.x5, y16.x6, y16.x7, y16.x8, y16.x9, y16.x10, y16.x11, y16.x12, y16.x13, y16.x14, y16.x15, y16.x16, y16.x17, y16.x18, y16.x19, y16.x20, y16.x21] : List Int) == [y17.x0, y17.x1, y17.x2, y17.x3, y17.x4, y17.x5, y17.x6, y17.x7, y17.x8, y17.x9, y17.x10, y17.x11, y17.x12, y17.x13, y17.x14, y17.x15, y17.x16, y17.x17, y17.x18, y17.x19, y17.x20, y17.x21])) && y18)))]) (G2 := []) 23 ?_
    have h := Option.some.inj h
    subst h
    exact aw_ret (fin_pub (A := .c (Bo ((((y12 == y13) && (y14 == y15)) && (([y16.x0, y16.x1, y16.x2, y16.x3, y16.x4, y16.x5, y16.x6, y16.x7, y16.x8, y16.x9, y16.x10, y16.x11, y16.x12, y16.x13, y16.x14, y16.x15, y16.x16, y16.x17, y16.x18, y16.x19, y16.x20, y16.x21] : List Int) == [y17.x0, y17.x1, y17.x2, y17.x3, y17.x4, y17.x5, y17.x6, y17.x7, y17.x8, y17.x9, y17.x10, y17.x11, y17.x12, y17.x13, y17.x14, y17.x15, y17.x16, y17.x17, y17.x18, y17.x19, y17.x20, y17.x21])) && y18))) (.inl rfl) (by kernel_rfl) (by kernel_rfl) (by kernel_rfl))
  · refine za [0, 1, 5] ?_
    refine aw_block ?_
    refine aw_loopJ (fun n s => ∃ (v6 : Int), law17_StyleTable_L0 p1 j1 p0 n v6 = some r ∧ s = mk [(0, .c (I p0)), (1, .c (I p1)), (5, .c (I v6))] [] 0) n _ (zv [] [0, 1, 5] 0) ⟨_, h, rfl⟩ (fun s ⟨v6, h, _⟩ => nomatch h) ?_
    rintro n s ⟨v6, h, rfl⟩
    rw [law17_StyleTable_L0] at h
    refine aw_seq ?_
    refine za [0, 1, 5, 7] ?_
    refine aw_ite (t := (decide (v6 ≤ 22))) (by kernel_rfl) h (fun h => ?_) (fun h => ?_)
    · refine aw_skip ?_
      refine aw_seq ?_
      refine aw_block ?_
      refine zx fun _ => ?_
      refine zk 1 ?_
      obtain ⟨y7, he, h⟩ := bindE h
      refine rx_call (F := 9) (As := [.c (I v6)]) (Bs := [.c (I v6)]) (r := .c (Bo y7)) (v := .c (Bo y7)) (by kernel_rfl) fok9 (by kernel_rfl) (style_Inherited_ok n _ y7 he) (by kernel_rfl) (by kernel_rfl) rfl rfl ?_
      clear he
      refine zk 1 ?_
      obtain ⟨y8, he, h⟩ := bindE h
      refine rx_call (F := 10) (As := [.c (I v6)]) (Bs := [.c (I v6)]) (r := .c (Bo y8)) (v := .c (Bo y8)) (by kernel_rfl) fok10 (by kernel_rfl) (ref17_Inherited_ok n _ y8 he) (by kernel_rfl) (by kernel_rfl) rfl rfl ?_
      clear he
      refine zk 2 ?_
      refine zE (.c (I v6)) ?_
      refine zE (.c (I p1)) ?_
      obtain ⟨y9, he, h⟩ := bindE h
      refine rx_Ecall (e := [(!(y7 != y8))]) [(16, .c (I v6), some 1), (17, .c (I p1), some 1)] (F := 11) (As := [.c (I v6), .c (I p1)]) (Bs := [.c (I v6), .c (I p1)]) (r := .c (Bo y9)) (v := .c (Bo y9)) (by kernel_rfl) (by kernel_rfl) (by kernel_rfl) (by kernel_rfl) fok11 (by kernel_rfl) (fun hg => style_InRange_ok n _ _ y9 (gd_spec he hg)) (by kernel_rfl) rfl rfl ?_
      clear he
      refine zE (.c (I v6)) ?_
      refine zE (.c (I p1)) ?_
      obtain ⟨y10, he, h⟩ := bindE h
      refine rx_Ecall (e := [(!(y7 != y8))]) [(19, .c (I v6), some 1), (20, .c (I p1), some 1)] (F := 12) (As := [.c (I v6), .c (I p1)]) (Bs := [.c (I v6), .c (I p1)]) (r := .c (Bo y10)) (v := .c (Bo y10)) (by kernel_rfl) (by kernel_rfl) (by kernel_rfl) (by kernel_rfl) fok12 (by kernel_rfl) (fun hg => ref17_InRange_ok n _ _ y10 (gd_spec he hg)) (by kernel_rfl) rfl rfl ?_
      clear he
      refine zE (.c (Bo (y9 != y10))) ?_
      refine zP (.bool ((y7 != y8) || (y9 != y10))) ?_
      refine zee [0, 1, 5, 23] (L2 := [(0, .c (I p0)), (1, .c (I p1)), (5, .c (I v6)), (23, .c (Bo ((y7 != y8) || (y9 != y10))))]) (G2 := []) 16 ?_
      refine aw_ite (t := ((y7 != y8) || (y9 != y10))) (by kernel_rfl) h (fun h => ?_) (fun h => ?_)
      · refine za [4] ?_
        have h := Option.some.inj h
        subst h
        exact aw_ret (fin_pub (A := .c (Bo false)) (.inl rfl) (by kernel_rfl) (by kernel_rfl) (by kernel_rfl))
      · refine aw_skip ?_
        refine aw_out ?_
        refine zb ?_
        exact via (zv [] [0, 1, 5] 0) (⟨_, h, rfl⟩)
    · exact aw_views (zv [] [0, 1] 0) (aw_exit (hj1 _ h))
def ref17_declaration  (n : Nat) (p0 : GRule) (p1 : GDecl) : Option Int := (if ((decide (p1.Prop_ < 0)) || (decide (p1.Prop_ ≥ 22))) = true then some 1 else (if ((((decide (p1.Source < 0)) || (decide (p1.Source > 3))) || ((p1.N != 0) && (p1.Source != 0))) || ((!(sEq p1.Token (⟨#[]⟩ : ByteArray))) && (p1.Source != 1))) = true then some 9 else (gd [(p1.Source == 0)] (ref17_InRange n p1.Prop_ p1.N)).bind fun (y1 : Bool) => (if ((p1.Source == 0) && (!y1)) = true then some 1 else (gd [(p1.Source == 1)] (ref11_Name n p1.Token)).bind fun (y2 : Bool) => (if ((p1.Source == 1) && (!y2)) = true then some 4 else (if (((p1.Prop_ == 5) || (p1.Prop_ == 21)) && ((bAnd .i64 p0.States 7) != 0)) = true then some 13 else some 0)))))
set_option maxRecDepth 100000 in
set_option maxHeartbeats 4000000 in
theorem ref17_declaration_ok  (n : Nat) (p0 : GRule) (p1 : GDecl) (r : Int) (h : ref17_declaration n p0 p1 = some r) : FnD E 32 0 [.agg [I p0.Kind, Sx p0.Class, I p0.States, I p0.UnderKind, Sx p0.UnderClass, .lit (List.map eGDecl p0.Decls)], .agg [I p1.Prop_, I p1.Source, I p1.N, Sx p1.Token]] [] (.c (I r)) [] := by
  refine zfn Tryd.func32 rfl ?_
  unfold ref17_declaration at h
  refine za [2, 3] ?_
  refine aw_seq ?_
  refine zx fun _ => ?_
  refine zk 4 ?_
  refine zE (.c (.ptr 1 0)) ?_
  refine zE (.c (I p1.Prop_)) ?_
  refine zE (.c (Bo (decide (p1.Prop_ ≥ 22)))) ?_
  refine zP (.bool ((decide (p1.Prop_ < 0)) || (decide (p1.Prop_ ≥ 22)))) ?_
  refine zee [2, 3, 12] (L2 := [(2, .c (.ptr 0 0)), (3, .c (.ptr 1 0)), (12, .c (Bo ((decide (p1.Prop_ < 0)) || (decide (p1.Prop_ ≥ 22)))))]) (G2 := [(0, .blk 33 [I p0.Kind, Sx p0.Class, I p0.States, I p0.UnderKind, Sx p0.UnderClass, .lit (List.map eGDecl p0.Decls)]), (1, .blk 45 [I p1.Prop_, I p1.Source, I p1.N, Sx p1.Token])]) 11 ?_
  refine aw_ite (t := ((decide (p1.Prop_ < 0)) || (decide (p1.Prop_ ≥ 22)))) (by kernel_rfl) h (fun h => ?_) (fun h => ?_)
  · refine za [4] ?_
    have h := Option.some.inj h
    subst h
    exact aw_ret (fin_pub (A := .c (I 1)) (.inl rfl) (by kernel_rfl) (by kernel_rfl) (by kernel_rfl))
  · refine aw_skip ?_
    refine aw_seq ?_
    refine zx fun _ => ?_
    refine zk 4 ?_
    refine zE (.c (.ptr 1 1)) ?_
    refine zE (.c (I p1.Source)) ?_
    refine zE (.c (Bo (decide (p1.Source > 3)))) ?_
    refine zP (.bool ((decide (p1.Source < 0)) || (decide (p1.Source > 3)))) ?_
    refine zk 1 ?_
    refine zE (.c (.ptr 1 2)) ?_
    refine zE (.c (I p1.N)) ?_
    refine zE (.c (Bo (p1.N != 0))) ?_
    refine zF [(!((decide (p1.Source < 0)) || (decide (p1.Source > 3))))] (.c (Bo (p1.N != 0))) ?_
    refine zE (.c (.ptr 1 1)) ?_
    refine zE (.c (I p1.Source)) ?_
    refine zE (.c (Bo (p1.Source != 0))) ?_
    refine zP (.bool ((p1.N != 0) && (p1.Source != 0))) ?_
    refine zP (.bool (((decide (p1.Source < 0)) || (decide (p1.Source > 3))) || ((p1.N != 0) && (p1.Source != 0)))) ?_
    refine zke 1 (L' := [(2, .c (.ptr 0 0)), (3, .c (.ptr 1 0)), (12, .c (Bo ((decide (p1.Prop_ < 0)) || (decide (p1.Prop_ ≥ 22))))), (13, .c (.ptr 1 1)), (14, .c (I p1.Source)), (15, .c (Bo (decide (p1.Source < 0)))), (16, .c (Bo (decide (p1.Source < 0)))), (17, .cnd [(!(decide (p1.Source < 0)))] (.c (.ptr 1 1))), (18, .cnd [(!(decide (p1.Source < 0)))] (.c (I p1.Source))), (19, .cnd [(!(decide (p1.Source < 0)))] (.c (Bo (decide (p1.Source > 3))))), (20, .c (Bo ((decide (p1.Source < 0)) || (decide (p1.Source > 3))))), (21, .c (Bo ((decide (p1.Source < 0)) || (decide (p1.Source > 3))))), (22, .cnd [(!((decide (p1.Source < 0)) || (decide (p1.Source > 3))))] (.c (.ptr 1 2))), (23, .cnd [(!((decide (p1.Source < 0)) || (decide (p1.Source > 3))))] (.c (I p1.N))), (24, .cnd [(!((decide (p1.Source < 0)) || (decide (p1.Source > 3))))] (.c (Bo (p1.N != 0)))), (25, .cnd [(!((decide (p1.Source < 0)) || (decide (p1.Source > 3))))] (.c (Bo (p1.N != 0)))), (26, .cnd [(!((decide (p1.Source < 0)) || (decide (p1.Source > 3)))), (p1.N != 0)] (.c (.ptr 1 1))), (27, .cnd [(!((decide (p1.Source < 0)) || (decide (p1.Source > 3)))), (p1.N != 0)] (.c (I p1.Source))), (28, .cnd [(!((decide (p1.Source < 0)) || (decide (p1.Source > 3)))), (p1.N != 0)] (.c (Bo (p1.Source != 0)))), (29, .cnd [(!((decide (p1.Source < 0)) || (decide (p1.Source > 3))))] (.c (Bo ((p1.N != 0) && (p1.Source != 0))))), (30, .c (Bo (((decide (p1.Source < 0)) || (decide (p1.Source > 3))) || ((p1.N != 0) && (p1.Source != 0))))), (31, .c (Bo (((decide (p1.Source < 0)) || (decide (p1.Source > 3))) || ((p1.N != 0) && (p1.Source != 0)))))]) (G' := [(0, .blk 33 [I p0.Kind, Sx p0.Class, I p0.States, I p0.UnderKind, Sx p0.UnderClass, .lit (List.map eGDecl p0.Decls)]), (1, .blk 45 [I p1.Prop_, I p1.Source, I p1.N, Sx p1.Token])]) (X' := []) ?_
    refine zE (.c (.ptr 1 3)) ?_
    refine zE (.c (Sx p1.Token)) ?_
    refine zE (.c (Bo (!(sEq p1.Token (⟨#[]⟩ : ByteArray))))) ?_
    refine zF [(!(((decide (p1.Source < 0)) || (decide (p1.Source > 3))) || ((p1.N != 0) && (p1.Source != 0))))] (.c (Bo (!(sEq p1.Token (⟨#[]⟩ : ByteArray))))) ?_
    refine zE (.c (.ptr 1 1)) ?_
    refine zE (.c (I p1.Source)) ?_
    refine zE (.c (Bo (p1.Source != 1))) ?_
    refine zP (.bool ((!(sEq p1.Token (⟨#[]⟩ : ByteArray))) && (p1.Source != 1))) ?_
    refine zP (.bool ((((decide (p1.Source < 0)) || (decide (p1.Source > 3))) || ((p1.N != 0) && (p1.Source != 0))) || ((!(sEq p1.Token (⟨#[]⟩ : ByteArray))) && (p1.Source != 1)))) ?_
    refine zee [2, 3, 40] (L2 := [(2, .c (.ptr 0 0)), (3, .c (.ptr 1 0)), (40, .c (Bo ((((decide (p1.Source < 0)) || (decide (p1.Source > 3))) || ((p1.N != 0) && (p1.Source != 0))) || ((!(sEq p1.Token (⟨#[]⟩ : ByteArray))) && (p1.Source != 1)))))]) (G2 := [(0, .blk 33 [I p0.Kind, Sx p0.Class, I p0.States, I p0.UnderKind, Sx p0.UnderClass, .lit (List.map eGDecl p0.Decls)]), (1, .blk 45 [I p1.Prop_, I p1.Source, I p1.N, Sx p1.Token])]) 39 ?_
    refine aw_ite (t := ((((decide (p1.Source < 0)) || (decide (p1.Source > 3))) || ((p1.N != 0) && (p1.Source != 0))) || ((!(sEq p1.Token (⟨#[]⟩ : ByteArray))) && (p1.Source != 1)))) (by kernel_rfl) h (fun h => ?_) (fun h => ?_)
    · refine za [4] ?_
      have h := Option.some.inj h
      subst h
      exact aw_ret (fin_pub (A := .c (I 9)) (.inl rfl) (by kernel_rfl) (by kernel_rfl) (by kernel_rfl))
    · refine aw_skip ?_
      refine aw_seq ?_
      refine zx fun _ => ?_
      refine zk 4 ?_
      refine zE (.c (.ptr 1 0)) ?_
      refine zE (.c (I p1.Prop_)) ?_
      refine zE (.c (.ptr 1 2)) ?_
      refine zE (.c (I p1.N)) ?_
      obtain ⟨y1, he, h⟩ := bindE h
      refine rx_Ecall (e := [(p1.Source == 0)]) [(46, .c (I p1.Prop_), some 1), (48, .c (I p1.N), some 1)] (F := 12) (As := [.c (I p1.Prop_), .c (I p1.N)]) (Bs := [.c (I p1.Prop_), .c (I p1.N)]) (r := .c (Bo y1)) (v := .c (Bo y1)) (by kernel_rfl) (by kernel_rfl) (by kernel_rfl) (by kernel_rfl) fok12 (by kernel_rfl) (fun hg => ref17_InRange_ok n _ _ y1 (gd_spec he hg)) (by kernel_rfl) rfl rfl ?_
      clear he
      refine zE (.c (Bo (!y1))) ?_
      refine zP (.bool ((p1.Source == 0) && (!y1))) ?_
      refine zee [2, 3, 51] (L2 := [(2, .c (.ptr 0 0)), (3, .c (.ptr 1 0)), (51, .c (Bo ((p1.Source == 0) && (!y1))))]) (G2 := [(0, .blk 33 [I p0.Kind, Sx p0.Class, I p0.States, I p0.UnderKind, Sx p0.UnderClass, .lit (List.map eGDecl p0.Decls)]), (1, .blk 45 [I p1.Prop_, I p1.Source, I p1.N, Sx p1.Token])]) 50 ?_
      refine aw_ite (t := ((p1.Source == 0) && (!y1))) (by kernel_rfl) h (fun h => ?_) (fun h => ?_)
      · refine za [4] ?_
        have h := Option.some.inj h
        subst h
        exact aw_ret (fin_pub (A := .c (I 1)) (.inl rfl) (by kernel_rfl) (by kernel_rfl) (by kernel_rfl))
      · refine aw_skip ?_
        refine aw_seq ?_
        refine zx fun _ => ?_
        refine zk 4 ?_
        refine zE (.c (.ptr 1 3)) ?_
        refine zE (.c (Sx p1.Token)) ?_
        obtain ⟨y2, he, h⟩ := bindE h
        refine rx_Ecall (e := [(p1.Source == 1)]) [(57, .c (Sx p1.Token), some 1)] (F := 31) (As := [.c (Sx p1.Token)]) (Bs := [.c (Sx p1.Token)]) (r := .c (Bo y2)) (v := .c (Bo y2)) (by kernel_rfl) (by kernel_rfl) (by kernel_rfl) (by kernel_rfl) fok31 (by kernel_rfl) (fun hg => ref11_Name_ok n _ y2 (gd_spec he hg)) (by kernel_rfl) rfl rfl ?_
        clear he
        refine zE (.c (Bo (!y2))) ?_
        refine zP (.bool ((p1.Source == 1) && (!y2))) ?_
        refine zee [2, 3, 60] (L2 := [(2, .c (.ptr 0 0)), (3, .c (.ptr 1 0)), (60, .c (Bo ((p1.Source == 1) && (!y2))))]) (G2 := [(0, .blk 33 [I p0.Kind, Sx p0.Class, I p0.States, I p0.UnderKind, Sx p0.UnderClass, .lit (List.map eGDecl p0.Decls)]), (1, .blk 45 [I p1.Prop_, I p1.Source, I p1.N, Sx p1.Token])]) 59 ?_
        refine aw_ite (t := ((p1.Source == 1) && (!y2))) (by kernel_rfl) h (fun h => ?_) (fun h => ?_)
        · refine za [4] ?_
          have h := Option.some.inj h
          subst h
          exact aw_ret (fin_pub (A := .c (I 4)) (.inl rfl) (by kernel_rfl) (by kernel_rfl) (by kernel_rfl))
        · refine aw_skip ?_
          refine aw_seq ?_
          refine zx fun _ => ?_
          refine zk 4 ?_
          refine zE (.c (.ptr 1 0)) ?_
          refine zE (.c (I p1.Prop_)) ?_
          refine zE (.c (Bo (p1.Prop_ == 21))) ?_
          refine zP (.bool ((p1.Prop_ == 5) || (p1.Prop_ == 21))) ?_
          refine zk 1 ?_
          refine zE (.c (.ptr 0 2)) ?_
          refine zE (.c (I p0.States)) ?_
          refine zE (.c (I (bAnd .i64 p0.States 7))) ?_
          refine zE (.c (Bo ((bAnd .i64 p0.States 7) != 0))) ?_
          refine zP (.bool (((p1.Prop_ == 5) || (p1.Prop_ == 21)) && ((bAnd .i64 p0.States 7) != 0))) ?_
          refine zee [74] (L2 := [(74, .c (Bo (((p1.Prop_ == 5) || (p1.Prop_ == 21)) && ((bAnd .i64 p0.States 7) != 0))))]) (G2 := [(0, .blk 33 [I p0.Kind, Sx p0.Class, I p0.States, I p0.UnderKind, Sx p0.UnderClass, .lit (List.map eGDecl p0.Decls)]), (1, .blk 45 [I p1.Prop_, I p1.Source, I p1.N, Sx p1.Token])]) 73 ?_
          refine aw_ite (t := (((p1.Prop_ == 5) || (p1.Prop_ == 21)) && ((bAnd .i64 p0.States 7) != 0))) (by kernel_rfl) h (fun h => ?_) (fun h => ?_)
          · refine za [4] ?_
            have h := Option.some.inj h
            subst h
            exact aw_ret (fin_pub (A := .c (I 13)) (.inl rfl) (by kernel_rfl) (by kernel_rfl) (by kernel_rfl))
          · refine aw_skip ?_
            refine za [4] ?_
            have h := Option.some.inj h
            subst h
            exact aw_ret (fin_pub (A := .c (I 0)) (.inl rfl) (by kernel_rfl) (by kernel_rfl) (by kernel_rfl))
def ref17_Validate_L1 (e14 : GRule) (j13 : Unit → Option Int) (v12 : Int) (p0 : GSheet) : Nat → Int → Option Int
  | 0, _ => none
  | n + 1, v19 => (if (decide (v19 < (List.length e14.Decls : Int))) = true then (idx e14.Decls v19).bind fun (e20 : GDecl) => (ref17_declaration n e14 e20).bind fun (y21 : Int) => (if (y21 != 0) = true then some y21 else ref17_Validate_L1 e14 j13 v12 p0 n (IntKind.wrap .i64 (v19 + 1))) else j13 ())
def ref17_Validate_L0 (p0 : GSheet) (j1 : Unit → Option Int) : Nat → Int → Option Int
  | 0, _ => none
  | n + 1, v12 => (if (decide (v12 < (List.length p0.Rules : Int))) = true then (withJ (fun (_ : Unit) => ref17_Validate_L0 p0 j1 n (IntKind.wrap .i64 (v12 + 1))) (fun (j13 : Unit → Option Int) => (idx p0.Rules v12).bind fun (e14 : GRule) => (if ((((decide (e14.Kind < 0)) || (decide (e14.Kind > 13))) || (decide (e14.UnderKind < 0))) || (decide (e14.UnderKind > 13))) = true then some 9 else (gd [(!(sEq e14.Class (⟨#[]⟩ : ByteArray)))] (ref11_Name n e14.Class)).bind fun (y15 : Bool) => (gd [(!((!(sEq e14.Class (⟨#[]⟩ : ByteArray))) && (!y15))), (!(sEq e14.UnderClass (⟨#[]⟩ : ByteArray)))] (ref11_Name n e14.UnderClass)).bind fun (y16 : Bool) => (if (((!(sEq e14.Class (⟨#[]⟩ : ByteArray))) && (!y15)) || ((!(sEq e14.UnderClass (⟨#[]⟩ : ByteArray))) && (!y16))) = true then some 4 else (if ((decide (e14.States < 0)) || (decide (e14.States > 31))) = true then some 1 else (if (decide ((List.length e14.Decls : Int) > 50)) = true then some 2 else ref17_Validate_L1 e14 j13 v12 p0 n 0)))))) else j1 ())
def ref17_Validate  (n : Nat) (p0 : GSheet) : Option Int := (if (decide ((List.length p0.Rules : Int) > 100)) = true then some 2 else (withJ (fun (_ : Unit) => some 0) (fun (j1 : Unit → Option Int) => ref17_Validate_L0 p0 j1 n 0)))
set_option maxRecDepth 100000 in
set_option maxHeartbeats 4000000 in
theorem ref17_Validate_ok  (n : Nat) (p0 : GSheet) (r : Int) (h : ref17_Validate n p0 = some r) : FnD E 17 0 [.agg [.lit (List.map eGRule p0.Rules)]] [] (.c (I r)) [] := by
  refine zfn Tryd.func17 rfl ?_
  unfold ref17_Validate at h
  refine za [1] ?_
  refine aw_seq ?_
  refine zx fun _ => ?_
  refine zk 2 ?_
  refine rx_rd (v := .c (I (List.length p0.Rules : Int))) (foot := []) (rd_len (enc := eGRule) (l := p0.Rules) (by kernel_rfl)) (by kernel_rfl) rfl rfl ?_
  refine zk 1 ?_
  refine ze [1, 10] ?_
  refine aw_ite (t := (decide ((List.length p0.Rules : Int) > 100))) (by kernel_rfl) h (fun h => ?_) (fun h => ?_)
  · refine za [2] ?_
    have h := Option.some.inj h
    subst h
    exact aw_ret (fin_pub (A := .c (I 2)) (.inl rfl) (by kernel_rfl) (by kernel_rfl) (by kernel_rfl))
  · refine aw_skip ?_
    refine aw_join h (fun A j => ∀ (u : Unit), j u = some r → A (mk [] [] 0)) (fun u h => ?_) (fun j1 Aj1 hj1 h => ?_)
    · refine za [2] ?_
      have h := Option.some.inj h
      subst h
      exact aw_ret (fin_pub (A := .c (I 0)) (.inl rfl) (by kernel_rfl) (by kernel_rfl) (by kernel_rfl))
    · refine za [1, 3] ?_
      refine aw_block ?_
      refine aw_loopJ (fun n s => ∃ (v12 : Int), ref17_Validate_L0 p0 j1 n v12 = some r ∧ s = mk [(1, .c (.ptr 0 0)), (3, .c (I v12))] [(0, .blk 30 [.lit (List.map eGRule p0.Rules)])] 1) n _ (zv [(0, 0)] [1, 3] 1) ⟨_, h, rfl⟩ (fun s ⟨v12, h, _⟩ => nomatch h) ?_
      rintro n s ⟨v12, h, rfl⟩
      rw [ref17_Validate_L0] at h
      refine aw_seq ?_
      refine zx fun _ => ?_
      refine zk 3 ?_
      refine rx_rd (v := .c (I (List.length p0.Rules : Int))) (foot := []) (rd_len (enc := eGRule) (l := p0.Rules) (by kernel_rfl)) (by kernel_rfl) rfl rfl ?_
      refine zk 1 ?_
      refine ze [1, 3, 15] ?_
      refine aw_ite (t := (decide (v12 < (List.length p0.Rules : Int)))) (by kernel_rfl) h (fun h => ?_) (fun h => ?_)
      · refine aw_skip ?_
        refine aw_join h (fun A j => ∀ (u : Unit), j u = some r → A (mk [(1, .c (.ptr 0 0)), (3, .c (I v12))] [(0, .blk 30 [.lit (List.map eGRule p0.Rules)])] 1)) (fun u h => ?_) (fun j13 Aj13 hj13 h => ?_)
        · refine aw_out ?_
          refine zb ?_
          exact via (zv [(0, 0)] [1, 3] 1) (⟨_, h, rfl⟩)
        · refine aw_block ?_
          refine zx fun _ => ?_
          refine zk 3 ?_
          obtain ⟨e14, he, h⟩ := bindE h
          refine rx_rd (v := .c (.imm [I e14.Kind, Sx e14.Class, I e14.States, I e14.UnderKind, Sx e14.UnderClass, .lit (List.map eGDecl e14.Decls)])) (foot := []) (rd_idx (enc := eGRule) (sz := 6) (l := p0.Rules) (ix := v12) he (by kernel_rfl) (by kernel_rfl) (by kernel_rfl)) (by kernel_rfl) rfl rfl ?_
          clear he
          refine zk 3 ?_
          refine zee [1, 3, 4] (L2 := [(1, .c (.ptr 0 0)), (3, .c (I v12)), (4, .c (.ptr 11 0))]) (G2 := [(0, .blk 30 [.lit (List.map eGRule p0.Rules)]), (11, .blk 33 [I e14.Kind, Sx e14.Class, I e14.States, I e14.UnderKind, Sx e14.UnderClass, .lit (List.map eGDecl e14.Decls)])]) 13 ?_
          refine aw_seq ?_
          refine zx fun _ => ?_
          refine zk 4 ?_
          refine zE (.c (.ptr 11 0)) ?_
          refine zE (.c (I e14.Kind)) ?_
          refine zE (.c (Bo (decide (e14.Kind > 13)))) ?_
          refine zP (.bool ((decide (e14.Kind < 0)) || (decide (e14.Kind > 13)))) ?_
          refine zk 1 ?_
          refine zE (.c (.ptr 11 3)) ?_
          refine zE (.c (I e14.UnderKind)) ?_
          refine zE (.c (Bo (decide (e14.UnderKind < 0)))) ?_
          refine zP (.bool (((decide (e14.Kind < 0)) || (decide (e14.Kind > 13))) || (decide (e14.UnderKind < 0)))) ?_
          refine zk 1 ?_
          refine zE (.c (.ptr 11 3)) ?_
          refine zE (.c (I e14.UnderKind)) ?_
          refine zE (.c (Bo (decide (e14.UnderKind > 13)))) ?_
          refine zP (.bool ((((decide (e14.Kind < 0)) || (decide (e14.Kind > 13))) || (decide (e14.UnderKind < 0))) || (decide (e14.UnderKind > 13)))) ?_
          refine zee [1, 3, 4, 40] (L2 := [(1, .c (.ptr 0 0)), (3, .c (I v12)), (4, .c (.ptr 11 0)), (40, .c (Bo ((((decide (e14.Kind < 0)) || (decide (e14.Kind > 13))) || (decide (e14.UnderKind < 0))) || (decide (e14.UnderKind > 13)))))]) (G2 := [(0, .blk 30 [.lit (List.map eGRule p0.Rules)]), (11, .blk 33 [I e14.Kind, Sx e14.Class, I e14.States, I e14.UnderKind, Sx e14.UnderClass, .lit (List.map eGDecl e14.Decls)])]) 31 ?_
          refine aw_ite (t := ((((decide (e14.Kind < 0)) || (decide (e14.Kind > 13))) || (decide (e14.UnderKind < 0))) || (decide (e14.UnderKind > 13)))) (by kernel_rfl) h (fun h => ?_) (fun h => ?_)
          · refine za [2] ?_
            have h := Option.some.inj h
            subst h
            exact aw_ret (fin_pub (A := .c (I 9)) (.inl rfl) (by kernel_rfl) (by kernel_rfl) (by kernel_rfl))
          · refine aw_skip ?_
            refine aw_seq ?_
            refine zx fun _ => ?_
            refine zk 4 ?_
            refine zE (.c (.ptr 11 1)) ?_
            refine zE (.c (Sx e14.Class)) ?_
            obtain ⟨y15, he, h⟩ := bindE h
            refine rx_Ecall (e := [(!(sEq e14.Class (⟨#[]⟩ : ByteArray)))]) [(46, .c (Sx e14.Class), some 1)] (F := 31) (As := [.c (Sx e14.Class)]) (Bs := [.c (Sx e14.Class)]) (r := .c (Bo y15)) (v := .c (Bo y15)) (by kernel_rfl) (by kernel_rfl) (by kernel_rfl) (by kernel_rfl) fok31 (by kernel_rfl) (fun hg => ref11_Name_ok n _ y15 (gd_spec he hg)) (by kernel_rfl) rfl rfl ?_
            clear he
            refine zE (.c (Bo (!y15))) ?_
            refine zP (.bool ((!(sEq e14.Class (⟨#[]⟩ : ByteArray))) && (!y15))) ?_
            refine zk 1 ?_
            refine zE (.c (.ptr 11 4)) ?_
            refine zE (.c (Sx e14.UnderClass)) ?_
            refine zE (.c (Bo (!(sEq e14.UnderClass (⟨#[]⟩ : ByteArray))))) ?_
            refine zF [(!((!(sEq e14.Class (⟨#[]⟩ : ByteArray))) && (!y15)))] (.c (Bo (!(sEq e14.UnderClass (⟨#[]⟩ : ByteArray))))) ?_
            refine zE (.c (.ptr 11 4)) ?_
            refine zE (.c (Sx e14.UnderClass)) ?_
            obtain ⟨y16, he, h⟩ := bindE h
            refine rx_Ecall (e := [(!((!(sEq e14.Class (⟨#[]⟩ : ByteArray))) && (!y15))), (!(sEq e14.UnderClass (⟨#[]⟩ : ByteArray)))]) [(56, .c (Sx e14.UnderClass), some 2)] (F := 31) (As := [.c (Sx e14.UnderClass)]) (Bs := [.c (Sx e14.UnderClass)]) (r := .c (Bo y16)) (v := .c (Bo y16)) (by kernel_rfl) (by kernel_rfl) (by kernel_rfl) (by kernel_rfl) fok31 (by kernel_rfl) (fun hg => ref11_Name_ok n _ y16 (gd_spec he hg)) (by kernel_rfl) rfl rfl ?_
            clear he
            refine zE (.c (Bo (!y16))) ?_
            refine zP (.bool ((!(sEq e14.UnderClass (⟨#[]⟩ : ByteArray))) && (!y16))) ?_
            refine zP (.bool (((!(sEq e14.Class (⟨#[]⟩ : ByteArray))) && (!y15)) || ((!(sEq e14.UnderClass (⟨#[]⟩ : ByteArray))) && (!y16)))) ?_
            refine zee [1, 3, 4, 60] (L2 := [(1, .c (.ptr 0 0)), (3, .c (I v12)), (4, .c (.ptr 11 0)), (60, .c (Bo (((!(sEq e14.Class (⟨#[]⟩ : ByteArray))) && (!y15)) || ((!(sEq e14.UnderClass (⟨#[]⟩ : ByteArray))) && (!y16)))))]) (G2 := [(0, .blk 30 [.lit (List.map eGRule p0.Rules)]), (11, .blk 33 [I e14.Kind, Sx e14.Class, I e14.States, I e14.UnderKind, Sx e14.UnderClass, .lit (List.map eGDecl e14.Decls)])]) 51 ?_
            refine aw_ite (t := (((!(sEq e14.Class (⟨#[]⟩ : ByteArray))) && (!y15)) || ((!(sEq e14.UnderClass (⟨#[]⟩ : ByteArray))) && (!y16)))) (by kernel_rfl) h (fun h => ?_) (fun h => ?_)
            · refine za [2] ?_
              have h := Option.some.inj h
              subst h
              exact aw_ret (fin_pub (A := .c (I 4)) (.inl rfl) (by kernel_rfl) (by kernel_rfl) (by kernel_rfl))
            · refine aw_skip ?_
              refine aw_seq ?_
              refine zx fun _ => ?_
              refine zk 4 ?_
              refine zE (.c (.ptr 11 2)) ?_
              refine zE (.c (I e14.States)) ?_
              refine zE (.c (Bo (decide (e14.States > 31)))) ?_
              refine zP (.bool ((decide (e14.States < 0)) || (decide (e14.States > 31)))) ?_
              refine ze [1, 3, 4, 68] ?_
              refine aw_ite (t := ((decide (e14.States < 0)) || (decide (e14.States > 31)))) (by kernel_rfl) h (fun h => ?_) (fun h => ?_)
              · refine za [2] ?_
                have h := Option.some.inj h
                subst h
                exact aw_ret (fin_pub (A := .c (I 1)) (.inl rfl) (by kernel_rfl) (by kernel_rfl) (by kernel_rfl))
              · refine aw_skip ?_
                refine aw_seq ?_
                refine zx fun _ => ?_
                refine zk 2 ?_
                refine rx_rd (v := .c (I (List.length e14.Decls : Int))) (foot := []) (rd_len (enc := eGDecl) (l := e14.Decls) (by kernel_rfl)) (by kernel_rfl) rfl rfl ?_
                refine zk 1 ?_
                refine zee [1, 3, 4, 72] (L2 := [(1, .c (.ptr 0 0)), (3, .c (I v12)), (4, .c (.ptr 11 0)), (72, .c (Bo (decide ((List.length e14.Decls : Int) > 50))))]) (G2 := [(0, .blk 30 [.lit (List.map eGRule p0.Rules)]), (11, .blk 33 [I e14.Kind, Sx e14.Class, I e14.States, I e14.UnderKind, Sx e14.UnderClass, .lit (List.map eGDecl e14.Decls)])]) 63 ?_
                refine aw_ite (t := (decide ((List.length e14.Decls : Int) > 50))) (by kernel_rfl) h (fun h => ?_) (fun h => ?_)
                · refine za [2] ?_
                  have h := Option.some.inj h
                  subst h
                  exact aw_ret (fin_pub (A := .c (I 2)) (.inl rfl) (by kernel_rfl) (by kernel_rfl) (by kernel_rfl))
                · refine aw_skip ?_
                  refine za [1, 3, 4, 5] ?_
                  refine aw_block ?_
                  refine aw_loopJ (fun n s => ∃ (v19 : Int), ref17_Validate_L1 e14 j13 v12 p0 n v19 = some r ∧ s = mk [(1, .c (.ptr 0 0)), (3, .c (I v12)), (4, .c (.ptr 1 0)), (5, .c (I v19))] [(0, .blk 30 [.lit (List.map eGRule p0.Rules)]), (1, .blk 33 [I e14.Kind, Sx e14.Class, I e14.States, I e14.UnderKind, Sx e14.UnderClass, .lit (List.map eGDecl e14.Decls)])] 2) n _ (zv [(0, 0), (11, 1)] [1, 3, 4, 5] 2) ⟨_, h, rfl⟩ (fun s ⟨v19, h, _⟩ => nomatch h) ?_
                  rintro n s ⟨v19, h, rfl⟩
                  rw [ref17_Validate_L1] at h
                  refine aw_seq ?_
                  refine zx fun _ => ?_
                  refine zk 3 ?_
                  refine rx_rd (v := .c (I (List.length e14.Decls : Int))) (foot := []) (rd_len (enc := eGDecl) (l := e14.Decls) (by kernel_rfl)) (by kernel_rfl) rfl rfl ?_
                  refine zk 1 ?_
                  refine ze [1, 3, 4, 5, 77] ?_
                  refine aw_ite (t := (decide (v19 < (List.length e14.Decls : Int)))) (by kernel_rfl) h (fun h => ?_) (fun h => ?_)
                  · refine aw_skip ?_
                    refine aw_seq ?_
                    refine aw_block ?_
                    refine zdx [[], [], [1], [], [2, 3, 1], [4, 2, 3, 1], [0, 5, 4, 2, 3, 1], [6, 0, 1, 2, 3, 4, 5]] fun _ => ?_
                    refine zk 4 ?_
                    obtain ⟨e20, he, h⟩ := bindE h
                    refine rx_rd (v := .c (.imm [I e20.Prop_, I e20.Source, I e20.N, Sx e20.Token])) (foot := []) (rd_idx (enc := eGDecl) (sz := 4) (l := e14.Decls) (ix := v19) he (by kernel_rfl) (by kernel_rfl) (by kernel_rfl)) (by kernel_rfl) rfl rfl ?_
                    clear he
                    refine zk 1 ?_
                    obtain ⟨y21, he, h⟩ := bindE h
                    refine rx_call (F := 32) (As := [.agg [I e14.Kind, Sx e14.Class, I e14.States, I e14.UnderKind, Sx e14.UnderClass, .lit (List.map eGDecl e14.Decls)], .agg [I e20.Prop_, I e20.Source, I e20.N, Sx e20.Token]]) (Bs := [.agg [I e14.Kind, Sx e14.Class, I e14.States, I e14.UnderKind, Sx e14.UnderClass, .lit (List.map eGDecl e14.Decls)], .agg [I e20.Prop_, I e20.Source, I e20.N, Sx e20.Token]]) (r := .c (I y21)) (v := .c (I y21)) (by kernel_rfl) fok32 (by kernel_rfl) (ref17_declaration_ok n _ _ y21 he) (by kernel_rfl) (by kernel_rfl) rfl rfl ?_
                    clear he
                    refine zk 1 ?_
                    refine zee [1, 3, 4, 5, 6] (L2 := [(1, .c (.ptr 0 0)), (3, .c (I v12)), (4, .c (.ptr 1 0)), (5, .c (I v19)), (6, .c (I y21))]) (G2 := [(0, .blk 30 [.lit (List.map eGRule p0.Rules)]), (1, .blk 33 [I e14.Kind, Sx e14.Class, I e14.States, I e14.UnderKind, Sx e14.UnderClass, .lit (List.map eGDecl e14.Decls)])]) 15 ?_
                    refine za [1, 3, 4, 5, 6, 88] ?_
                    refine aw_ite (t := (y21 != 0)) (by kernel_rfl) h (fun h => ?_) (fun h => ?_)
                    · refine za [2] ?_
                      have h := Option.some.inj h
                      subst h
                      exact aw_ret (fin_pub (A := .c (I y21)) (.inl rfl) (by kernel_rfl) (by kernel_rfl) (by kernel_rfl))
                    · refine aw_skip ?_
                      refine aw_out ?_
                      refine zb ?_
                      exact via (zv [(0, 0), (1, 1)] [1, 3, 4, 5] 2) (⟨_, h, rfl⟩)
                  · exact aw_views (zv [(0, 0)] [1, 3] 1) (aw_exit (hj13 _ h))
      · exact aw_views (zv [] [] 0) (aw_exit (hj1 _ h))
def law17_StyleSheetsRaw_L0 (p0 : GSheet) (j1 : Unit → Option Bool) : Nat → Int → Option Bool
  | 0, _ => none
  | n + 1, v3 => (if (decide (v3 < (List.length p0.Rules : Int))) = true then (idx p0.Rules v3).bind fun (e4 : GRule) => (if (decide ((List.length e4.Decls : Int) > 60)) = true then some true else law17_StyleSheetsRaw_L0 p0 j1 n (IntKind.wrap .i64 (v3 + 1))) else j1 ())
def law17_StyleSheetsRaw  (n : Nat) (p0 : GSheet) : Option Bool := (if (decide ((List.length p0.Rules : Int) > 110)) = true then some true else (withJ (fun (_ : Unit) => (style_Validate n p0).bind fun (y6 : Int) => (ref17_Validate n p0).bind fun (y7 : Int) => (gd [(y6 == y7)] (law17_awake n)).bind fun (y8 : Bool) => some ((y6 == y7) && y8)) (fun (j1 : Unit → Option Bool) => law17_StyleSheetsRaw_L0 p0 j1 n 0)))
set_option maxRecDepth 100000 in
set_option maxHeartbeats 4000000 in
theorem law17_StyleSheetsRaw_ok  (n : Nat) (p0 : GSheet) (r : Bool) (h : law17_StyleSheetsRaw n p0 = some r) : FnD E 4 0 [.agg [.lit (List.map eGRule p0.Rules)]] [] (.c (Bo r)) [] := by
  refine zfn Tryd.func4 rfl ?_
  unfold law17_StyleSheetsRaw at h
  refine za [1] ?_
  refine aw_seq ?_
  refine zx fun _ => ?_
  refine zk 2 ?_
  refine rx_rd (v := .c (I (List.length p0.Rules : Int))) (foot := []) (rd_len (enc := eGRule) (l := p0.Rules) (by kernel_rfl)) (by kernel_rfl) rfl rfl ?_
  refine zk 1 ?_
  refine ze [1, 7] ?_
  refine aw_ite (t := (decide ((List.length p0.Rules : Int) > 110))) (by kernel_rfl) h (fun h => ?_) (fun h => ?_)
  · refine za [2] ?_
    have h := Option.some.inj h
    subst h
    exact aw_ret (fin_pub (A := .c (Bo true)) (.inl rfl) (by kernel_rfl) (by kernel_rfl) (by kernel_rfl))
  · refine aw_skip ?_
    refine aw_join h (fun A j => ∀ (u : Unit), j u = some r → A (mk [(1, .c (.ptr 0 0))] [(0, .blk 30 [.lit (List.map eGRule p0.Rules)])] 1)) (fun u h => ?_) (fun j1 Aj1 hj1 h => ?_)
    · refine zdx [[], [0], [], [2, 1, 0], [1, 3, 0, 2], [4, 3, 1, 0, 2], [5, 4, 3, 1, 0, 2], [5, 6, 4, 3, 1, 0, 2], [7, 6, 0, 1, 2, 3, 4, 5]] fun _ => ?_
      refine zk 1 ?_
      obtain ⟨y6, he, h⟩ := bindE h
      refine rx_call (F := 16) (As := [.agg [.lit (List.map eGRule p0.Rules)]]) (Bs := [.agg [.lit (List.map eGRule p0.Rules)]]) (r := .c (I y6)) (v := .c (I y6)) (by kernel_rfl) fok16 (by kernel_rfl) (style_Validate_ok n _ y6 he) (by kernel_rfl) (by kernel_rfl) rfl rfl ?_
      clear he
      refine zk 1 ?_
      obtain ⟨y7, he, h⟩ := bindE h
      refine rx_call (F := 17) (As := [.agg [.lit (List.map eGRule p0.Rules)]]) (Bs := [.agg [.lit (List.map eGRule p0.Rules)]]) (r := .c (I y7)) (v := .c (I y7)) (by kernel_rfl) fok17 (by kernel_rfl) (ref17_Validate_ok n _ y7 he) (by kernel_rfl) (by kernel_rfl) rfl rfl ?_
      clear he
      refine zk 2 ?_
      obtain ⟨y8, he, h⟩ := bindE h
      refine rx_Ecall (e := [(y6 == y7)]) [] (F := 15) (As := []) (Bs := []) (r := .c (Bo y8)) (v := .c (Bo y8)) (by kernel_rfl) (by kernel_rfl) (by kernel_rfl) (by kernel_rfl) fok15 (by kernel_rfl) (fun hg => law17_awake_ok n  y8 (gd_spec he hg)) (by kernel_rfl) rfl rfl ?_
      clear he
      refine zP (.bool ((y6 == y7) && y8)) ?_
      refine zk 1 ?_
      refine zee [2] (L2 := [(2, .c (Bo ((y6 == y7) && y8)))]) (G2 := [(0, .blk 30 [.lit (List.map eGRule p0.Rules)])]) 10 ?_
      have h := Option.some.inj h
      subst h
      exact aw_ret (fin_pub (A := .c (Bo ((y6 == y7) && y8))) (.inl rfl) (by kernel_rfl) (by kernel_rfl) (by kernel_rfl))
    · refine za [1, 3] ?_
      refine aw_block ?_
      refine aw_loopJ (fun n s => ∃ (v3 : Int), law17_StyleSheetsRaw_L0 p0 j1 n v3 = some r ∧ s = mk [(1, .c (.ptr 0 0)), (3, .c (I v3))] [(0, .blk 30 [.lit (List.map eGRule p0.Rules)])] 1) n _ (zv [(0, 0)] [1, 3] 1) ⟨_, h, rfl⟩ (fun s ⟨v3, h, _⟩ => nomatch h) ?_
      rintro n s ⟨v3, h, rfl⟩
      rw [law17_StyleSheetsRaw_L0] at h
      refine aw_seq ?_
      refine zx fun _ => ?_
      refine zk 3 ?_
      refine rx_rd (v := .c (I (List.length p0.Rules : Int))) (foot := []) (rd_len (enc := eGRule) (l := p0.Rules) (by kernel_rfl)) (by kernel_rfl) rfl rfl ?_
      refine zk 1 ?_
      refine ze [1, 3, 12] ?_
      refine aw_ite (t := (decide (v3 < (List.length p0.Rules : Int)))) (by kernel_rfl) h (fun h => ?_) (fun h => ?_)
      · refine aw_skip ?_
        refine aw_seq ?_
        refine aw_block ?_
        refine zx fun _ => ?_
        refine zk 3 ?_
        obtain ⟨e4, he, h⟩ := bindE h
        refine rx_rd (v := .c (.imm [I e4.Kind, Sx e4.Class, I e4.States, I e4.UnderKind, Sx e4.UnderClass, .lit (List.map eGDecl e4.Decls)])) (foot := []) (rd_idx (enc := eGRule) (sz := 6) (l := p0.Rules) (ix := v3) he (by kernel_rfl) (by kernel_rfl) (by kernel_rfl)) (by kernel_rfl) rfl rfl ?_
        clear he
        refine zk 2 ?_
        refine rx_rd (v := .c (I (List.length e4.Decls : Int))) (foot := []) (rd_len (enc := eGDecl) (l := e4.Decls) (by kernel_rfl)) (by kernel_rfl) rfl rfl ?_
        refine zk 1 ?_
        refine zee [1, 3, 22] (L2 := [(1, .c (.ptr 0 0)), (3, .c (I v3)), (22, .c (Bo (decide ((List.length e4.Decls : Int) > 60))))]) (G2 := [(0, .blk 30 [.lit (List.map eGRule p0.Rules)])]) 14 ?_
        refine aw_ite (t := (decide ((List.length e4.Decls : Int) > 60))) (by kernel_rfl) h (fun h => ?_) (fun h => ?_)
        · refine za [2] ?_
          have h := Option.some.inj h
          subst h
          exact aw_ret (fin_pub (A := .c (Bo true)) (.inl rfl) (by kernel_rfl) (by kernel_rfl) (by kernel_rfl))
        · refine aw_skip ?_
          refine aw_out ?_
          refine zb ?_
          exact via (zv [(0, 0)] [1, 3] 1) (⟨_, h, rfl⟩)
      · exact aw_views (zv [(0, 0)] [1] 1) (aw_exit (hj1 _ h))
def law17_StyleLimits_L0 (p0 : Int) (j1 : List GRule → Option Bool) : Nat → Int → List GRule → Option Bool
  | 0, _, _ => none
  | n + 1, v4, v5 => (if (decide (v4 < (IntKind.wrap .i64 (99 + (bAnd .i64 p0 3))))) = true then (apd 80 v5 [(GRule.mk 0 (⟨#[]⟩ : ByteArray) 0 0 (⟨#[]⟩ : ByteArray) [(GDecl.mk 9 0 1 (⟨#[]⟩ : ByteArray))])]).bind fun (l6 : List GRule) => law17_StyleLimits_L0 p0 j1 n (IntKind.wrap .i64 (v4 + 1)) l6 else j1 v5)
def law17_StyleLimits  (n : Nat) (p0 : Int) : Option Bool := (withJ (fun (v10 : List GRule) => (style_Validate n (GSheet.mk v10)).bind fun (y11 : Int) => (if (decide ((bAnd .i64 p0 3) < 2)) = true then (gd [(y11 == 0)] (law17_awake n)).bind fun (y12 : Bool) => some ((y11 == 0) && y12) else (gd [(y11 == 2)] (law17_awake n)).bind fun (y13 : Bool) => some ((y11 == 2) && y13))) (fun (j1 : List GRule → Option Bool) => law17_StyleLimits_L0 p0 j1 n 0 ([] : List GRule)))
set_option maxRecDepth 100000 in
set_option maxHeartbeats 4000000 in
theorem law17_StyleLimits_ok  (n : Nat) (p0 : Int) (r : Bool) (h : law17_StyleLimits n p0 = some r) : FnD E 8 0 [.c (I p0)] [] (.c (Bo r)) [] := by
  refine zfn Tryd.func8 rfl ?_
  unfold law17_StyleLimits at h
  refine za [0] ?_
  refine za [0, 3] ?_
  refine aw_join h (fun A j => ∀ (v10 : List GRule), j v10 = some r → A (mk [(0, .c (I p0)), (3, .c (.ptr 0 0))] [(0, .blk 30 [.app 1 (List.map eGRule v10)]), (1, .tok 33 6 (List.length v10))] 2)) (fun v10 h => ?_) (fun j1 Aj1 hj1 h => ?_)
  · refine zx fun _ => ?_
    refine zk 1 ?_
    obtain ⟨y11, he, h⟩ := bindE h
    refine rx_call (F := 16) (As := [.agg [.app 1 (List.map eGRule v10)]]) (Bs := [.agg [.lit (List.map eGRule v10)]]) (r := .c (I y11)) (v := .c (I y11)) (by kernel_rfl) fok16 (by kernel_rfl) (style_Validate_ok n _ y11 he) (by kernel_rfl) (by kernel_rfl) rfl rfl ?_
    clear he
    refine zk 1 ?_
    refine ze [0, 5] ?_
    refine aw_seq ?_
    refine za [5, 25] ?_
    refine aw_ite (t := (decide ((bAnd .i64 p0 3) < 2))) (by kernel_rfl) h (fun h => ?_) (fun h => ?_)
    · refine zx fun _ => ?_
      refine zk 3 ?_
      obtain ⟨y12, he, h⟩ := bindE h
      refine rx_Ecall (e := [(y11 == 0)]) [] (F := 15) (As := []) (Bs := []) (r := .c (Bo y12)) (v := .c (Bo y12)) (by kernel_rfl) (by kernel_rfl) (by kernel_rfl) (by kernel_rfl) fok15 (by kernel_rfl) (fun hg => law17_awake_ok n  y12 (gd_spec he hg)) (by kernel_rfl) rfl rfl ?_
      clear he
      refine zP (.bool ((y11 == 0) && y12)) ?_
      refine zk 1 ?_
      refine zee [2] (L2 := [(2, .c (Bo ((y11 == 0) && y12)))]) (G2 := [(0, .blk 30 [.app 1 (List.map eGRule v10)]), (1, .tok 33 6 (List.length v10))]) 14 ?_
      have h := Option.some.inj h
      subst h
      exact aw_ret (fin_pub (A := .c (Bo ((y11 == 0) && y12))) (.inl rfl) (by kernel_rfl) (by kernel_rfl) (by kernel_rfl))
    · refine aw_skip ?_
      refine zx fun _ => ?_
      refine zk 3 ?_
      obtain ⟨y13, he, h⟩ := bindE h
      refine rx_Ecall (e := [(y11 == 2)]) [] (F := 15) (As := []) (Bs := []) (r := .c (Bo y13)) (v := .c (Bo y13)) (by kernel_rfl) (by kernel_rfl) (by kernel_rfl) (by kernel_rfl) fok15 (by kernel_rfl) (fun hg => law17_awake_ok n  y13 (gd_spec he hg)) (by kernel_rfl) rfl rfl ?_
      clear he
      refine zP (.bool ((y11 == 2) && y13)) ?_
      refine zk 1 ?_
      refine zee [2] (L2 := [(2, .c (Bo ((y11 == 2) && y13)))]) (G2 := [(0, .blk 30 [.app 1 (List.map eGRule v10)]), (1, .tok 33 6 (List.length v10))]) 14 ?_
      have h := Option.some.inj h
      subst h
      exact aw_ret (fin_pub (A := .c (Bo ((y11 == 2) && y13))) (.inl rfl) (by kernel_rfl) (by kernel_rfl) (by kernel_rfl))
  · refine za [0, 3, 4] ?_
    refine aw_block ?_
    refine aw_loopJ (fun n s => ∃ (v4 : Int) (v5 : List GRule), law17_StyleLimits_L0 p0 j1 n v4 v5 = some r ∧ s = mk [(0, .c (I p0)), (3, .c (.ptr 0 0)), (4, .c (I v4))] [(0, .blk 30 [.app 1 (List.map eGRule v5)]), (1, .tok 33 6 (List.length v5))] 2) n _ (Views.trans (view_nilC (n := 1) (T0 := 30) (l := [NilS]) (G2 := [(1, .blk 30 [.app 3 (List.map eGRule ([] : List GRule))]), (3, .tok 33 6 (List.length ([] : List GRule)))]) (lim2 := 4) 0 33 6 (by kernel_rfl) (by kernel_rfl) (by kernel_rfl) (by kernel_rfl)) (zv [(1, 0), (3, 1)] [0, 3, 4] 2)) ⟨_, _, h, rfl⟩ (fun s ⟨v4, v5, h, _⟩ => nomatch h) ?_
    rintro n s ⟨v4, v5, h, rfl⟩
    rw [law17_StyleLimits_L0] at h
    refine aw_seq ?_
    refine za [0, 3, 4, 10] ?_
    refine aw_ite (t := (decide (v4 < (IntKind.wrap .i64 (99 + (bAnd .i64 p0 3)))))) (by kernel_rfl) h (fun h => ?_) (fun h => ?_)
    · refine aw_skip ?_
      refine aw_seq ?_
      refine aw_block ?_
      refine zy fun _ => ?_
      refine zk 6 ?_
      obtain ⟨l6, he, h⟩ := bindE h
      refine rx_append (enc := eGRule) (l := v5) (els := [(GRule.mk 0 (⟨#[]⟩ : ByteArray) 0 0 (⟨#[]⟩ : ByteArray) [(GDecl.mk 9 0 1 (⟨#[]⟩ : ByteArray))])]) (r := l6) (old := some 1) (e := 33) (sz := 6) (bytes := 80) (k := (List.length v5)) (nm := 13) he (by kernel_rfl) (by kernel_rfl) (fun x => by kernel_rfl) (by kernel_rfl) (by kernel_rfl) rfl rfl rfl ?_
      clear he
      refine zk 2 ?_
      refine x_last ?_
      refine aw_out ?_
      refine zb ?_
      exact via (zv [(0, 0), (13, 1)] [0, 3, 4] 2) (⟨_, _, h, rfl⟩)
    · exact aw_views (zv [(0, 0), (1, 1)] [0, 3] 2) (aw_exit (hj1 _ h))
end Go.Proofs.YtojkihhnioeggaaDoor.S
