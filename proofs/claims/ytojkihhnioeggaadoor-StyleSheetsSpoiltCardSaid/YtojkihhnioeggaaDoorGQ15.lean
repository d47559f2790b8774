/- Functions, and that the program's are they. Printed by ext.py. -/
import Derived.Test.YtojkihhnioeggaaDoorGQ14
set_option linter.unusedVariables false
set_option linter.unusedSimpArgs false
set_option maxRecDepth 100000
set_option maxHeartbeats 4000000
namespace Go.Proofs.YtojkihhnioeggaaDoor.S
open Go Go.Bm
def law17_StyleSheetsSpoilt  (n : Nat) (p0 : (List Int)) : Option Bool := (base_New n p0).bind fun (y1 : GSrc) => (Src_Sheet n y1).bind fun (y2 : (GSheet × GSrc)) => (style_Validate n y2.1).bind fun (y3 : Int) => (ref17_Validate n y2.1).bind fun (y4 : Int) => (if ((y3 != y4) || ((List.length y2.1.Rules : Int) == 0)) = true then (style_Validate n y2.1).bind fun (y5 : Int) => (ref17_Validate n y2.1).bind fun (y6 : Int) => some (y5 == y6) else (inb 0 (List.length y2.1.Rules)).bind fun (k7 : Nat) => (y2.1.Rules[k7]?).bind fun (e8 : GRule) => (apd 40 [] e8.Decls).bind fun (l9 : List GDecl) => (withJ (fun (v36 : Int) (v37 : ByteArray) (v38 : Int) (v39 : Int) (v40 : List GDecl) => (inb 0 (List.length y2.1.Rules)).bind fun (k43 : Nat) => (y2.1.Rules[k43]?).bind fun (e44 : GRule) => (style_Validate n (GSheet.mk (List.set y2.1.Rules k43 (GRule.mk v36 v37 v38 v39 e8.UnderClass v40)))).bind fun (y45 : Int) => (ref17_Validate n (GSheet.mk (List.set y2.1.Rules k43 (GRule.mk v36 v37 v38 v39 e8.UnderClass v40)))).bind fun (y46 : Int) => (gd [(y45 == y46)] (law17_awake n)).bind fun (y47 : Bool) => some ((y45 == y46) && y47)) (fun (j10 : Int → ByteArray → Int → Int → List GDecl → Option Bool) => (Src_N n y2.2 9).bind fun (y11 : (Int × GSrc)) => (if (y11.1 == 0) = true then (Src_Range n y11.2 (-1 : Int) 14).bind fun (y12 : (Int × GSrc)) => j10 y12.1 e8.Class e8.States e8.UnderKind l9 else (if (y11.1 == 1) = true then (Src_Range n y11.2 (-1 : Int) 14).bind fun (y13 : (Int × GSrc)) => j10 e8.Kind e8.Class e8.States y13.1 l9 else (if (y11.1 == 2) = true then (Src_N n y11.2 3).bind fun (y14 : (Int × GSrc)) => (idx [(⟨#[49]⟩ : ByteArray), (⟨#[97, 32, 98]⟩ : ByteArray), (⟨#[120]⟩ : ByteArray)] y14.1).bind fun (e15 : ByteArray) => j10 e8.Kind e15 e8.States e8.UnderKind l9 else (if (y11.1 == 3) = true then (Src_Range n y11.2 (-1 : Int) 32).bind fun (y16 : (Int × GSrc)) => j10 e8.Kind e8.Class y16.1 e8.UnderKind l9 else (if (y11.1 == 4) = true then (Src_Range n y11.2 (-1 : Int) 22).bind fun (y17 : (Int × GSrc)) => (inb 0 (List.length l9)).bind fun (k18 : Nat) => (l9[k18]?).bind fun (e19 : GDecl) => j10 e8.Kind e8.Class e8.States e8.UnderKind (List.set l9 k18 (GDecl.mk y17.1 e19.Source e19.N e19.Token)) else (if (y11.1 == 5) = true then (Src_Range n y11.2 (-1 : Int) 4).bind fun (y20 : (Int × GSrc)) => (inb 0 (List.length l9)).bind fun (k21 : Nat) => (l9[k21]?).bind fun (e22 : GDecl) => j10 e8.Kind e8.Class e8.States e8.UnderKind (List.set l9 k21 (GDecl.mk e22.Prop_ y20.1 e22.N e22.Token)) else (if (y11.1 == 6) = true then (Src_N n y11.2 6).bind fun (y23 : (Int × GSrc)) => (idx [(-2 : Int), (-1 : Int), 5, 1048576, 1048577, 16777216] y23.1).bind fun (e24 : Int) => (inb 0 (List.length l9)).bind fun (k25 : Nat) => (l9[k25]?).bind fun (e26 : GDecl) => j10 e8.Kind e8.Class e8.States e8.UnderKind (List.set l9 k25 (GDecl.mk e26.Prop_ e26.Source e24 e26.Token)) else (if (y11.1 == 7) = true then (Src_N n y11.2 3).bind fun (y27 : (Int × GSrc)) => (idx [(⟨#[]⟩ : ByteArray), (⟨#[120]⟩ : ByteArray), (⟨#[63]⟩ : ByteArray)] y27.1).bind fun (e28 : ByteArray) => (inb 0 (List.length l9)).bind fun (k29 : Nat) => (l9[k29]?).bind fun (e30 : GDecl) => j10 e8.Kind e8.Class e8.States e8.UnderKind (List.set l9 k29 (GDecl.mk e30.Prop_ e30.Source e30.N e28)) else (Src_N n y11.2 2).bind fun (y31 : (Int × GSrc)) => (idx [5, 21] y31.1).bind fun (e32 : Int) => (Src_N n y31.2 2).bind fun (y33 : (Int × GSrc)) => (inb 0 (List.length l9)).bind fun (k34 : Nat) => (l9[k34]?).bind fun (e35 : GDecl) => j10 e8.Kind e8.Class e8.States e8.UnderKind (List.set l9 k34 (GDecl.mk e32 0 y33.1 (⟨#[]⟩ : ByteArray))))))))))))))
theorem law17_StyleSheetsSpoilt_ok  (n : Nat) (p0 : (List Int)) (r : Bool) (h : law17_StyleSheetsSpoilt n p0 = some r) : FnD E 5 0 [.c (.lit (List.map eI64 p0))] [] (.c (Bo r)) [] := by
  refine zfn Tryd.func5 rfl ?_
  unfold law17_StyleSheetsSpoilt at h
  refine za [0] ?_
  refine zx fun _ => ?_
  refine zk 1 ?_
  obtain ⟨y1, he, h⟩ := bindE h
  refine rx_callN (F := 18) (As := [.c (.lit (List.map eI64 p0))]) (Bs := [.c (.lit (List.map eI64 p0))]) (σ := [(0, 2)]) (k := 0) (kn := 0) (nm := 2) (Gc := []) (Gf := [(0, .blk 90 [.lit (List.map eI64 y1.L), I y1.At])]) (r := .c (.ptr 0 0)) (v := .c (.ptr 2 0)) (by kernel_rfl) fok18 ⟨.inl (by kernel_rfl), trivial⟩ (base_New_ok n _ y1 he) (by kernel_rfl) (by kernel_rfl) (by kernel_rfl) (by kernel_rfl) (by kernel_rfl) (by kernel_rfl) rfl rfl rfl ?_
  clear he
  refine zk 1 ?_
  refine ze [3] ?_
  refine zx fun _ => ?_
  refine zk 1 ?_
  obtain ⟨y2, he, h⟩ := bindE h
  refine rx_callN (F := 19) (As := [.c (.ptr 2 0)]) (Bs := [.c (.ptr 0 0)]) (σ := [(0, 2), (1, 5)]) (k := 1) (kn := 1) (nm := 5) (Gc := [(0, .blk 90 [.lit (List.map eI64 y1.L), I y1.At])]) (Gf := [(0, .blk 90 [.lit (List.map eI64 y2.2.L), I y2.2.At]), (1, .vec 33 6 (List.map eGRule y2.1.Rules))]) (r := .agg [.row 1]) (v := .agg [.row 5]) (by kernel_rfl) fok19 ⟨.inr ⟨(by kernel_rfl), (by kernel_rfl)⟩, trivial⟩ (Src_Sheet_ok n _ y2 he) (by kernel_rfl) (by kernel_rfl) (by kernel_rfl) (by kernel_rfl) (by kernel_rfl) (by kernel_rfl) rfl rfl rfl ?_
  clear he
  refine zk 2 ?_
  refine zee [3, 4] (L2 := [(3, .c (.ptr 2 0)), (4, .c (.ptr 6 0))]) (G2 := [(2, .blk 90 [.lit (List.map eI64 y2.2.L), I y2.2.At]), (5, .vec 33 6 (List.map eGRule y2.1.Rules)), (6, .blk 30 [.row 5])]) 8 ?_
  refine aw_seq ?_
  refine zdx [[], [0], [], [2, 1, 0], [1, 3, 0, 2], [4, 3, 1, 0, 2], [5, 4, 3, 1, 0, 2], [6, 5, 4, 3, 1, 0, 2], [7, 5, 6, 4, 3, 1, 0, 2], [8, 5, 7, 6, 4, 3, 1, 0, 2], [5, 9, 4, 3, 1, 0, 2, 8, 7, 6]] fun _ => ?_
  refine zk 1 ?_
  obtain ⟨y3, he, h⟩ := bindE h
  refine rx_callL [5] (F := 16) (As := [.agg [.row 5]]) (Bs := [.agg [.lit (List.map eGRule y2.1.Rules)]]) (x := .int .i64 y3) (by kernel_rfl) fok16 (by kernel_rfl) (style_Validate_ok n _ y3 he) (by kernel_rfl) rfl rfl ?_
  clear he
  refine zk 1 ?_
  obtain ⟨y4, he, h⟩ := bindE h
  refine rx_callL [5] (F := 17) (As := [.agg [.row 5]]) (Bs := [.agg [.lit (List.map eGRule y2.1.Rules)]]) (x := .int .i64 y4) (by kernel_rfl) fok17 (by kernel_rfl) (ref17_Validate_ok n _ y4 he) (by kernel_rfl) rfl rfl ?_
  clear he
  refine zk 2 ?_
  refine zE (.c (.ptr 6 0)) ?_
  refine zE (.c (.row 5)) ?_
  refine rx_E (e := [(!(y3 != y4))]) [(17, .c (.row 5), some 1)] (v := .c (I (List.length y2.1.Rules : Int))) (foot := [5]) (by kernel_rfl) (by kernel_rfl) (by kernel_rfl) (fun hg => rd_lenV (enc := eGRule) (l := y2.1.Rules) (n := 5) (by kernel_rfl)) rfl rfl ?_
  refine zE (.c (Bo ((List.length y2.1.Rules : Int) == 0))) ?_
  refine zP (.bool ((y3 != y4) || ((List.length y2.1.Rules : Int) == 0))) ?_
  refine zee [3, 4, 20] (L2 := [(3, .c (.ptr 2 0)), (4, .c (.ptr 6 0)), (20, .c (Bo ((y3 != y4) || ((List.length y2.1.Rules : Int) == 0))))]) (G2 := [(2, .blk 90 [.lit (List.map eI64 y2.2.L), I y2.2.At]), (5, .vec 33 6 (List.map eGRule y2.1.Rules)), (6, .blk 30 [.row 5])]) 19 ?_
  refine aw_ite (t := ((y3 != y4) || ((List.length y2.1.Rules : Int) == 0))) (by kernel_rfl) h (fun h => ?_) (fun h => ?_)
  · refine zdx [[], [0], [], [2, 1, 0], [1, 3, 0, 2], [4, 3, 0, 1, 2]] fun _ => ?_
    refine zk 1 ?_
    obtain ⟨y5, he, h⟩ := bindE h
    refine rx_callL [5] (F := 16) (As := [.agg [.row 5]]) (Bs := [.agg [.lit (List.map eGRule y2.1.Rules)]]) (x := .int .i64 y5) (by kernel_rfl) fok16 (by kernel_rfl) (style_Validate_ok n _ y5 he) (by kernel_rfl) rfl rfl ?_
    clear he
    refine zk 1 ?_
    obtain ⟨y6, he, h⟩ := bindE h
    refine rx_callL [5] (F := 17) (As := [.agg [.row 5]]) (Bs := [.agg [.lit (List.map eGRule y2.1.Rules)]]) (x := .int .i64 y6) (by kernel_rfl) fok17 (by kernel_rfl) (ref17_Validate_ok n _ y6 he) (by kernel_rfl) rfl rfl ?_
    clear he
    refine zk 2 ?_
    refine ze [2] ?_
    have h := Option.some.inj h
    subst h
    exact aw_ret (fin_pub (A := .c (Bo (y5 == y6))) (.inl rfl) (by kernel_rfl) (by kernel_rfl) (by kernel_rfl))
  · refine aw_skip ?_
    refine zx fun _ => ?_
    refine zk 2 ?_
    obtain ⟨k7, he, h⟩ := bindE h
    refine rx_rd (v := .c (.ptr 5 (k7 * 6))) (foot := [5]) (rd_rowA (enc := eGRule) (l := y2.1.Rules) (n := 5) (sz := 6) (k := k7) (ix := 0) he (by kernel_rfl)) (by kernel_rfl) rfl rfl ?_
    have hb_k7 := inb_lt he; clear he
    obtain ⟨e8, he, h⟩ := bindE h
    refine rx_W (v := .agg [I e8.Kind, Sx e8.Class, I e8.States, I e8.UnderKind, Sx e8.UnderClass, .lit (List.map eGDecl e8.Decls)]) (foot := [5]) (rdW_ldV (enc := eGRule) (l := y2.1.Rules) (n := 5) (q := k7) (f := 0) (sz := 6) (e := e8) (j := ⟨.st [(3, 0, 1), (9, 1, 1), (3, 2, 1), (3, 3, 1), (9, 4, 1), (31, 5, 1)], 6, 80, [.int .i64 0, .string ⟨#[]⟩, .int .i64 0, .int .i64 0, .string ⟨#[]⟩, .slice none 0 0]⟩) he (by kernel_rfl) (by kernel_rfl)) (by kernel_rfl) rfl rfl ?_
    clear he
    refine zk 2 ?_
    refine ze [3, 4, 5] ?_
    refine zx fun _ => ?_
    refine zk 2 ?_
    obtain ⟨l9, he, h⟩ := bindE h
    refine rx_appendV0 (enc := eGDecl) (els := e8.Decls) (r := l9) (e := 45) (sz := 4) (bytes := 40) (nm := 27) he (by kernel_rfl) (fun x => by kernel_rfl) (by kernel_rfl) (by kernel_rfl) rfl rfl rfl ?_
    clear he
    refine zk 2 ?_
    refine zee [3, 4, 5] (L2 := [(3, .c (.ptr 2 0)), (4, .c (.ptr 6 0)), (5, .c (.ptr 23 0))]) (G2 := [(2, .blk 90 [.lit (List.map eI64 y2.2.L), I y2.2.At]), (5, .vec 33 6 (List.map eGRule y2.1.Rules)), (6, .blk 30 [.row 5]), (23, .blk 33 [I e8.Kind, Sx e8.Class, I e8.States, I e8.UnderKind, Sx e8.UnderClass, .row 27]), (27, .vec 45 4 (List.map eGDecl l9))]) 30 ?_
    refine aw_join h (fun A j => ∀ (v36 : Int) (v37 : ByteArray) (v38 : Int) (v39 : Int) (v40 : List GDecl), j v36 v37 v38 v39 v40 = some r → A (mk [(4, .c (.ptr 0 0)), (5, .c (.ptr 1 0))] [(0, .blk 30 [.row 2]), (1, .blk 33 [I v36, Sx v37, I v38, I v39, Sx e8.UnderClass, .row 3]), (2, .vec 33 6 (List.map eGRule y2.1.Rules)), (3, .vec 45 4 (List.map eGDecl v40))] 4)) (fun v36 v37 v38 v39 v40 h => ?_) (fun j10 Aj10 hj10 h => ?_)
    · refine aw_views (view_frzV 3 (T := 45) (sz := 4) (l := List.map eGDecl v40) (L2 := [(4, .c (.ptr 0 0)), (5, .c (.ptr 1 0))]) (G2 := [(0, .blk 30 [.row 2]), (1, .blk 33 [I v36, Sx v37, I v38, I v39, Sx e8.UnderClass, .lit (List.map eGDecl v40)]), (2, .vec 33 6 (List.map eGRule y2.1.Rules))]) (by kernel_rfl) (by kernel_rfl) (by kernel_rfl)) ?_
      refine zx fun _ => ?_
      refine zk 3 ?_
      obtain ⟨k43, he, h⟩ := bindE h
      refine rx_rd (v := .c (.ptr 2 (k43 * 6))) (foot := [2]) (rd_rowA (enc := eGRule) (l := y2.1.Rules) (n := 2) (sz := 6) (k := k43) (ix := 0) he (by kernel_rfl)) (by kernel_rfl) rfl rfl ?_
      have hb_k43 := inb_lt he; clear he
      obtain ⟨e44, he, h⟩ := bindE h
      refine rx_storeV (enc := eGRule) (n := 2) (q := k43) (f := 0) (sz := 6) (T0 := 33) (lp := [I v36, Sx v37, I v38, I v39, Sx e8.UnderClass, .lit (List.map eGDecl v40)]) (l := y2.1.Rules) (e := e44) (e2 := (GRule.mk v36 v37 v38 v39 e8.UnderClass v40)) he (by kernel_rfl) (by simp only [List.length_cons, List.length_nil]; omega) (by kernel_rfl) (by kernel_rfl) rfl rfl ?_
      clear he
      refine ze [4] ?_
      refine zdx [[], [0], [], [2, 1, 0], [1, 3, 0, 2], [4, 3, 1, 0, 2], [5, 4, 3, 1, 0, 2], [5, 6, 4, 3, 1, 0, 2], [7, 6, 0, 1, 2, 3, 4, 5]] fun _ => ?_
      refine zk 1 ?_
      obtain ⟨y45, he, h⟩ := bindE h
      refine rx_callL [2] (F := 16) (As := [.agg [.row 2]]) (Bs := [.agg [.lit (List.map eGRule (List.set y2.1.Rules k43 (GRule.mk v36 v37 v38 v39 e8.UnderClass v40)))]]) (x := .int .i64 y45) (by kernel_rfl) fok16 (by kernel_rfl) (style_Validate_ok n _ y45 he) (by kernel_rfl) rfl rfl ?_
      clear he
      refine zk 1 ?_
      obtain ⟨y46, he, h⟩ := bindE h
      refine rx_callL [2] (F := 17) (As := [.agg [.row 2]]) (Bs := [.agg [.lit (List.map eGRule (List.set y2.1.Rules k43 (GRule.mk v36 v37 v38 v39 e8.UnderClass v40)))]]) (x := .int .i64 y46) (by kernel_rfl) fok17 (by kernel_rfl) (ref17_Validate_ok n _ y46 he) (by kernel_rfl) rfl rfl ?_
      clear he
      refine zk 2 ?_
      obtain ⟨y47, he, h⟩ := bindE h
      refine rx_Ecall (e := [(y45 == y46)]) [] (F := 15) (As := []) (Bs := []) (r := .c (Bo y47)) (v := .c (Bo y47)) (by kernel_rfl) (by kernel_rfl) (by kernel_rfl) (by kernel_rfl) fok15 (by kernel_rfl) (fun hg => law17_awake_ok n  y47 (gd_spec he hg)) (by kernel_rfl) rfl rfl ?_
      clear he
      refine zP (.bool ((y45 == y46) && y47)) ?_
      refine zk 1 ?_
      refine zee [2] (L2 := [(2, .c (Bo ((y45 == y46) && y47)))]) (G2 := [(0, .blk 30 [.row 2]), (1, .blk 33 [I v36, Sx v37, I v38, I v39, Sx e8.UnderClass, .lit (List.map eGDecl v40)]), (2, .vec 33 6 (List.map eGRule (List.set y2.1.Rules k43 (GRule.mk v36 v37 v38 v39 e8.UnderClass v40))))]) 18 ?_
      have h := Option.some.inj h
      subst h
      exact aw_ret (fin_pub (A := .c (Bo ((y45 == y46) && y47))) (.inl rfl) (by kernel_rfl) (by kernel_rfl) (by kernel_rfl))
    · refine zx fun _ => ?_
      refine zk 1 ?_
      obtain ⟨y11, he, h⟩ := bindE h
      refine rx_callO (F := 20) (As := [.c (.ptr 2 0), .c (I 9)]) (Bs := [.c (.ptr 0 0), .c (I 9)]) (σ := [(0, 2)]) (k := 1) (Gc := [(0, .blk 90 [.lit (List.map eI64 y2.2.L), I y2.2.At])]) (Gf := [(0, .blk 90 [.lit (List.map eI64 y11.2.L), I y11.2.At])]) (r := .c (I y11.1)) (v := .c (I y11.1)) (by kernel_rfl) fok20 ⟨.inr ⟨(by kernel_rfl), (by kernel_rfl)⟩, ⟨.inl (by kernel_rfl), trivial⟩⟩ (Src_N_ok n _ _ y11 he) (by kernel_rfl) (by kernel_rfl) (by kernel_rfl) (by kernel_rfl) rfl rfl rfl ?_
      clear he
      refine ze [3, 4, 5, 35] ?_
      refine aw_block ?_
      refine za [3, 4, 5, 35, 47] ?_
      refine aw_ite (t := (y11.1 == 0)) (by kernel_rfl) h (fun h => ?_) (fun h => ?_)
      · refine aw_out ?_
        refine zy fun _ => ?_
        refine zk 1 ?_
        obtain ⟨y12, he, h⟩ := bindE h
        refine rx_callO (F := 21) (As := [.c (.ptr 2 0), .c (I (-1 : Int)), .c (I 14)]) (Bs := [.c (.ptr 0 0), .c (I (-1 : Int)), .c (I 14)]) (σ := [(0, 2)]) (k := 1) (Gc := [(0, .blk 90 [.lit (List.map eI64 y11.2.L), I y11.2.At])]) (Gf := [(0, .blk 90 [.lit (List.map eI64 y12.2.L), I y12.2.At])]) (r := .c (I y12.1)) (v := .c (I y12.1)) (by kernel_rfl) fok21 ⟨.inr ⟨(by kernel_rfl), (by kernel_rfl)⟩, ⟨.inl (by kernel_rfl), ⟨.inl (by kernel_rfl), trivial⟩⟩⟩ (Src_Range_ok n _ _ _ y12 he) (by kernel_rfl) (by kernel_rfl) (by kernel_rfl) (by kernel_rfl) rfl rfl rfl ?_
        clear he
        refine zk 2 ?_
        refine x_last ?_
        exact via (zv [(6, 0), (23, 1), (5, 2), (27, 3)] [4, 5] 4) (hj10 _ _ _ _ _ h)
      · refine za [3, 4, 5, 35, 52] ?_
        refine aw_ite (t := (y11.1 == 1)) (by kernel_rfl) h (fun h => ?_) (fun h => ?_)
        · refine aw_out ?_
          refine zy fun _ => ?_
          refine zk 1 ?_
          obtain ⟨y13, he, h⟩ := bindE h
          refine rx_callO (F := 21) (As := [.c (.ptr 2 0), .c (I (-1 : Int)), .c (I 14)]) (Bs := [.c (.ptr 0 0), .c (I (-1 : Int)), .c (I 14)]) (σ := [(0, 2)]) (k := 1) (Gc := [(0, .blk 90 [.lit (List.map eI64 y11.2.L), I y11.2.At])]) (Gf := [(0, .blk 90 [.lit (List.map eI64 y13.2.L), I y13.2.At])]) (r := .c (I y13.1)) (v := .c (I y13.1)) (by kernel_rfl) fok21 ⟨.inr ⟨(by kernel_rfl), (by kernel_rfl)⟩, ⟨.inl (by kernel_rfl), ⟨.inl (by kernel_rfl), trivial⟩⟩⟩ (Src_Range_ok n _ _ _ y13 he) (by kernel_rfl) (by kernel_rfl) (by kernel_rfl) (by kernel_rfl) rfl rfl rfl ?_
          clear he
          refine zk 2 ?_
          refine x_last ?_
          exact via (zv [(6, 0), (23, 1), (5, 2), (27, 3)] [4, 5] 4) (hj10 _ _ _ _ _ h)
        · refine za [3, 4, 5, 35, 57] ?_
          refine aw_ite (t := (y11.1 == 2)) (by kernel_rfl) h (fun h => ?_) (fun h => ?_)
          · refine aw_out ?_
            refine zy fun _ => ?_
            refine zk 2 ?_
            obtain ⟨y14, he, h⟩ := bindE h
            refine rx_callO (F := 20) (As := [.c (.ptr 2 0), .c (I 3)]) (Bs := [.c (.ptr 0 0), .c (I 3)]) (σ := [(0, 2)]) (k := 1) (Gc := [(0, .blk 90 [.lit (List.map eI64 y11.2.L), I y11.2.At])]) (Gf := [(0, .blk 90 [.lit (List.map eI64 y14.2.L), I y14.2.At])]) (r := .c (I y14.1)) (v := .c (I y14.1)) (by kernel_rfl) fok20 ⟨.inr ⟨(by kernel_rfl), (by kernel_rfl)⟩, ⟨.inl (by kernel_rfl), trivial⟩⟩ (Src_N_ok n _ _ y14 he) (by kernel_rfl) (by kernel_rfl) (by kernel_rfl) (by kernel_rfl) rfl rfl rfl ?_
            clear he
            obtain ⟨e15, he, h⟩ := bindE h
            refine rx_rd (v := .c (.imm [Sx e15])) (foot := []) (rd_idx (enc := eS) (sz := 1) (l := [(⟨#[49]⟩ : ByteArray), (⟨#[97, 32, 98]⟩ : ByteArray), (⟨#[120]⟩ : ByteArray)]) (ix := y14.1) he (by kernel_rfl) (by kernel_rfl) (by kernel_rfl)) (by kernel_rfl) rfl rfl ?_
            clear he
            refine zk 3 ?_
            refine x_last ?_
            exact via (zv [(6, 0), (23, 1), (5, 2), (27, 3)] [4, 5] 4) (hj10 _ _ _ _ _ h)
          · refine za [3, 4, 5, 35, 65] ?_
            refine aw_ite (t := (y11.1 == 3)) (by kernel_rfl) h (fun h => ?_) (fun h => ?_)
            · refine aw_out ?_
              refine zy fun _ => ?_
              refine zk 1 ?_
              obtain ⟨y16, he, h⟩ := bindE h
              refine rx_callO (F := 21) (As := [.c (.ptr 2 0), .c (I (-1 : Int)), .c (I 32)]) (Bs := [.c (.ptr 0 0), .c (I (-1 : Int)), .c (I 32)]) (σ := [(0, 2)]) (k := 1) (Gc := [(0, .blk 90 [.lit (List.map eI64 y11.2.L), I y11.2.At])]) (Gf := [(0, .blk 90 [.lit (List.map eI64 y16.2.L), I y16.2.At])]) (r := .c (I y16.1)) (v := .c (I y16.1)) (by kernel_rfl) fok21 ⟨.inr ⟨(by kernel_rfl), (by kernel_rfl)⟩, ⟨.inl (by kernel_rfl), ⟨.inl (by kernel_rfl), trivial⟩⟩⟩ (Src_Range_ok n _ _ _ y16 he) (by kernel_rfl) (by kernel_rfl) (by kernel_rfl) (by kernel_rfl) rfl rfl rfl ?_
              clear he
              refine zk 2 ?_
              refine x_last ?_
              exact via (zv [(6, 0), (23, 1), (5, 2), (27, 3)] [4, 5] 4) (hj10 _ _ _ _ _ h)
            · refine za [3, 4, 5, 35, 70] ?_
              refine aw_ite (t := (y11.1 == 4)) (by kernel_rfl) h (fun h => ?_) (fun h => ?_)
              · refine aw_out ?_
                refine zdy [[], [0], [], [2], [1, 0, 2, 3], [4, 0, 1, 2, 3], [5, 3, 0, 1, 2, 4]] fun _ => ?_
                refine zk 3 ?_
                obtain ⟨y17, he, h⟩ := bindE h
                refine rx_callO (F := 21) (As := [.c (.ptr 2 0), .c (I (-1 : Int)), .c (I 22)]) (Bs := [.c (.ptr 0 0), .c (I (-1 : Int)), .c (I 22)]) (σ := [(0, 2)]) (k := 1) (Gc := [(0, .blk 90 [.lit (List.map eI64 y11.2.L), I y11.2.At])]) (Gf := [(0, .blk 90 [.lit (List.map eI64 y17.2.L), I y17.2.At])]) (r := .c (I y17.1)) (v := .c (I y17.1)) (by kernel_rfl) fok21 ⟨.inr ⟨(by kernel_rfl), (by kernel_rfl)⟩, ⟨.inl (by kernel_rfl), ⟨.inl (by kernel_rfl), trivial⟩⟩⟩ (Src_Range_ok n _ _ _ y17 he) (by kernel_rfl) (by kernel_rfl) (by kernel_rfl) (by kernel_rfl) rfl rfl rfl ?_
                clear he
                obtain ⟨k18, he, h⟩ := bindE h
                refine rx_rd (v := .c (.ptr 27 (k18 * 4))) (foot := [27]) (rd_rowA (enc := eGDecl) (l := l9) (n := 27) (sz := 4) (k := k18) (ix := 0) he (by kernel_rfl)) (by kernel_rfl) rfl rfl ?_
                have hb_k18 := inb_lt he; clear he
                refine zk 1 ?_
                obtain ⟨e19, he, h⟩ := bindE h
                refine rx_storeV (enc := eGDecl) (n := 27) (q := k18) (f := 0) (sz := 4) (T0 := 45) (lp := [I y17.1]) (l := l9) (e := e19) (e2 := (GDecl.mk y17.1 e19.Source e19.N e19.Token)) he (by kernel_rfl) (by simp only [List.length_cons, List.length_nil]; omega) (by kernel_rfl) (by kernel_rfl) rfl rfl ?_
                clear he
                refine x_last ?_
                exact via (zv [(6, 0), (23, 1), (5, 2), (27, 3)] [4, 5] 4) (hj10 _ _ _ _ _ h)
              · refine za [3, 4, 5, 35, 78] ?_
                refine aw_ite (t := (y11.1 == 5)) (by kernel_rfl) h (fun h => ?_) (fun h => ?_)
                · refine aw_out ?_
                  refine zdy [[], [0], [], [2], [1, 0, 2, 3], [4, 0, 1, 2, 3], [5, 3, 0, 1, 2, 4]] fun _ => ?_
                  refine zk 3 ?_
                  obtain ⟨y20, he, h⟩ := bindE h
                  refine rx_callO (F := 21) (As := [.c (.ptr 2 0), .c (I (-1 : Int)), .c (I 4)]) (Bs := [.c (.ptr 0 0), .c (I (-1 : Int)), .c (I 4)]) (σ := [(0, 2)]) (k := 1) (Gc := [(0, .blk 90 [.lit (List.map eI64 y11.2.L), I y11.2.At])]) (Gf := [(0, .blk 90 [.lit (List.map eI64 y20.2.L), I y20.2.At])]) (r := .c (I y20.1)) (v := .c (I y20.1)) (by kernel_rfl) fok21 ⟨.inr ⟨(by kernel_rfl), (by kernel_rfl)⟩, ⟨.inl (by kernel_rfl), ⟨.inl (by kernel_rfl), trivial⟩⟩⟩ (Src_Range_ok n _ _ _ y20 he) (by kernel_rfl) (by kernel_rfl) (by kernel_rfl) (by kernel_rfl) rfl rfl rfl ?_
                  clear he
                  obtain ⟨k21, he, h⟩ := bindE h
                  refine rx_rd (v := .c (.ptr 27 (k21 * 4))) (foot := [27]) (rd_rowA (enc := eGDecl) (l := l9) (n := 27) (sz := 4) (k := k21) (ix := 0) he (by kernel_rfl)) (by kernel_rfl) rfl rfl ?_
                  have hb_k21 := inb_lt he; clear he
                  refine zk 1 ?_
                  obtain ⟨e22, he, h⟩ := bindE h
                  refine rx_storeV (enc := eGDecl) (n := 27) (q := k21) (f := 1) (sz := 4) (T0 := 45) (lp := [I y20.1]) (l := l9) (e := e22) (e2 := (GDecl.mk e22.Prop_ y20.1 e22.N e22.Token)) he (by kernel_rfl) (by simp only [List.length_cons, List.length_nil]; omega) (by kernel_rfl) (by kernel_rfl) rfl rfl ?_
                  clear he
                  refine x_last ?_
                  exact via (zv [(6, 0), (23, 1), (5, 2), (27, 3)] [4, 5] 4) (hj10 _ _ _ _ _ h)
                · refine za [3, 4, 5, 35, 86] ?_
                  refine aw_ite (t := (y11.1 == 6)) (by kernel_rfl) h (fun h => ?_) (fun h => ?_)
                  · refine aw_out ?_
                    refine zdy [[], [0], [], [], [3], [2, 4, 3], [5, 2, 4, 3], [1, 0, 2, 3, 4, 5, 6], [7, 0, 1, 2, 3, 4, 5, 6], [8, 6, 4, 0, 1, 2, 3, 5, 7]] fun _ => ?_
                    refine zk 4 ?_
                    obtain ⟨y23, he, h⟩ := bindE h
                    refine rx_callO (F := 20) (As := [.c (.ptr 2 0), .c (I 6)]) (Bs := [.c (.ptr 0 0), .c (I 6)]) (σ := [(0, 2)]) (k := 1) (Gc := [(0, .blk 90 [.lit (List.map eI64 y11.2.L), I y11.2.At])]) (Gf := [(0, .blk 90 [.lit (List.map eI64 y23.2.L), I y23.2.At])]) (r := .c (I y23.1)) (v := .c (I y23.1)) (by kernel_rfl) fok20 ⟨.inr ⟨(by kernel_rfl), (by kernel_rfl)⟩, ⟨.inl (by kernel_rfl), trivial⟩⟩ (Src_N_ok n _ _ y23 he) (by kernel_rfl) (by kernel_rfl) (by kernel_rfl) (by kernel_rfl) rfl rfl rfl ?_
                    clear he
                    obtain ⟨e24, he, h⟩ := bindE h
                    refine rx_rd (v := .c (.imm [I e24])) (foot := []) (rd_idx (enc := eI64) (sz := 1) (l := [(-2 : Int), (-1 : Int), 5, 1048576, 1048577, 16777216]) (ix := y23.1) he (by kernel_rfl) (by kernel_rfl) (by kernel_rfl)) (by kernel_rfl) rfl rfl ?_
                    clear he
                    refine zke 1 (L' := [(3, .c (.ptr 2 0)), (4, .c (.ptr 6 0)), (5, .c (.ptr 23 0)), (35, .c (I y11.1)), (86, .c (Bo (y11.1 == 6))), (88, .c (.ptr 23 5)), (89, .c (.row 27)), (90, .c (.app 48 (List.map eI64 [(-2 : Int), (-1 : Int), 5, 1048576, 1048577, 16777216]))), (91, .c (.ptr 2 0)), (92, .c (I y23.1)), (93, .c (.imm [I e24])), (94, .c (I e24))]) (G' := [(2, .blk 90 [.lit (List.map eI64 y23.2.L), I y23.2.At]), (5, .vec 33 6 (List.map eGRule y2.1.Rules)), (6, .blk 30 [.row 5]), (23, .blk 33 [I e8.Kind, Sx e8.Class, I e8.States, I e8.UnderKind, Sx e8.UnderClass, .row 27]), (27, .vec 45 4 (List.map eGDecl l9)), (48, .tok 3 1 (List.length [(-2 : Int), (-1 : Int), 5, 1048576, 1048577, 16777216]))]) (X' := [(0, ⟨[], []⟩), (1, ⟨[23], []⟩), (2, ⟨[], [48]⟩), (3, ⟨[], []⟩), (4, ⟨[2], [2]⟩), (5, ⟨[], []⟩), (6, ⟨[], []⟩)]) ?_
                    obtain ⟨k25, he, h⟩ := bindE h
                    refine rx_rd (v := .c (.ptr 27 (k25 * 4))) (foot := [27]) (rd_rowA (enc := eGDecl) (l := l9) (n := 27) (sz := 4) (k := k25) (ix := 0) he (by kernel_rfl)) (by kernel_rfl) rfl rfl ?_
                    have hb_k25 := inb_lt he; clear he
                    refine zk 1 ?_
                    obtain ⟨e26, he, h⟩ := bindE h
                    refine rx_storeV (enc := eGDecl) (n := 27) (q := k25) (f := 2) (sz := 4) (T0 := 45) (lp := [I e24]) (l := l9) (e := e26) (e2 := (GDecl.mk e26.Prop_ e26.Source e24 e26.Token)) he (by kernel_rfl) (by simp only [List.length_cons, List.length_nil]; omega) (by kernel_rfl) (by kernel_rfl) rfl rfl ?_
                    clear he
                    refine x_last ?_
                    exact via (zv [(6, 0), (23, 1), (5, 2), (27, 3)] [4, 5] 4) (hj10 _ _ _ _ _ h)
                  · refine za [3, 4, 5, 97] ?_
                    refine aw_ite (t := (y11.1 == 7)) (by kernel_rfl) h (fun h => ?_) (fun h => ?_)
                    · refine aw_out ?_
                      refine zdy [[], [0], [], [], [3], [2, 4, 3], [5, 2, 4, 3], [1, 0, 2, 3, 4, 5, 6], [7, 0, 1, 2, 3, 4, 5, 6], [8, 6, 4, 0, 1, 2, 3, 5, 7]] fun _ => ?_
                      refine zk 4 ?_
                      obtain ⟨y27, he, h⟩ := bindE h
                      refine rx_callO (F := 20) (As := [.c (.ptr 2 0), .c (I 3)]) (Bs := [.c (.ptr 0 0), .c (I 3)]) (σ := [(0, 2)]) (k := 1) (Gc := [(0, .blk 90 [.lit (List.map eI64 y11.2.L), I y11.2.At])]) (Gf := [(0, .blk 90 [.lit (List.map eI64 y27.2.L), I y27.2.At])]) (r := .c (I y27.1)) (v := .c (I y27.1)) (by kernel_rfl) fok20 ⟨.inr ⟨(by kernel_rfl), (by kernel_rfl)⟩, ⟨.inl (by kernel_rfl), trivial⟩⟩ (Src_N_ok n _ _ y27 he) (by kernel_rfl) (by kernel_rfl) (by kernel_rfl) (by kernel_rfl) rfl rfl rfl ?_
                      clear he
                      obtain ⟨e28, he, h⟩ := bindE h
                      refine rx_rd (v := .c (.imm [Sx e28])) (foot := []) (rd_idx (enc := eS) (sz := 1) (l := [(⟨#[]⟩ : ByteArray), (⟨#[120]⟩ : ByteArray), (⟨#[63]⟩ : ByteArray)]) (ix := y27.1) he (by kernel_rfl) (by kernel_rfl) (by kernel_rfl)) (by kernel_rfl) rfl rfl ?_
                      clear he
                      refine zke 1 (L' := [(3, .c (.ptr 2 0)), (4, .c (.ptr 6 0)), (5, .c (.ptr 23 0)), (97, .c (Bo (y11.1 == 7))), (99, .c (.ptr 23 5)), (100, .c (.row 27)), (101, .c (.app 50 (List.map eS [(⟨#[]⟩ : ByteArray), (⟨#[120]⟩ : ByteArray), (⟨#[63]⟩ : ByteArray)]))), (102, .c (.ptr 2 0)), (103, .c (I y27.1)), (104, .c (.imm [Sx e28])), (105, .c (Sx e28))]) (G' := [(2, .blk 90 [.lit (List.map eI64 y27.2.L), I y27.2.At]), (5, .vec 33 6 (List.map eGRule y2.1.Rules)), (6, .blk 30 [.row 5]), (23, .blk 33 [I e8.Kind, Sx e8.Class, I e8.States, I e8.UnderKind, Sx e8.UnderClass, .row 27]), (27, .vec 45 4 (List.map eGDecl l9)), (50, .tok 9 1 (List.length [(⟨#[]⟩ : ByteArray), (⟨#[120]⟩ : ByteArray), (⟨#[63]⟩ : ByteArray)]))]) (X' := [(0, ⟨[], []⟩), (1, ⟨[23], []⟩), (2, ⟨[], [50]⟩), (3, ⟨[], []⟩), (4, ⟨[2], [2]⟩), (5, ⟨[], []⟩), (6, ⟨[], []⟩)]) ?_
                      obtain ⟨k29, he, h⟩ := bindE h
                      refine rx_rd (v := .c (.ptr 27 (k29 * 4))) (foot := [27]) (rd_rowA (enc := eGDecl) (l := l9) (n := 27) (sz := 4) (k := k29) (ix := 0) he (by kernel_rfl)) (by kernel_rfl) rfl rfl ?_
                      have hb_k29 := inb_lt he; clear he
                      refine zk 1 ?_
                      obtain ⟨e30, he, h⟩ := bindE h
                      refine rx_storeV (enc := eGDecl) (n := 27) (q := k29) (f := 3) (sz := 4) (T0 := 45) (lp := [Sx e28]) (l := l9) (e := e30) (e2 := (GDecl.mk e30.Prop_ e30.Source e30.N e28)) he (by kernel_rfl) (by simp only [List.length_cons, List.length_nil]; omega) (by kernel_rfl) (by kernel_rfl) rfl rfl ?_
                      clear he
                      refine x_last ?_
                      exact via (zv [(6, 0), (23, 1), (5, 2), (27, 3)] [4, 5] 4) (hj10 _ _ _ _ _ h)
                    · refine aw_out ?_
                      refine zdy [[], [0], [], [], [3], [2, 4, 3], [5, 2, 4, 3], [], [7, 4, 3], [6, 8, 5, 2, 4, 3, 7], [1, 0, 2, 3, 4, 5, 6, 7, 8, 9], [10, 9, 8, 0, 1, 2, 3, 4, 5, 6, 7]] fun _ => ?_
                      refine zk 4 ?_
                      obtain ⟨y31, he, h⟩ := bindE h
                      refine rx_callO (F := 20) (As := [.c (.ptr 2 0), .c (I 2)]) (Bs := [.c (.ptr 0 0), .c (I 2)]) (σ := [(0, 2)]) (k := 1) (Gc := [(0, .blk 90 [.lit (List.map eI64 y11.2.L), I y11.2.At])]) (Gf := [(0, .blk 90 [.lit (List.map eI64 y31.2.L), I y31.2.At])]) (r := .c (I y31.1)) (v := .c (I y31.1)) (by kernel_rfl) fok20 ⟨.inr ⟨(by kernel_rfl), (by kernel_rfl)⟩, ⟨.inl (by kernel_rfl), trivial⟩⟩ (Src_N_ok n _ _ y31 he) (by kernel_rfl) (by kernel_rfl) (by kernel_rfl) (by kernel_rfl) rfl rfl rfl ?_
                      clear he
                      obtain ⟨e32, he, h⟩ := bindE h
                      refine rx_rd (v := .c (.imm [I e32])) (foot := []) (rd_idx (enc := eI64) (sz := 1) (l := [5, 21]) (ix := y31.1) he (by kernel_rfl) (by kernel_rfl) (by kernel_rfl)) (by kernel_rfl) rfl rfl ?_
                      clear he
                      refine zke 2 (L' := [(3, .c (.ptr 2 0)), (4, .c (.ptr 6 0)), (5, .c (.ptr 23 0)), (97, .c (Bo (y11.1 == 7))), (36, .c (.ptr 23 5)), (37, .c (.row 27)), (38, .c (.app 50 (List.map eI64 [5, 21]))), (39, .c (.ptr 2 0)), (40, .c (I y31.1)), (41, .c (.imm [I e32])), (42, .c (I e32)), (43, .c (.ptr 2 0))]) (G' := [(2, .blk 90 [.lit (List.map eI64 y31.2.L), I y31.2.At]), (5, .vec 33 6 (List.map eGRule y2.1.Rules)), (6, .blk 30 [.row 5]), (23, .blk 33 [I e8.Kind, Sx e8.Class, I e8.States, I e8.UnderKind, Sx e8.UnderClass, .row 27]), (27, .vec 45 4 (List.map eGDecl l9)), (50, .tok 3 1 (List.length [5, 21]))]) (X' := [(0, ⟨[], []⟩), (1, ⟨[23], []⟩), (2, ⟨[], [50]⟩), (3, ⟨[], []⟩), (4, ⟨[2], [2]⟩), (5, ⟨[], []⟩), (6, ⟨[], []⟩), (7, ⟨[], []⟩)]) ?_
                      obtain ⟨y33, he, h⟩ := bindE h
                      refine rx_callO (F := 20) (As := [.c (.ptr 2 0), .c (I 2)]) (Bs := [.c (.ptr 0 0), .c (I 2)]) (σ := [(0, 2)]) (k := 1) (Gc := [(0, .blk 90 [.lit (List.map eI64 y31.2.L), I y31.2.At])]) (Gf := [(0, .blk 90 [.lit (List.map eI64 y33.2.L), I y33.2.At])]) (r := .c (I y33.1)) (v := .c (I y33.1)) (by kernel_rfl) fok20 ⟨.inr ⟨(by kernel_rfl), (by kernel_rfl)⟩, ⟨.inl (by kernel_rfl), trivial⟩⟩ (Src_N_ok n _ _ y33 he) (by kernel_rfl) (by kernel_rfl) (by kernel_rfl) (by kernel_rfl) rfl rfl rfl ?_
                      clear he
                      refine zk 1 ?_
                      obtain ⟨k34, he, h⟩ := bindE h
                      refine rx_rd (v := .c (.ptr 27 (k34 * 4))) (foot := [27]) (rd_rowA (enc := eGDecl) (l := l9) (n := 27) (sz := 4) (k := k34) (ix := 0) he (by kernel_rfl)) (by kernel_rfl) rfl rfl ?_
                      have hb_k34 := inb_lt he; clear he
                      obtain ⟨e35, he, h⟩ := bindE h
                      refine rx_storeV (enc := eGDecl) (n := 27) (q := k34) (f := 0) (sz := 4) (T0 := 45) (lp := [I e32, I 0, I y33.1, Sx (⟨#[]⟩ : ByteArray)]) (l := l9) (e := e35) (e2 := (GDecl.mk e32 0 y33.1 (⟨#[]⟩ : ByteArray))) he (by kernel_rfl) (by simp only [List.length_cons, List.length_nil]; omega) (by kernel_rfl) (by kernel_rfl) rfl rfl ?_
                      clear he
                      refine x_last ?_
                      exact via (zv [(6, 0), (23, 1), (5, 2), (27, 3)] [4, 5] 4) (hj10 _ _ _ _ _ h)
end Go.Proofs.YtojkihhnioeggaaDoor.S
