/- Functions, and that the program's are they. Printed by ext.py. -/
import Derived.Test.YtojkihhnioeggaaDoorGQ13
set_option linter.unusedVariables false
set_option linter.unusedSimpArgs false
set_option maxRecDepth 100000
set_option maxHeartbeats 4000000
namespace Go.Proofs.YtojkihhnioeggaaDoor.S
open Go Go.Bm
def ref17_Validate_L1 (e14 : GRule) (j13 : Unit → Option Int) (v12 : Int) (p0 : GSheet) : Nat → Int → Option Int
  | 0, _ => none
  | n + 1, v19 => (if (decide (v19 < (List.length e14.Decls : Int))) = true then (idx e14.Decls v19).bind fun (e20 : GDecl) => (ref17_declaration n e14 e20).bind fun (y21 : Int) => (if (y21 != 0) = true then some y21 else ref17_Validate_L1 e14 j13 v12 p0 n (IntKind.wrap .i64 (v19 + 1))) else j13 ())
def ref17_Validate_L0 (p0 : GSheet) (j1 : Unit → Option Int) : Nat → Int → Option Int
  | 0, _ => none
  | n + 1, v12 => (if (decide (v12 < (List.length p0.Rules : Int))) = true then (withJ (fun (_ : Unit) => ref17_Validate_L0 p0 j1 n (IntKind.wrap .i64 (v12 + 1))) (fun (j13 : Unit → Option Int) => (idx p0.Rules v12).bind fun (e14 : GRule) => (if ((((decide (e14.Kind < 0)) || (decide (e14.Kind > 13))) || (decide (e14.UnderKind < 0))) || (decide (e14.UnderKind > 13))) = true then some 9 else (gd [(!(sEq e14.Class (⟨#[]⟩ : ByteArray)))] (ref11_Name n e14.Class)).bind fun (y15 : Bool) => (gd [(!((!(sEq e14.Class (⟨#[]⟩ : ByteArray))) && (!y15))), (!(sEq e14.UnderClass (⟨#[]⟩ : ByteArray)))] (ref11_Name n e14.UnderClass)).bind fun (y16 : Bool) => (if (((!(sEq e14.Class (⟨#[]⟩ : ByteArray))) && (!y15)) || ((!(sEq e14.UnderClass (⟨#[]⟩ : ByteArray))) && (!y16))) = true then some 4 else (if ((decide (e14.States < 0)) || (decide (e14.States > 31))) = true then some 1 else (if (decide ((List.length e14.Decls : Int) > 50)) = true then some 2 else ref17_Validate_L1 e14 j13 v12 p0 n 0)))))) else j1 ())
def ref17_Validate  (n : Nat) (p0 : GSheet) : Option Int := (if (decide ((List.length p0.Rules : Int) > 100)) = true then some 2 else (withJ (fun (_ : Unit) => some 0) (fun (j1 : Unit → Option Int) => ref17_Validate_L0 p0 j1 n 0)))
theorem ref17_Validate_ok  (n : Nat) (p0 : GSheet) (r : Int) (h : ref17_Validate n p0 = some r) : FnD E 17 0 [.agg [.lit (List.map eGRule p0.Rules)]] [] (.c (I r)) [] := by
  refine zfn Tryd.func17 rfl ?_
  unfold ref17_Validate at h
  refine za [1] ?_
  refine aw_seq ?_
  refine zx fun _ => ?_
  refine zk 2 ?_
  refine rx_rd (v := .c (I (List.length p0.Rules : Int))) (foot := []) (rd_len (enc := eGRule) (l := p0.Rules) (by kernel_rfl)) (by kernel_rfl) rfl rfl ?_
  refine zk 1 ?_
  refine ze [1, 10] ?_
  refine aw_ite (t := (decide ((List.length p0.Rules : Int) > 100))) (by kernel_rfl) h (fun h => ?_) (fun h => ?_)
  · refine za [2] ?_
    have h := Option.some.inj h
    subst h
    exact aw_ret (fin_pub (A := .c (I 2)) (.inl rfl) (by kernel_rfl) (by kernel_rfl) (by kernel_rfl))
  · refine aw_skip ?_
    refine aw_join h (fun A j => ∀ (u : Unit), j u = some r → A (mk [] [] 0)) (fun u h => ?_) (fun j1 Aj1 hj1 h => ?_)
    · refine za [2] ?_
      have h := Option.some.inj h
      subst h
      exact aw_ret (fin_pub (A := .c (I 0)) (.inl rfl) (by kernel_rfl) (by kernel_rfl) (by kernel_rfl))
    · refine za [1, 3] ?_
      refine aw_block ?_
      refine aw_loopJ (fun n s => ∃ (v12 : Int), ref17_Validate_L0 p0 j1 n v12 = some r ∧ s = mk [(1, .c (.ptr 0 0)), (3, .c (I v12))] [(0, .blk 30 [.lit (List.map eGRule p0.Rules)])] 1) n _ (zv [(0, 0)] [1, 3] 1) ⟨_, h, rfl⟩ (fun s ⟨v12, h, _⟩ => nomatch h) ?_
      rintro n s ⟨v12, h, rfl⟩
      rw [ref17_Validate_L0] at h
      refine aw_seq ?_
      refine zx fun _ => ?_
      refine zk 3 ?_
      refine rx_rd (v := .c (I (List.length p0.Rules : Int))) (foot := []) (rd_len (enc := eGRule) (l := p0.Rules) (by kernel_rfl)) (by kernel_rfl) rfl rfl ?_
      refine zk 1 ?_
      refine ze [1, 3, 15] ?_
      refine aw_ite (t := (decide (v12 < (List.length p0.Rules : Int)))) (by kernel_rfl) h (fun h => ?_) (fun h => ?_)
      · refine aw_skip ?_
        refine aw_join h (fun A j => ∀ (u : Unit), j u = some r → A (mk [(1, .c (.ptr 0 0)), (3, .c (I v12))] [(0, .blk 30 [.lit (List.map eGRule p0.Rules)])] 1)) (fun u h => ?_) (fun j13 Aj13 hj13 h => ?_)
        · refine aw_out ?_
          refine zb ?_
          exact via (zv [(0, 0)] [1, 3] 1) (⟨_, h, rfl⟩)
        · refine aw_block ?_
          refine zx fun _ => ?_
          refine zk 3 ?_
          obtain ⟨e14, he, h⟩ := bindE h
          refine rx_rd (v := .c (.imm [I e14.Kind, Sx e14.Class, I e14.States, I e14.UnderKind, Sx e14.UnderClass, .lit (List.map eGDecl e14.Decls)])) (foot := []) (rd_idx (enc := eGRule) (sz := 6) (l := p0.Rules) (ix := v12) he (by kernel_rfl) (by kernel_rfl) (by kernel_rfl)) (by kernel_rfl) rfl rfl ?_
          clear he
          refine zk 3 ?_
          refine ze [1, 3, 4] ?_
          refine aw_seq ?_
          refine zx fun _ => ?_
          refine zk 4 ?_
          refine zE (.c (.ptr 11 0)) ?_
          refine zE (.c (I e14.Kind)) ?_
          refine zE (.c (Bo (decide (e14.Kind > 13)))) ?_
          refine zP (.bool ((decide (e14.Kind < 0)) || (decide (e14.Kind > 13)))) ?_
          refine zk 1 ?_
          refine zE (.c (.ptr 11 3)) ?_
          refine zE (.c (I e14.UnderKind)) ?_
          refine zE (.c (Bo (decide (e14.UnderKind < 0)))) ?_
          refine zP (.bool (((decide (e14.Kind < 0)) || (decide (e14.Kind > 13))) || (decide (e14.UnderKind < 0)))) ?_
          refine zk 1 ?_
          refine zE (.c (.ptr 11 3)) ?_
          refine zE (.c (I e14.UnderKind)) ?_
          refine zE (.c (Bo (decide (e14.UnderKind > 13)))) ?_
          refine zP (.bool ((((decide (e14.Kind < 0)) || (decide (e14.Kind > 13))) || (decide (e14.UnderKind < 0))) || (decide (e14.UnderKind > 13)))) ?_
          refine zee [1, 3, 4, 40] (L2 := [(1, .c (.ptr 0 0)), (3, .c (I v12)), (4, .c (.ptr 11 0)), (40, .c (Bo ((((decide (e14.Kind < 0)) || (decide (e14.Kind > 13))) || (decide (e14.UnderKind < 0))) || (decide (e14.UnderKind > 13)))))]) (G2 := [(0, .blk 30 [.lit (List.map eGRule p0.Rules)]), (11, .blk 33 [I e14.Kind, Sx e14.Class, I e14.States, I e14.UnderKind, Sx e14.UnderClass, .lit (List.map eGDecl e14.Decls)])]) 31 ?_
          refine aw_ite (t := ((((decide (e14.Kind < 0)) || (decide (e14.Kind > 13))) || (decide (e14.UnderKind < 0))) || (decide (e14.UnderKind > 13)))) (by kernel_rfl) h (fun h => ?_) (fun h => ?_)
          · refine za [2] ?_
            have h := Option.some.inj h
            subst h
            exact aw_ret (fin_pub (A := .c (I 9)) (.inl rfl) (by kernel_rfl) (by kernel_rfl) (by kernel_rfl))
          · refine aw_skip ?_
            refine aw_seq ?_
            refine zx fun _ => ?_
            refine zk 4 ?_
            refine zE (.c (.ptr 11 1)) ?_
            refine zE (.c (Sx e14.Class)) ?_
            obtain ⟨y15, he, h⟩ := bindE h
            refine rx_Ecall (e := [(!(sEq e14.Class (⟨#[]⟩ : ByteArray)))]) [(46, .c (Sx e14.Class), some 1)] (F := 31) (As := [.c (Sx e14.Class)]) (Bs := [.c (Sx e14.Class)]) (r := .c (Bo y15)) (v := .c (Bo y15)) (by kernel_rfl) (by kernel_rfl) (by kernel_rfl) (by kernel_rfl) fok31 (by kernel_rfl) (fun hg => ref11_Name_ok n _ y15 (gd_spec he hg)) (by kernel_rfl) rfl rfl ?_
            clear he
            refine zE (.c (Bo (!y15))) ?_
            refine zP (.bool ((!(sEq e14.Class (⟨#[]⟩ : ByteArray))) && (!y15))) ?_
            refine zk 1 ?_
            refine zE (.c (.ptr 11 4)) ?_
            refine zE (.c (Sx e14.UnderClass)) ?_
            refine zE (.c (Bo (!(sEq e14.UnderClass (⟨#[]⟩ : ByteArray))))) ?_
            refine zF [(!((!(sEq e14.Class (⟨#[]⟩ : ByteArray))) && (!y15)))] (.c (Bo (!(sEq e14.UnderClass (⟨#[]⟩ : ByteArray))))) ?_
            refine zE (.c (.ptr 11 4)) ?_
            refine zE (.c (Sx e14.UnderClass)) ?_
            obtain ⟨y16, he, h⟩ := bindE h
            refine rx_Ecall (e := [(!((!(sEq e14.Class (⟨#[]⟩ : ByteArray))) && (!y15))), (!(sEq e14.UnderClass (⟨#[]⟩ : ByteArray)))]) [(56, .c (Sx e14.UnderClass), some 2)] (F := 31) (As := [.c (Sx e14.UnderClass)]) (Bs := [.c (Sx e14.UnderClass)]) (r := .c (Bo y16)) (v := .c (Bo y16)) (by kernel_rfl) (by kernel_rfl) (by kernel_rfl) (by kernel_rfl) fok31 (by kernel_rfl) (fun hg => ref11_Name_ok n _ y16 (gd_spec he hg)) (by kernel_rfl) rfl rfl ?_
            clear he
            refine zE (.c (Bo (!y16))) ?_
            refine zP (.bool ((!(sEq e14.UnderClass (⟨#[]⟩ : ByteArray))) && (!y16))) ?_
            refine zP (.bool (((!(sEq e14.Class (⟨#[]⟩ : ByteArray))) && (!y15)) || ((!(sEq e14.UnderClass (⟨#[]⟩ : ByteArray))) && (!y16)))) ?_
            refine zee [1, 3, 4, 60] (L2 := [(1, .c (.ptr 0 0)), (3, .c (I v12)), (4, .c (.ptr 11 0)), (60, .c (Bo (((!(sEq e14.Class (⟨#[]⟩ : ByteArray))) && (!y15)) || ((!(sEq e14.UnderClass (⟨#[]⟩ : ByteArray))) && (!y16)))))]) (G2 := [(0, .blk 30 [.lit (List.map eGRule p0.Rules)]), (11, .blk 33 [I e14.Kind, Sx e14.Class, I e14.States, I e14.UnderKind, Sx e14.UnderClass, .lit (List.map eGDecl e14.Decls)])]) 51 ?_
            refine aw_ite (t := (((!(sEq e14.Class (⟨#[]⟩ : ByteArray))) && (!y15)) || ((!(sEq e14.UnderClass (⟨#[]⟩ : ByteArray))) && (!y16)))) (by kernel_rfl) h (fun h => ?_) (fun h => ?_)
            · refine za [2] ?_
              have h := Option.some.inj h
              subst h
              exact aw_ret (fin_pub (A := .c (I 4)) (.inl rfl) (by kernel_rfl) (by kernel_rfl) (by kernel_rfl))
            · refine aw_skip ?_
              refine aw_seq ?_
              refine zx fun _ => ?_
              refine zk 4 ?_
              refine zE (.c (.ptr 11 2)) ?_
              refine zE (.c (I e14.States)) ?_
              refine zE (.c (Bo (decide (e14.States > 31)))) ?_
              refine zP (.bool ((decide (e14.States < 0)) || (decide (e14.States > 31)))) ?_
              refine ze [1, 3, 4, 68] ?_
              refine aw_ite (t := ((decide (e14.States < 0)) || (decide (e14.States > 31)))) (by kernel_rfl) h (fun h => ?_) (fun h => ?_)
              · refine za [2] ?_
                have h := Option.some.inj h
                subst h
                exact aw_ret (fin_pub (A := .c (I 1)) (.inl rfl) (by kernel_rfl) (by kernel_rfl) (by kernel_rfl))
              · refine aw_skip ?_
                refine aw_seq ?_
                refine zx fun _ => ?_
                refine zk 2 ?_
                refine rx_rd (v := .c (I (List.length e14.Decls : Int))) (foot := []) (rd_len (enc := eGDecl) (l := e14.Decls) (by kernel_rfl)) (by kernel_rfl) rfl rfl ?_
                refine zk 1 ?_
                refine ze [1, 3, 4, 72] ?_
                refine aw_ite (t := (decide ((List.length e14.Decls : Int) > 50))) (by kernel_rfl) h (fun h => ?_) (fun h => ?_)
                · refine za [2] ?_
                  have h := Option.some.inj h
                  subst h
                  exact aw_ret (fin_pub (A := .c (I 2)) (.inl rfl) (by kernel_rfl) (by kernel_rfl) (by kernel_rfl))
                · refine aw_skip ?_
                  refine za [1, 3, 4, 5] ?_
                  refine aw_block ?_
                  refine aw_loopJ (fun n s => ∃ (v19 : Int), ref17_Validate_L1 e14 j13 v12 p0 n v19 = some r ∧ s = mk [(1, .c (.ptr 0 0)), (3, .c (I v12)), (4, .c (.ptr 1 0)), (5, .c (I v19))] [(0, .blk 30 [.lit (List.map eGRule p0.Rules)]), (1, .blk 33 [I e14.Kind, Sx e14.Class, I e14.States, I e14.UnderKind, Sx e14.UnderClass, .lit (List.map eGDecl e14.Decls)])] 2) n _ (zv [(0, 0), (11, 1)] [1, 3, 4, 5] 2) ⟨_, h, rfl⟩ (fun s ⟨v19, h, _⟩ => nomatch h) ?_
                  rintro n s ⟨v19, h, rfl⟩
                  rw [ref17_Validate_L1] at h
                  refine aw_seq ?_
                  refine zx fun _ => ?_
                  refine zk 3 ?_
                  refine rx_rd (v := .c (I (List.length e14.Decls : Int))) (foot := []) (rd_len (enc := eGDecl) (l := e14.Decls) (by kernel_rfl)) (by kernel_rfl) rfl rfl ?_
                  refine zk 1 ?_
                  refine ze [1, 3, 4, 5, 77] ?_
                  refine aw_ite (t := (decide (v19 < (List.length e14.Decls : Int)))) (by kernel_rfl) h (fun h => ?_) (fun h => ?_)
                  · refine aw_skip ?_
                    refine aw_seq ?_
                    refine aw_block ?_
                    refine zdx [[], [], [1], [], [2, 3, 1], [4, 2, 3, 1], [0, 5, 4, 2, 3, 1], [6, 0, 1, 2, 3, 4, 5]] fun _ => ?_
                    refine zk 4 ?_
                    obtain ⟨e20, he, h⟩ := bindE h
                    refine rx_rd (v := .c (.imm [I e20.Prop_, I e20.Source, I e20.N, Sx e20.Token])) (foot := []) (rd_idx (enc := eGDecl) (sz := 4) (l := e14.Decls) (ix := v19) he (by kernel_rfl) (by kernel_rfl) (by kernel_rfl)) (by kernel_rfl) rfl rfl ?_
                    clear he
                    refine zk 1 ?_
                    obtain ⟨y21, he, h⟩ := bindE h
                    refine rx_call (F := 32) (As := [.agg [I e14.Kind, Sx e14.Class, I e14.States, I e14.UnderKind, Sx e14.UnderClass, .lit (List.map eGDecl e14.Decls)], .agg [I e20.Prop_, I e20.Source, I e20.N, Sx e20.Token]]) (Bs := [.agg [I e14.Kind, Sx e14.Class, I e14.States, I e14.UnderKind, Sx e14.UnderClass, .lit (List.map eGDecl e14.Decls)], .agg [I e20.Prop_, I e20.Source, I e20.N, Sx e20.Token]]) (r := .c (I y21)) (v := .c (I y21)) (by kernel_rfl) fok32 (by kernel_rfl) (ref17_declaration_ok n _ _ y21 he) (by kernel_rfl) (by kernel_rfl) rfl rfl ?_
                    clear he
                    refine zk 1 ?_
                    refine ze [1, 3, 4, 5, 6] ?_
                    refine za [1, 3, 4, 5, 6, 88] ?_
                    refine aw_ite (t := (y21 != 0)) (by kernel_rfl) h (fun h => ?_) (fun h => ?_)
                    · refine za [2] ?_
                      have h := Option.some.inj h
                      subst h
                      exact aw_ret (fin_pub (A := .c (I y21)) (.inl rfl) (by kernel_rfl) (by kernel_rfl) (by kernel_rfl))
                    · refine aw_skip ?_
                      refine aw_out ?_
                      refine zb ?_
                      exact via (zv [(0, 0), (1, 1)] [1, 3, 4, 5] 2) (⟨_, h, rfl⟩)
                  · exact aw_views (zv [(0, 0)] [1, 3] 1) (aw_exit (hj13 _ h))
      · exact aw_views (zv [] [] 0) (aw_exit (hj1 _ h))
def base_New  (n : Nat) (p0 : (List Int)) : Option GSrc := (withJ (fun (v3 : List Int) => some (GSrc.mk v3 0)) (fun (j1 : List Int → Option GSrc) => (if (decide ((List.length p0 : Int) > 4000)) = true then (subl p0 0 4000).bind fun (l2 : List Int) => j1 l2 else j1 p0)))
theorem base_New_ok  (n : Nat) (p0 : (List Int)) (r : GSrc) (h : base_New n p0 = some r) : FnD E 18 0 [.c (.lit (List.map eI64 p0))] [] (.c (.ptr 0 0)) [(0, .blk 90 [.lit (List.map eI64 r.L), I r.At])] := by
  refine zfn Tryd.func18 rfl ?_
  unfold base_New at h
  refine za [0] ?_
  refine aw_join h (fun A j => ∀ (v3 : List Int), j v3 = some r → A (mk [(0, .c (.lit (List.map eI64 v3)))] [] 0)) (fun v3 h => ?_) (fun j1 Aj1 hj1 h => ?_)
  · refine za [2] ?_
    have h := Option.some.inj h
    subst h
    refine aw_views (views_of rfl [(2, 0)] [2] (L2 := [(2, .c (.ptr 0 0))]) (G2 := [(0, .blk 90 [.lit (List.map eI64 v3), I 0])]) (lim2 := 1) (by kernel_rfl)) ?_
    exact aw_ret (fin_own (.inl rfl) (by kernel_rfl) (by kernel_rfl))
  · refine zx fun _ => ?_
    refine zk 1 ?_
    refine rx_rd (v := .c (I (List.length p0 : Int))) (foot := []) (rd_len (enc := eI64) (l := p0) (by kernel_rfl)) (by kernel_rfl) rfl rfl ?_
    refine zk 1 ?_
    refine ze [0, 5] ?_
    refine aw_ite (t := (decide ((List.length p0 : Int) > 4000))) (by kernel_rfl) h (fun h => ?_) (fun h => ?_)
    · refine aw_out ?_
      refine zy fun _ => ?_
      refine zk 1 ?_
      obtain ⟨l2, he, h⟩ := bindE h
      refine rx_W (v := .c (.lit (List.map eI64 l2))) (foot := []) (rdW_slice (enc := eI64) (l := p0) (p := 0) (q := 4000) (sz := 1) he (by kernel_rfl) (fun x => by kernel_rfl)) (by kernel_rfl) rfl rfl ?_
      clear he
      refine zk 1 ?_
      refine x_last ?_
      exact via (zv [] [0] 0) (hj1 _ h)
    · exact aw_views (zv [] [0] 0) (aw_skip (hj1 _ h))
def Src_N  (n : Nat) (p0 : GSrc) (p1 : Int) : Option (Int × GSrc) := (if ((decide (p0.At ≥ (List.length p0.L : Int))) || (decide (p1 < 1))) = true then some (0, p0) else (idx p0.L p0.At).bind fun (e1 : Int) => (nz p1).bind fun (d2 : Int) => (withJ (fun (v4 : Int) => some (v4, (GSrc.mk p0.L (IntKind.wrap .i64 (p0.At + 1))))) (fun (j3 : Int → Option (Int × GSrc)) => (if (decide ((Int.tmod e1 p1) < 0)) = true then j3 (IntKind.wrap .i64 ((Int.tmod e1 p1) + p1)) else j3 (Int.tmod e1 p1)))))
theorem Src_N_ok  (n : Nat) (p0 : GSrc) (p1 : Int) (r : (Int × GSrc)) (h : Src_N n p0 p1 = some r) : FnD E 20 1 [.c (.ptr 0 0), .c (I p1)] [(0, .blk 90 [.lit (List.map eI64 p0.L), I p0.At])] (.c (I r.1)) [(0, .blk 90 [.lit (List.map eI64 r.2.L), I r.2.At])] := by
  refine zfn Tryd.func20 rfl ?_
  unfold Src_N at h
  refine za [0, 1] ?_
  refine aw_seq ?_
  refine zdx [[], [0], [1, 0], [2, 1, 0], [], [4], [5, 4], [6, 5, 4], [7, 6, 5, 4], [3, 8, 2, 1, 0, 7, 6, 5, 4], [9, 3, 8, 2, 1, 0, 7, 6, 5, 4], [10, 9, 3, 8, 2, 1, 0, 7, 6, 5, 4], [11, 10, 9, 3, 8, 2, 1, 0, 7, 6, 5, 4], [10, 12, 9, 3, 8, 2, 1, 0, 7, 6, 5, 4, 11]] fun _ => ?_
  refine zk 8 ?_
  refine rx_rd (v := .c (I (List.length p0.L : Int))) (foot := []) (rd_len (enc := eI64) (l := p0.L) (by kernel_rfl)) (by kernel_rfl) rfl rfl ?_
  refine zk 2 ?_
  refine zE (.c (I p1)) ?_
  refine zE (.c (Bo (decide (p1 < 1)))) ?_
  refine zP (.bool ((decide (p0.At ≥ (List.length p0.L : Int))) || (decide (p1 < 1)))) ?_
  refine ze [0, 1, 19] ?_
  refine aw_ite (t := ((decide (p0.At ≥ (List.length p0.L : Int))) || (decide (p1 < 1)))) (by kernel_rfl) h (fun h => ?_) (fun h => ?_)
  · refine za [4] ?_
    have h := Option.some.inj h
    subst h
    exact aw_ret (fin_pub (A := .c (I 0)) (.inl rfl) (by kernel_rfl) (by kernel_rfl) (by kernel_rfl))
  · refine aw_skip ?_
    refine zdx [[], [0], [1, 0], [2, 1, 0], [], [4], [5, 4], [6, 5, 4], [3, 7, 2, 1, 0, 6, 5, 4], [8, 3, 7, 2, 1, 0, 6, 5, 4], [], [9, 10, 8, 3, 7, 2, 1, 0, 6, 5, 4], [11, 0, 1, 2, 3, 4, 5, 6, 7, 8, 9, 10]] fun _ => ?_
    refine zk 8 ?_
    obtain ⟨e1, he, h⟩ := bindE h
    refine rx_rd (v := .c (.imm [I e1])) (foot := []) (rd_idx (enc := eI64) (sz := 1) (l := p0.L) (ix := p0.At) he (by kernel_rfl) (by kernel_rfl) (by kernel_rfl)) (by kernel_rfl) rfl rfl ?_
    clear he
    refine zk 2 ?_
    obtain ⟨d2, he, h⟩ := bindE h
    refine rx_rd (v := .c (I (Int.tmod e1 p1))) (foot := []) (rd_rem (k := .i64) (x := e1) (y := p1) he (by kernel_rfl)) (by kernel_rfl) rfl rfl ?_
    clear he
    refine zk 1 ?_
    refine zee [0, 1, 5] (L2 := [(0, .c (.ptr 0 0)), (1, .c (I p1)), (5, .c (I (Int.tmod e1 p1)))]) (G2 := [(0, .blk 90 [.lit (List.map eI64 p0.L), I p0.At])]) 29 ?_
    refine za [1, 5] ?_
    refine aw_join h (fun A j => ∀ (v4 : Int), j v4 = some r → A (mk [(5, .c (I v4))] [(0, .blk 90 [.lit (List.map eI64 p0.L), I (IntKind.wrap .i64 (p0.At + 1))])] 1)) (fun v4 h => ?_) (fun j3 Aj3 hj3 h => ?_)
    · refine za [4] ?_
      have h := Option.some.inj h
      subst h
      exact aw_ret (fin_pub (A := .c (I v4)) (.inl rfl) (by kernel_rfl) (by kernel_rfl) (by kernel_rfl))
    · refine za [1, 5, 40] ?_
      refine aw_ite (t := (decide ((Int.tmod e1 p1) < 0))) (by kernel_rfl) h (fun h => ?_) (fun h => ?_)
      · refine aw_out ?_
        refine zb ?_
        exact via (zv [(0, 0)] [5] 1) (hj3 _ h)
      · exact aw_views (zv [(0, 0)] [5] 1) (aw_skip (hj3 _ h))
def Src_Name  (n : Nat) (p0 : GSrc) : Option (ByteArray × GSrc) := (Src_N n p0 (List.length [(⟨#[97]⟩ : ByteArray), (⟨#[98]⟩ : ByteArray), (⟨#[99]⟩ : ByteArray), (⟨#[100]⟩ : ByteArray), (⟨#[120]⟩ : ByteArray), (⟨#[121]⟩ : ByteArray), (⟨#[105, 116, 101, 109]⟩ : ByteArray), (⟨#[110, 45, 49]⟩ : ByteArray)] : Int)).bind fun (y1 : (Int × GSrc)) => (idx [(⟨#[97]⟩ : ByteArray), (⟨#[98]⟩ : ByteArray), (⟨#[99]⟩ : ByteArray), (⟨#[100]⟩ : ByteArray), (⟨#[120]⟩ : ByteArray), (⟨#[121]⟩ : ByteArray), (⟨#[105, 116, 101, 109]⟩ : ByteArray), (⟨#[110, 45, 49]⟩ : ByteArray)] y1.1).bind fun (e2 : ByteArray) => some (e2, y1.2)
theorem Src_Name_ok  (n : Nat) (p0 : GSrc) (r : (ByteArray × GSrc)) (h : Src_Name n p0 = some r) : FnD E 33 1 [.c (.ptr 0 0)] [(0, .blk 90 [.lit (List.map eI64 p0.L), I p0.At])] (.c (Sx r.1)) [(0, .blk 90 [.lit (List.map eI64 r.2.L), I r.2.At])] := by
  refine zfn Tryd.func33 rfl ?_
  unfold Src_Name at h
  refine za [0] ?_
  refine za [0, 3] ?_
  refine zx fun _ => ?_
  refine zk 3 ?_
  refine rx_rd (v := .c (I (List.length [(⟨#[97]⟩ : ByteArray), (⟨#[98]⟩ : ByteArray), (⟨#[99]⟩ : ByteArray), (⟨#[100]⟩ : ByteArray), (⟨#[120]⟩ : ByteArray), (⟨#[121]⟩ : ByteArray), (⟨#[105, 116, 101, 109]⟩ : ByteArray), (⟨#[110, 45, 49]⟩ : ByteArray)] : Int))) (foot := []) (rd_len (enc := eS) (l := [(⟨#[97]⟩ : ByteArray), (⟨#[98]⟩ : ByteArray), (⟨#[99]⟩ : ByteArray), (⟨#[100]⟩ : ByteArray), (⟨#[120]⟩ : ByteArray), (⟨#[121]⟩ : ByteArray), (⟨#[105, 116, 101, 109]⟩ : ByteArray), (⟨#[110, 45, 49]⟩ : ByteArray)]) (by kernel_rfl)) (by kernel_rfl) rfl rfl ?_
  obtain ⟨y1, he, h⟩ := bindE h
  refine rx_callO (F := 20) (As := [.c (.ptr 0 0), .c (I (List.length [(⟨#[97]⟩ : ByteArray), (⟨#[98]⟩ : ByteArray), (⟨#[99]⟩ : ByteArray), (⟨#[100]⟩ : ByteArray), (⟨#[120]⟩ : ByteArray), (⟨#[121]⟩ : ByteArray), (⟨#[105, 116, 101, 109]⟩ : ByteArray), (⟨#[110, 45, 49]⟩ : ByteArray)] : Int))]) (Bs := [.c (.ptr 0 0), .c (I (List.length [(⟨#[97]⟩ : ByteArray), (⟨#[98]⟩ : ByteArray), (⟨#[99]⟩ : ByteArray), (⟨#[100]⟩ : ByteArray), (⟨#[120]⟩ : ByteArray), (⟨#[121]⟩ : ByteArray), (⟨#[105, 116, 101, 109]⟩ : ByteArray), (⟨#[110, 45, 49]⟩ : ByteArray)] : Int))]) (σ := [(0, 0)]) (k := 1) (Gc := [(0, .blk 90 [.lit (List.map eI64 p0.L), I p0.At])]) (Gf := [(0, .blk 90 [.lit (List.map eI64 y1.2.L), I y1.2.At])]) (r := .c (I y1.1)) (v := .c (I y1.1)) (by kernel_rfl) fok20 ⟨.inr ⟨(by kernel_rfl), (by kernel_rfl)⟩, ⟨.inl (by kernel_rfl), trivial⟩⟩ (Src_N_ok n _ _ y1 he) (by kernel_rfl) (by kernel_rfl) (by kernel_rfl) (by kernel_rfl) rfl rfl rfl ?_
  clear he
  obtain ⟨e2, he, h⟩ := bindE h
  refine rx_rd (v := .c (.imm [Sx e2])) (foot := []) (rd_idx (enc := eS) (sz := 1) (l := [(⟨#[97]⟩ : ByteArray), (⟨#[98]⟩ : ByteArray), (⟨#[99]⟩ : ByteArray), (⟨#[100]⟩ : ByteArray), (⟨#[120]⟩ : ByteArray), (⟨#[121]⟩ : ByteArray), (⟨#[105, 116, 101, 109]⟩ : ByteArray), (⟨#[110, 45, 49]⟩ : ByteArray)]) (ix := y1.1) he (by kernel_rfl) (by kernel_rfl) (by kernel_rfl)) (by kernel_rfl) rfl rfl ?_
  clear he
  refine zk 2 ?_
  refine ze [2] ?_
  have h := Option.some.inj h
  subst h
  exact aw_ret (fin_pub (A := .c (Sx e2)) (.inl rfl) (by kernel_rfl) (by kernel_rfl) (by kernel_rfl))
def Src_Range  (n : Nat) (p0 : GSrc) (p1 : Int) (p2 : Int) : Option (Int × GSrc) := (Src_N n p0 (IntKind.wrap .i64 ((IntKind.wrap .i64 (p2 - p1)) + 1))).bind fun (y1 : (Int × GSrc)) => some ((IntKind.wrap .i64 (p1 + y1.1)), y1.2)
theorem Src_Range_ok  (n : Nat) (p0 : GSrc) (p1 : Int) (p2 : Int) (r : (Int × GSrc)) (h : Src_Range n p0 p1 p2 = some r) : FnD E 21 1 [.c (.ptr 0 0), .c (I p1), .c (I p2)] [(0, .blk 90 [.lit (List.map eI64 p0.L), I p0.At])] (.c (I r.1)) [(0, .blk 90 [.lit (List.map eI64 r.2.L), I r.2.At])] := by
  refine zfn Tryd.func21 rfl ?_
  unfold Src_Range at h
  refine za [0, 1, 2] ?_
  refine zx fun _ => ?_
  refine zk 6 ?_
  obtain ⟨y1, he, h⟩ := bindE h
  refine rx_callO (F := 20) (As := [.c (.ptr 0 0), .c (I (IntKind.wrap .i64 ((IntKind.wrap .i64 (p2 - p1)) + 1)))]) (Bs := [.c (.ptr 0 0), .c (I (IntKind.wrap .i64 ((IntKind.wrap .i64 (p2 - p1)) + 1)))]) (σ := [(0, 0)]) (k := 1) (Gc := [(0, .blk 90 [.lit (List.map eI64 p0.L), I p0.At])]) (Gf := [(0, .blk 90 [.lit (List.map eI64 y1.2.L), I y1.2.At])]) (r := .c (I y1.1)) (v := .c (I y1.1)) (by kernel_rfl) fok20 ⟨.inr ⟨(by kernel_rfl), (by kernel_rfl)⟩, ⟨.inl (by kernel_rfl), trivial⟩⟩ (Src_N_ok n _ _ y1 he) (by kernel_rfl) (by kernel_rfl) (by kernel_rfl) (by kernel_rfl) rfl rfl rfl ?_
  clear he
  refine zk 2 ?_
  refine ze [6] ?_
  have h := Option.some.inj h
  subst h
  exact aw_ret (fin_pub (A := .c (I (IntKind.wrap .i64 (p1 + y1.1)))) (.inl rfl) (by kernel_rfl) (by kernel_rfl) (by kernel_rfl))
def Src_decl_L0 (v3 : Int) (j9 : Int → Option (GDecl × GSrc)) (y7 : (Int × GSrc)) : Nat → Int → Option (GDecl × GSrc)
  | 0, _ => none
  | n + 1, v11 => (ref17_InRange n v3 v11).bind fun (y12 : Bool) => (if (!y12) = true then (if (decide ((maxI 0 (IntKind.wrap .i64 (Int.tdiv v11 2))) < 2)) = true then j9 1 else Src_decl_L0 v3 j9 y7 n (maxI 0 (IntKind.wrap .i64 (Int.tdiv v11 2)))) else j9 v11)
def Src_decl  (n : Nat) (p0 : GSrc) (p1 : Int) : Option (GDecl × GSrc) := (Src_N n p0 22).bind fun (y1 : (Int × GSrc)) => (withJ (fun (v3 : Int) => (Src_N n y1.2 8).bind fun (y4 : (Int × GSrc)) => (if (y4.1 == 0) = true then (Src_N n y4.2 4).bind fun (y5 : (Int × GSrc)) => (idx [(⟨#[105, 110, 107]⟩ : ByteArray), (⟨#[112, 97, 112, 101, 114]⟩ : ByteArray), (⟨#[115, 112, 97, 99, 101]⟩ : ByteArray), (⟨#[110, 111, 110, 101]⟩ : ByteArray)] y5.1).bind fun (e6 : ByteArray) => some ((GDecl.mk v3 1 0 e6), y5.2) else (if (y4.1 == 1) = true then some ((GDecl.mk v3 2 0 (⟨#[]⟩ : ByteArray)), y4.2) else (if (y4.1 == 2) = true then some ((GDecl.mk v3 3 0 (⟨#[]⟩ : ByteArray)), y4.2) else (Src_N n y4.2 (List.length [0, 1, 2, 3, 4, 8, 12, 20, 40, 90, 300, (-1 : Int)] : Int)).bind fun (y7 : (Int × GSrc)) => (idx [0, 1, 2, 3, 4, 8, 12, 20, 40, 90, 300, (-1 : Int)] y7.1).bind fun (e8 : Int) => (withJ (fun (v14 : Int) => some ((GDecl.mk v3 0 v14 (⟨#[]⟩ : ByteArray)), y7.2)) (fun (j9 : Int → Option (GDecl × GSrc)) => Src_decl_L0 v3 j9 y7 n e8)))))) (fun (j2 : Int → Option (GDecl × GSrc)) => (if (((bAnd .i64 p1 7) != 0) && ((y1.1 == 5) || (y1.1 == 21))) = true then j2 9 else j2 y1.1)))
theorem Src_decl_ok  (n : Nat) (p0 : GSrc) (p1 : Int) (r : (GDecl × GSrc)) (h : Src_decl n p0 p1 = some r) : FnD E 34 1 [.c (.ptr 0 0), .c (I p1)] [(0, .blk 90 [.lit (List.map eI64 p0.L), I p0.At])] (.agg [I r.1.Prop_, I r.1.Source, I r.1.N, Sx r.1.Token]) [(0, .blk 90 [.lit (List.map eI64 r.2.L), I r.2.At])] := by
  refine zfn Tryd.func34 rfl ?_
  unfold Src_decl at h
  refine za [0, 1, 4] ?_
  refine zx fun _ => ?_
  refine zk 1 ?_
  obtain ⟨y1, he, h⟩ := bindE h
  refine rx_callO (F := 20) (As := [.c (.ptr 0 0), .c (I 22)]) (Bs := [.c (.ptr 0 0), .c (I 22)]) (σ := [(0, 0)]) (k := 1) (Gc := [(0, .blk 90 [.lit (List.map eI64 p0.L), I p0.At])]) (Gf := [(0, .blk 90 [.lit (List.map eI64 y1.2.L), I y1.2.At])]) (r := .c (I y1.1)) (v := .c (I y1.1)) (by kernel_rfl) fok20 ⟨.inr ⟨(by kernel_rfl), (by kernel_rfl)⟩, ⟨.inl (by kernel_rfl), trivial⟩⟩ (Src_N_ok n _ _ y1 he) (by kernel_rfl) (by kernel_rfl) (by kernel_rfl) (by kernel_rfl) rfl rfl rfl ?_
  clear he
  refine zk 3 ?_
  refine ze [0, 1, 4, 5] ?_
  refine aw_join h (fun A j => ∀ (v3 : Int), j v3 = some r → A (mk [(0, .c (.ptr 0 0)), (4, .c (.ptr 1 0)), (5, .c (.ptr 2 0))] [(0, .blk 90 [.lit (List.map eI64 y1.2.L), I y1.2.At]), (1, .blk 45 [I 0, I 0, I 0, Sx (⟨#[]⟩ : ByteArray)]), (2, .blk 45 [I v3, I 0, I 0, Sx (⟨#[]⟩ : ByteArray)])] 3)) (fun v3 h => ?_) (fun j2 Aj2 hj2 h => ?_)
  · refine aw_seq ?_
    refine zx fun _ => ?_
    refine zk 1 ?_
    obtain ⟨y4, he, h⟩ := bindE h
    refine rx_callO (F := 20) (As := [.c (.ptr 0 0), .c (I 8)]) (Bs := [.c (.ptr 0 0), .c (I 8)]) (σ := [(0, 0)]) (k := 1) (Gc := [(0, .blk 90 [.lit (List.map eI64 y1.2.L), I y1.2.At])]) (Gf := [(0, .blk 90 [.lit (List.map eI64 y4.2.L), I y4.2.At])]) (r := .c (I y4.1)) (v := .c (I y4.1)) (by kernel_rfl) fok20 ⟨.inr ⟨(by kernel_rfl), (by kernel_rfl)⟩, ⟨.inl (by kernel_rfl), trivial⟩⟩ (Src_N_ok n _ _ y4 he) (by kernel_rfl) (by kernel_rfl) (by kernel_rfl) (by kernel_rfl) rfl rfl rfl ?_
    clear he
    refine ze [0, 4, 5, 25] ?_
    refine aw_block ?_
    refine za [0, 4, 5, 25, 26] ?_
    refine aw_ite (t := (y4.1 == 0)) (by kernel_rfl) h (fun h => ?_) (fun h => ?_)
    · refine zdx [[], [], [1], [0, 2, 1], [3, 0, 2, 1], [], [5, 2, 1], [0, 1, 2, 3, 4, 5, 6], [7, 4, 6, 0, 1, 2, 3, 5]] fun _ => ?_
      refine zk 2 ?_
      obtain ⟨y5, he, h⟩ := bindE h
      refine rx_callO (F := 20) (As := [.c (.ptr 0 0), .c (I 4)]) (Bs := [.c (.ptr 0 0), .c (I 4)]) (σ := [(0, 0)]) (k := 1) (Gc := [(0, .blk 90 [.lit (List.map eI64 y4.2.L), I y4.2.At])]) (Gf := [(0, .blk 90 [.lit (List.map eI64 y5.2.L), I y5.2.At])]) (r := .c (I y5.1)) (v := .c (I y5.1)) (by kernel_rfl) fok20 ⟨.inr ⟨(by kernel_rfl), (by kernel_rfl)⟩, ⟨.inl (by kernel_rfl), trivial⟩⟩ (Src_N_ok n _ _ y5 he) (by kernel_rfl) (by kernel_rfl) (by kernel_rfl) (by kernel_rfl) rfl rfl rfl ?_
      clear he
      obtain ⟨e6, he, h⟩ := bindE h
      refine rx_rd (v := .c (.imm [Sx e6])) (foot := []) (rd_idx (enc := eS) (sz := 1) (l := [(⟨#[105, 110, 107]⟩ : ByteArray), (⟨#[112, 97, 112, 101, 114]⟩ : ByteArray), (⟨#[115, 112, 97, 99, 101]⟩ : ByteArray), (⟨#[110, 111, 110, 101]⟩ : ByteArray)]) (ix := y5.1) he (by kernel_rfl) (by kernel_rfl) (by kernel_rfl)) (by kernel_rfl) rfl rfl ?_
      clear he
      refine zk 5 ?_
      refine ze [4, 5] ?_
      refine za [4] ?_
      have h := Option.some.inj h
      subst h
      exact aw_ret (fin_pub (A := .agg [I v3, I 1, I 0, Sx e6]) (.inl rfl) (by kernel_rfl) (by kernel_rfl) (by kernel_rfl))
    · refine za [0, 4, 5, 25, 36] ?_
      refine aw_ite (t := (y4.1 == 1)) (by kernel_rfl) h (fun h => ?_) (fun h => ?_)
      · refine za [4, 5] ?_
        refine za [4] ?_
        have h := Option.some.inj h
        subst h
        exact aw_ret (fin_pub (A := .agg [I v3, I 2, I 0, Sx (⟨#[]⟩ : ByteArray)]) (.inl rfl) (by kernel_rfl) (by kernel_rfl) (by kernel_rfl))
      · refine za [0, 4, 5, 40] ?_
        refine aw_ite (t := (y4.1 == 2)) (by kernel_rfl) h (fun h => ?_) (fun h => ?_)
        · refine za [4, 5] ?_
          refine za [4] ?_
          have h := Option.some.inj h
          subst h
          exact aw_ret (fin_pub (A := .agg [I v3, I 3, I 0, Sx (⟨#[]⟩ : ByteArray)]) (.inl rfl) (by kernel_rfl) (by kernel_rfl) (by kernel_rfl))
        · refine aw_skip ?_
          refine za [0, 4, 5, 6] ?_
          refine zx fun _ => ?_
          refine zk 3 ?_
          refine rx_rd (v := .c (I (List.length [0, 1, 2, 3, 4, 8, 12, 20, 40, 90, 300, (-1 : Int)] : Int))) (foot := []) (rd_len (enc := eI64) (l := [0, 1, 2, 3, 4, 8, 12, 20, 40, 90, 300, (-1 : Int)]) (by kernel_rfl)) (by kernel_rfl) rfl rfl ?_
          obtain ⟨y7, he, h⟩ := bindE h
          refine rx_callO (F := 20) (As := [.c (.ptr 0 0), .c (I (List.length [0, 1, 2, 3, 4, 8, 12, 20, 40, 90, 300, (-1 : Int)] : Int))]) (Bs := [.c (.ptr 0 0), .c (I (List.length [0, 1, 2, 3, 4, 8, 12, 20, 40, 90, 300, (-1 : Int)] : Int))]) (σ := [(0, 0)]) (k := 1) (Gc := [(0, .blk 90 [.lit (List.map eI64 y4.2.L), I y4.2.At])]) (Gf := [(0, .blk 90 [.lit (List.map eI64 y7.2.L), I y7.2.At])]) (r := .c (I y7.1)) (v := .c (I y7.1)) (by kernel_rfl) fok20 ⟨.inr ⟨(by kernel_rfl), (by kernel_rfl)⟩, ⟨.inl (by kernel_rfl), trivial⟩⟩ (Src_N_ok n _ _ y7 he) (by kernel_rfl) (by kernel_rfl) (by kernel_rfl) (by kernel_rfl) rfl rfl rfl ?_
          clear he
          obtain ⟨e8, he, h⟩ := bindE h
          refine rx_rd (v := .c (.imm [I e8])) (foot := []) (rd_idx (enc := eI64) (sz := 1) (l := [0, 1, 2, 3, 4, 8, 12, 20, 40, 90, 300, (-1 : Int)]) (ix := y7.1) he (by kernel_rfl) (by kernel_rfl) (by kernel_rfl)) (by kernel_rfl) rfl rfl ?_
          clear he
          refine zk 3 ?_
          refine zee [4, 5] (L2 := [(4, .c (.ptr 1 0)), (5, .c (.ptr 2 0))]) (G2 := [(0, .blk 90 [.lit (List.map eI64 y7.2.L), I y7.2.At]), (1, .blk 45 [I 0, I 0, I 0, Sx (⟨#[]⟩ : ByteArray)]), (2, .blk 45 [I v3, I 0, I e8, Sx (⟨#[]⟩ : ByteArray)]), (11, .tok 3 1 (List.length [0, 1, 2, 3, 4, 8, 12, 20, 40, 90, 300, (-1 : Int)]))]) 22 ?_
          refine aw_join h (fun A j => ∀ (v14 : Int), j v14 = some r → A (mk [(4, .c (.ptr 1 0)), (5, .c (.ptr 2 0))] [(0, .blk 90 [.lit (List.map eI64 y7.2.L), I y7.2.At]), (1, .blk 45 [I 0, I 0, I 0, Sx (⟨#[]⟩ : ByteArray)]), (2, .blk 45 [I v3, I 0, I v14, Sx (⟨#[]⟩ : ByteArray)])] 3)) (fun v14 h => ?_) (fun j9 Aj9 hj9 h => ?_)
          · refine za [4] ?_
            have h := Option.some.inj h
            subst h
            exact aw_ret (fin_pub (A := .agg [I v3, I 0, I v14, Sx (⟨#[]⟩ : ByteArray)]) (.inl rfl) (by kernel_rfl) (by kernel_rfl) (by kernel_rfl))
          · refine aw_block ?_
            refine aw_loopJ (fun n s => ∃ (v11 : Int), Src_decl_L0 v3 j9 y7 n v11 = some r ∧ s = mk [(4, .c (.ptr 1 0)), (5, .c (.ptr 2 0))] [(0, .blk 90 [.lit (List.map eI64 y7.2.L), I y7.2.At]), (1, .blk 45 [I 0, I 0, I 0, Sx (⟨#[]⟩ : ByteArray)]), (2, .blk 45 [I v3, I 0, I v11, Sx (⟨#[]⟩ : ByteArray)])] 3) n _ (zv [(0, 0), (1, 1), (2, 2)] [4, 5] 3) ⟨_, h, rfl⟩ (fun s ⟨v11, h, _⟩ => nomatch h) ?_
            rintro n s ⟨v11, h, rfl⟩
            rw [Src_decl_L0] at h
            refine aw_seq ?_
            refine zx fun _ => ?_
            refine zk 4 ?_
            obtain ⟨y12, he, h⟩ := bindE h
            refine rx_call (F := 12) (As := [.c (I v3), .c (I v11)]) (Bs := [.c (I v3), .c (I v11)]) (r := .c (Bo y12)) (v := .c (Bo y12)) (by kernel_rfl) fok12 (by kernel_rfl) (ref17_InRange_ok n _ _ y12 he) (by kernel_rfl) (by kernel_rfl) rfl rfl ?_
            clear he
            refine zk 1 ?_
            refine ze [4, 5, 58] ?_
            refine aw_ite (t := (!y12)) (by kernel_rfl) h (fun h => ?_) (fun h => ?_)
            · refine aw_skip ?_
              refine aw_block ?_
              refine zx fun _ => ?_
              refine zk 3 ?_
              refine rx_W (v := .c (I (maxI 0 (IntKind.wrap .i64 (Int.tdiv v11 2))))) (foot := []) (rdW_max (k := .i64) (p := 0) (q := (IntKind.wrap .i64 (Int.tdiv v11 2))) (by kernel_rfl)) (by kernel_rfl) rfl rfl ?_
              refine zk 2 ?_
              refine ze [4, 5] ?_
              refine za [4, 5, 66] ?_
              refine aw_ite (t := (decide ((maxI 0 (IntKind.wrap .i64 (Int.tdiv v11 2))) < 2))) (by kernel_rfl) h (fun h => ?_) (fun h => ?_)
              · refine za [4, 5] ?_
                exact aw_views (zv [(0, 0), (1, 1), (2, 2)] [4, 5] 3) (aw_exit (hj9 _ h))
              · exact aw_views (zv [(0, 0), (1, 1), (2, 2)] [4, 5] 3) (aw_skip (⟨_, h, rfl⟩))
            · exact aw_views (zv [(0, 0), (1, 1), (2, 2)] [4, 5] 3) (aw_exit (hj9 _ h))
  · refine zx fun _ => ?_
    refine zk 4 ?_
    refine zE (.c (.ptr 5 0)) ?_
    refine zE (.c (I y1.1)) ?_
    refine zE (.c (Bo (y1.1 == 5))) ?_
    refine zF [((bAnd .i64 p1 7) != 0)] (.c (Bo (y1.1 == 5))) ?_
    refine zE (.c (.ptr 5 0)) ?_
    refine zE (.c (I y1.1)) ?_
    refine zE (.c (Bo (y1.1 == 21))) ?_
    refine zP (.bool ((y1.1 == 5) || (y1.1 == 21))) ?_
    refine zP (.bool (((bAnd .i64 p1 7) != 0) && ((y1.1 == 5) || (y1.1 == 21)))) ?_
    refine zee [0, 4, 5, 22] (L2 := [(0, .c (.ptr 0 0)), (4, .c (.ptr 1 0)), (5, .c (.ptr 5 0)), (22, .c (Bo (((bAnd .i64 p1 7) != 0) && ((y1.1 == 5) || (y1.1 == 21)))))]) (G2 := [(0, .blk 90 [.lit (List.map eI64 y1.2.L), I y1.2.At]), (1, .blk 45 [I 0, I 0, I 0, Sx (⟨#[]⟩ : ByteArray)]), (5, .blk 45 [I y1.1, I 0, I 0, Sx (⟨#[]⟩ : ByteArray)])]) 20 ?_
    refine aw_ite (t := (((bAnd .i64 p1 7) != 0) && ((y1.1 == 5) || (y1.1 == 21)))) (by kernel_rfl) h (fun h => ?_) (fun h => ?_)
    · refine aw_out ?_
      refine zb ?_
      exact via (zv [(0, 0), (1, 1), (5, 2)] [0, 4, 5] 3) (hj2 _ h)
    · exact aw_views (zv [(0, 0), (1, 1), (5, 2)] [0, 4, 5] 3) (aw_skip (hj2 _ h))
def Src_Sheet_L1 (v89 : Int) (j102 : List Int → Int → List GDecl → Option (GSheet × GSrc)) (v67 : Int) (v77 : Int) (v83 : ByteArray) (v95 : Int) (v101 : ByteArray) (v70 : List GRule) : Nat → Int → List Int → Int → List GDecl → Option (GSheet × GSrc)
  | 0, _, _, _, _ => none
  | n + 1, v109, v110, v111, v112 => (if (decide (v109 > 0)) = true then (Src_decl n (GSrc.mk v110 v111) v89).bind fun (y113 : (GDecl × GSrc)) => (apd 40 v112 [y113.1]).bind fun (l114 : List GDecl) => Src_Sheet_L1 v89 j102 v67 v77 v83 v95 v101 v70 n (IntKind.wrap .i64 (v109 - 1)) y113.2.L y113.2.At l114 else j102 v110 v111 v112)
def Src_Sheet_L0 (j1 : List Int → Int → List GRule → Option (GSheet × GSrc)) : Nat → Int → List Int → Int → List GRule → Option (GSheet × GSrc)
  | 0, _, _, _, _ => none
  | n + 1, v67, v68, v69, v70 => (if (decide (v67 > 0)) = true then (withJ (fun (v126 : List Int) (v127 : Int) (v128 : List GRule) => Src_Sheet_L0 j1 n (IntKind.wrap .i64 (v67 - 1)) v126 v127 v128) (fun (j71 : List Int → Int → List GRule → Option (GSheet × GSrc)) => (withJ (fun (v75 : List Int) (v76 : Int) (v77 : Int) => (withJ (fun (v81 : List Int) (v82 : Int) (v83 : ByteArray) => (withJ (fun (v87 : List Int) (v88 : Int) (v89 : Int) => (withJ (fun (v93 : List Int) (v94 : Int) (v95 : Int) => (withJ (fun (v99 : List Int) (v100 : Int) (v101 : ByteArray) => (withJ (fun (v122 : List Int) (v123 : Int) (v124 : List GDecl) => (apd 80 v70 [(GRule.mk v77 v83 v89 v95 v101 v124)]).bind fun (l125 : List GRule) => j71 v122 v123 l125) (fun (j102 : List Int → Int → List GDecl → Option (GSheet × GSrc)) => (Src_Range n (GSrc.mk v99 v100) 1 4).bind fun (y103 : (Int × GSrc)) => Src_Sheet_L1 v89 j102 v67 v77 v83 v95 v101 v70 n y103.1 y103.2.L y103.2.At ([] : List GDecl)))) (fun (j96 : List Int → Int → ByteArray → Option (GSheet × GSrc)) => (Src_N n (GSrc.mk v93 v94) 5).bind fun (y97 : (Int × GSrc)) => (if (y97.1 == 0) = true then (Src_Name n y97.2).bind fun (y98 : (ByteArray × GSrc)) => j96 y98.2.L y98.2.At y98.1 else j96 y97.2.L y97.2.At (⟨#[]⟩ : ByteArray))))) (fun (j90 : List Int → Int → Int → Option (GSheet × GSrc)) => (Src_N n (GSrc.mk v87 v88) 4).bind fun (y91 : (Int × GSrc)) => (if (y91.1 == 0) = true then (Src_N n y91.2 14).bind fun (y92 : (Int × GSrc)) => j90 y92.2.L y92.2.At y92.1 else j90 y91.2.L y91.2.At 0)))) (fun (j84 : List Int → Int → Int → Option (GSheet × GSrc)) => (Src_N n (GSrc.mk v81 v82) 4).bind fun (y85 : (Int × GSrc)) => (if (y85.1 == 0) = true then (Src_N n y85.2 32).bind fun (y86 : (Int × GSrc)) => j84 y86.2.L y86.2.At y86.1 else j84 y85.2.L y85.2.At 0)))) (fun (j78 : List Int → Int → ByteArray → Option (GSheet × GSrc)) => (Src_N n (GSrc.mk v75 v76) 3).bind fun (y79 : (Int × GSrc)) => (if (y79.1 == 0) = true then (Src_Name n y79.2).bind fun (y80 : (ByteArray × GSrc)) => j78 y80.2.L y80.2.At y80.1 else j78 y79.2.L y79.2.At (⟨#[]⟩ : ByteArray))))) (fun (j72 : List Int → Int → Int → Option (GSheet × GSrc)) => (Src_N n (GSrc.mk v68 v69) 2).bind fun (y73 : (Int × GSrc)) => (if (y73.1 == 0) = true then (Src_N n y73.2 14).bind fun (y74 : (Int × GSrc)) => j72 y74.2.L y74.2.At y74.1 else j72 y73.2.L y73.2.At 0))))) else j1 v68 v69 v70)
def Src_Sheet  (n : Nat) (p0 : GSrc) : Option (GSheet × GSrc) := (withJ (fun (v139 : List Int) (v140 : Int) (v141 : List GRule) => some ((GSheet.mk v141), (GSrc.mk v139 v140))) (fun (j1 : List Int → Int → List GRule → Option (GSheet × GSrc)) => (Src_N n p0 7).bind fun (y2 : (Int × GSrc)) => Src_Sheet_L0 j1 n y2.1 y2.2.L y2.2.At ([] : List GRule)))
theorem Src_Sheet_ok  (n : Nat) (p0 : GSrc) (r : (GSheet × GSrc)) (h : Src_Sheet n p0 = some r) : FnD E 19 1 [.c (.ptr 0 0)] [(0, .blk 90 [.lit (List.map eI64 p0.L), I p0.At])] (.agg [.row 1]) [(0, .blk 90 [.lit (List.map eI64 r.2.L), I r.2.At]), (1, .vec 33 6 (List.map eGRule r.1.Rules))] := by
  refine zfn Tryd.func19 rfl ?_
  unfold Src_Sheet at h
  refine za [0, 2] ?_
  refine za [0, 2, 3] ?_
  refine aw_join h (fun A j => ∀ (v139 : List Int) (v140 : Int) (v141 : List GRule), j v139 v140 v141 = some r → A (mk [(2, .c (.ptr 1 0)), (3, .c (.ptr 2 0))] [(0, .blk 90 [.lit (List.map eI64 v139), I v140]), (1, .blk 30 [.row 3]), (2, .blk 30 [.row 4]), (3, .vec 33 6 (List.map eGRule ([] : List GRule))), (4, .vec 33 6 (List.map eGRule v141))] 5)) (fun v139 v140 v141 h => ?_) (fun j1 Aj1 hj1 h => ?_)
  · refine za [2] ?_
    have h := Option.some.inj h
    subst h
    refine aw_views (views_of rfl [(0, 0), (4, 1), (1, 2)] [2] (L2 := [(2, .c (.ptr 2 0))]) (G2 := [(0, .blk 90 [.lit (List.map eI64 v139), I v140]), (1, .vec 33 6 (List.map eGRule v141)), (2, .blk 30 [.row 1])]) (lim2 := 3) (by kernel_rfl)) ?_
    exact aw_ret (fin_own (.inl rfl) (by kernel_rfl) (by kernel_rfl))
  · refine zx fun _ => ?_
    refine zk 1 ?_
    obtain ⟨y2, he, h⟩ := bindE h
    refine rx_callO (F := 20) (As := [.c (.ptr 0 0), .c (I 7)]) (Bs := [.c (.ptr 0 0), .c (I 7)]) (σ := [(0, 0)]) (k := 1) (Gc := [(0, .blk 90 [.lit (List.map eI64 p0.L), I p0.At])]) (Gf := [(0, .blk 90 [.lit (List.map eI64 y2.2.L), I y2.2.At])]) (r := .c (I y2.1)) (v := .c (I y2.1)) (by kernel_rfl) fok20 ⟨.inr ⟨(by kernel_rfl), (by kernel_rfl)⟩, ⟨.inl (by kernel_rfl), trivial⟩⟩ (Src_N_ok n _ _ y2 he) (by kernel_rfl) (by kernel_rfl) (by kernel_rfl) (by kernel_rfl) rfl rfl rfl ?_
    clear he
    refine zk 1 ?_
    refine ze [0, 2, 3, 4] ?_
    refine aw_block ?_
    refine aw_loopJ (fun n s => ∃ (v67 : Int) (v68 : List Int) (v69 : Int) (v70 : List GRule), Src_Sheet_L0 j1 n v67 v68 v69 v70 = some r ∧ s = mk [(0, .c (.ptr 0 0)), (2, .c (.ptr 1 0)), (3, .c (.ptr 2 0)), (4, .c (I v67))] [(0, .blk 90 [.lit (List.map eI64 v68), I v69]), (1, .blk 30 [.row 3]), (2, .blk 30 [.row 4]), (3, .vec 33 6 (List.map eGRule ([] : List GRule))), (4, .vec 33 6 (List.map eGRule v70))] 5) n _ (Views.trans (view_nilCV (n := 1) (T0 := 30) (l := [NilS]) (G2 := [(0, .blk 90 [.lit (List.map eI64 y2.2.L), I y2.2.At]), (1, .blk 30 [.row 6]), (2, .blk 30 [NilS]), (6, .vec 33 6 (List.map eGRule ([] : List GRule)))]) (lim2 := 7) 0 33 6 (by kernel_rfl) (by kernel_rfl) (by kernel_rfl) (by kernel_rfl)) (Views.trans (view_nilCV (n := 2) (T0 := 30) (l := [NilS]) (G2 := [(0, .blk 90 [.lit (List.map eI64 y2.2.L), I y2.2.At]), (1, .blk 30 [.row 6]), (2, .blk 30 [.row 7]), (6, .vec 33 6 (List.map eGRule ([] : List GRule))), (7, .vec 33 6 (List.map eGRule ([] : List GRule)))]) (lim2 := 8) 0 33 6 (by kernel_rfl) (by kernel_rfl) (by kernel_rfl) (by kernel_rfl)) (zv [(0, 0), (1, 1), (2, 2), (6, 3), (7, 4)] [0, 2, 3, 4] 5))) ⟨_, _, _, _, h, rfl⟩ (fun s ⟨v67, v68, v69, v70, h, _⟩ => nomatch h) ?_
    rintro n s ⟨v67, v68, v69, v70, h, rfl⟩
    rw [Src_Sheet_L0] at h
    refine aw_seq ?_
    refine za [0, 2, 3, 4, 10] ?_
    refine aw_ite (t := (decide (v67 > 0))) (by kernel_rfl) h (fun h => ?_) (fun h => ?_)
    · refine aw_skip ?_
      refine aw_join h (fun A j => ∀ (v126 : List Int) (v127 : Int) (v128 : List GRule), j v126 v127 v128 = some r → A (mk [(0, .c (.ptr 0 0)), (2, .c (.ptr 1 0)), (3, .c (.ptr 2 0)), (4, .c (I v67))] [(0, .blk 90 [.lit (List.map eI64 v126), I v127]), (1, .blk 30 [.row 3]), (2, .blk 30 [.row 4]), (3, .vec 33 6 (List.map eGRule ([] : List GRule))), (4, .vec 33 6 (List.map eGRule v128))] 5)) (fun v126 v127 v128 h => ?_) (fun j71 Aj71 hj71 h => ?_)
      · refine aw_out ?_
        refine zb ?_
        exact via (zv [(0, 0), (1, 1), (2, 2), (3, 3), (4, 4)] [0, 2, 3, 4] 5) (⟨_, _, _, _, h, rfl⟩)
      · refine aw_block ?_
        refine za [0, 2, 3, 4, 5] ?_
        refine aw_join h (fun A j => ∀ (v75 : List Int) (v76 : Int) (v77 : Int), j v75 v76 v77 = some r → A (mk [(0, .c (.ptr 0 0)), (2, .c (.ptr 1 0)), (3, .c (.ptr 2 0)), (4, .c (I v67)), (5, .c (.ptr 3 0))] [(0, .blk 90 [.lit (List.map eI64 v75), I v76]), (1, .blk 30 [.row 4]), (2, .blk 30 [.row 5]), (3, .blk 33 [I v77, Sx (⟨#[]⟩ : ByteArray), I 0, I 0, Sx (⟨#[]⟩ : ByteArray), NilS]), (4, .vec 33 6 (List.map eGRule ([] : List GRule))), (5, .vec 33 6 (List.map eGRule v70))] 6)) (fun v75 v76 v77 h => ?_) (fun j72 Aj72 hj72 h => ?_)
        · refine aw_join h (fun A j => ∀ (v81 : List Int) (v82 : Int) (v83 : ByteArray), j v81 v82 v83 = some r → A (mk [(0, .c (.ptr 0 0)), (2, .c (.ptr 1 0)), (3, .c (.ptr 2 0)), (4, .c (I v67)), (5, .c (.ptr 3 0))] [(0, .blk 90 [.lit (List.map eI64 v81), I v82]), (1, .blk 30 [.row 4]), (2, .blk 30 [.row 5]), (3, .blk 33 [I v77, Sx v83, I 0, I 0, Sx (⟨#[]⟩ : ByteArray), NilS]), (4, .vec 33 6 (List.map eGRule ([] : List GRule))), (5, .vec 33 6 (List.map eGRule v70))] 6)) (fun v81 v82 v83 h => ?_) (fun j78 Aj78 hj78 h => ?_)
          · refine aw_join h (fun A j => ∀ (v87 : List Int) (v88 : Int) (v89 : Int), j v87 v88 v89 = some r → A (mk [(0, .c (.ptr 0 0)), (2, .c (.ptr 1 0)), (3, .c (.ptr 2 0)), (4, .c (I v67)), (5, .c (.ptr 3 0))] [(0, .blk 90 [.lit (List.map eI64 v87), I v88]), (1, .blk 30 [.row 4]), (2, .blk 30 [.row 5]), (3, .blk 33 [I v77, Sx v83, I v89, I 0, Sx (⟨#[]⟩ : ByteArray), NilS]), (4, .vec 33 6 (List.map eGRule ([] : List GRule))), (5, .vec 33 6 (List.map eGRule v70))] 6)) (fun v87 v88 v89 h => ?_) (fun j84 Aj84 hj84 h => ?_)
            · refine aw_join h (fun A j => ∀ (v93 : List Int) (v94 : Int) (v95 : Int), j v93 v94 v95 = some r → A (mk [(0, .c (.ptr 0 0)), (2, .c (.ptr 1 0)), (3, .c (.ptr 2 0)), (4, .c (I v67)), (5, .c (.ptr 3 0))] [(0, .blk 90 [.lit (List.map eI64 v93), I v94]), (1, .blk 30 [.row 4]), (2, .blk 30 [.row 5]), (3, .blk 33 [I v77, Sx v83, I v89, I v95, Sx (⟨#[]⟩ : ByteArray), NilS]), (4, .vec 33 6 (List.map eGRule ([] : List GRule))), (5, .vec 33 6 (List.map eGRule v70))] 6)) (fun v93 v94 v95 h => ?_) (fun j90 Aj90 hj90 h => ?_)
              · refine aw_join h (fun A j => ∀ (v99 : List Int) (v100 : Int) (v101 : ByteArray), j v99 v100 v101 = some r → A (mk [(0, .c (.ptr 0 0)), (2, .c (.ptr 1 0)), (3, .c (.ptr 2 0)), (4, .c (I v67)), (5, .c (.ptr 3 0))] [(0, .blk 90 [.lit (List.map eI64 v99), I v100]), (1, .blk 30 [.row 4]), (2, .blk 30 [.row 5]), (3, .blk 33 [I v77, Sx v83, I v89, I v95, Sx v101, NilS]), (4, .vec 33 6 (List.map eGRule ([] : List GRule))), (5, .vec 33 6 (List.map eGRule v70))] 6)) (fun v99 v100 v101 h => ?_) (fun j96 Aj96 hj96 h => ?_)
                · refine aw_join h (fun A j => ∀ (v122 : List Int) (v123 : Int) (v124 : List GDecl), j v122 v123 v124 = some r → A (mk [(0, .c (.ptr 0 0)), (2, .c (.ptr 1 0)), (3, .c (.ptr 2 0)), (4, .c (I v67)), (5, .c (.ptr 3 0))] [(0, .blk 90 [.lit (List.map eI64 v122), I v123]), (1, .blk 30 [.row 4]), (2, .blk 30 [.row 5]), (3, .blk 33 [I v77, Sx v83, I v89, I v95, Sx v101, .app 6 (List.map eGDecl v124)]), (4, .vec 33 6 (List.map eGRule ([] : List GRule))), (5, .vec 33 6 (List.map eGRule v70)), (6, .tok 45 4 (List.length v124))] 7)) (fun v122 v123 v124 h => ?_) (fun j102 Aj102 hj102 h => ?_)
                  · refine aw_out ?_
                    refine zy fun _ => ?_
                    refine zk 4 ?_
                    obtain ⟨l125, he, h⟩ := bindE h
                    refine rx_appendV (enc := eGRule) (l := v70) (els := [(GRule.mk v77 v83 v89 v95 v101 v124)]) (r := l125) (m := 5) (e := 33) (sz := 6) (bytes := 80) (nm := 11) he (by kernel_rfl) (fun x => by kernel_rfl) (by kernel_rfl) (by kernel_rfl) rfl rfl rfl ?_
                    clear he
                    refine zk 2 ?_
                    refine x_last ?_
                    exact via (zv [(0, 0), (1, 1), (2, 2), (4, 3), (11, 4)] [0, 2, 3, 4] 5) (hj71 _ _ _ h)
                  · refine zx fun _ => ?_
                    refine zk 1 ?_
                    obtain ⟨y103, he, h⟩ := bindE h
                    refine rx_callO (F := 21) (As := [.c (.ptr 0 0), .c (I 1), .c (I 4)]) (Bs := [.c (.ptr 0 0), .c (I 1), .c (I 4)]) (σ := [(0, 0)]) (k := 1) (Gc := [(0, .blk 90 [.lit (List.map eI64 v99), I v100])]) (Gf := [(0, .blk 90 [.lit (List.map eI64 y103.2.L), I y103.2.At])]) (r := .c (I y103.1)) (v := .c (I y103.1)) (by kernel_rfl) fok21 ⟨.inr ⟨(by kernel_rfl), (by kernel_rfl)⟩, ⟨.inl (by kernel_rfl), ⟨.inl (by kernel_rfl), trivial⟩⟩⟩ (Src_Range_ok n _ _ _ y103 he) (by kernel_rfl) (by kernel_rfl) (by kernel_rfl) (by kernel_rfl) rfl rfl rfl ?_
                    clear he
                    refine zk 1 ?_
                    refine ze [0, 2, 3, 4, 5, 6] ?_
                    refine aw_block ?_
                    refine aw_loopJ (fun n s => ∃ (v109 : Int) (v110 : List Int) (v111 : Int) (v112 : List GDecl), Src_Sheet_L1 v89 j102 v67 v77 v83 v95 v101 v70 n v109 v110 v111 v112 = some r ∧ s = mk [(0, .c (.ptr 0 0)), (2, .c (.ptr 1 0)), (3, .c (.ptr 2 0)), (4, .c (I v67)), (5, .c (.ptr 3 0)), (6, .c (I v109))] [(0, .blk 90 [.lit (List.map eI64 v110), I v111]), (1, .blk 30 [.row 4]), (2, .blk 30 [.row 5]), (3, .blk 33 [I v77, Sx v83, I v89, I v95, Sx v101, .app 6 (List.map eGDecl v112)]), (4, .vec 33 6 (List.map eGRule ([] : List GRule))), (5, .vec 33 6 (List.map eGRule v70)), (6, .tok 45 4 (List.length v112))] 7) n _ (Views.trans (view_nilC (n := 3) (T0 := 33) (l := [I v77, Sx v83, I v89, I v95, Sx v101, NilS]) (G2 := [(0, .blk 90 [.lit (List.map eI64 y103.2.L), I y103.2.At]), (1, .blk 30 [.row 4]), (2, .blk 30 [.row 5]), (3, .blk 33 [I v77, Sx v83, I v89, I v95, Sx v101, .app 9 (List.map eGDecl ([] : List GDecl))]), (4, .vec 33 6 (List.map eGRule ([] : List GRule))), (5, .vec 33 6 (List.map eGRule v70)), (9, .tok 45 4 (List.length ([] : List GDecl)))]) (lim2 := 10) 5 45 4 (by kernel_rfl) (by kernel_rfl) (by kernel_rfl) (by kernel_rfl)) (zv [(0, 0), (1, 1), (2, 2), (3, 3), (4, 4), (5, 5), (9, 6)] [0, 2, 3, 4, 5, 6] 7)) ⟨_, _, _, _, h, rfl⟩ (fun s ⟨v109, v110, v111, v112, h, _⟩ => nomatch h) ?_
                    rintro n s ⟨v109, v110, v111, v112, h, rfl⟩
                    rw [Src_Sheet_L1] at h
                    refine aw_seq ?_
                    refine za [0, 2, 3, 4, 5, 6, 47] ?_
                    refine aw_ite (t := (decide (v109 > 0))) (by kernel_rfl) h (fun h => ?_) (fun h => ?_)
                    · refine aw_skip ?_
                      refine aw_seq ?_
                      refine aw_block ?_
                      refine zdy [[], [0], [], [], [3], [2, 4, 3], [5, 2, 4, 3], [1, 6, 5, 0, 2, 4, 3], [0, 1, 2, 3, 4, 5, 6, 7], [8, 7, 0, 1, 2, 3, 4, 5, 6]] fun _ => ?_
                      refine zk 5 ?_
                      obtain ⟨y113, he, h⟩ := bindE h
                      refine rx_callO (F := 34) (As := [.c (.ptr 0 0), .c (I v89)]) (Bs := [.c (.ptr 0 0), .c (I v89)]) (σ := [(0, 0)]) (k := 1) (Gc := [(0, .blk 90 [.lit (List.map eI64 v110), I v111])]) (Gf := [(0, .blk 90 [.lit (List.map eI64 y113.2.L), I y113.2.At])]) (r := .agg [I y113.1.Prop_, I y113.1.Source, I y113.1.N, Sx y113.1.Token]) (v := .agg [I y113.1.Prop_, I y113.1.Source, I y113.1.N, Sx y113.1.Token]) (by kernel_rfl) fok34 ⟨.inr ⟨(by kernel_rfl), (by kernel_rfl)⟩, ⟨.inl (by kernel_rfl), trivial⟩⟩ (Src_decl_ok n _ _ y113 he) (by kernel_rfl) (by kernel_rfl) (by kernel_rfl) (by kernel_rfl) rfl rfl rfl ?_
                      clear he
                      refine zk 1 ?_
                      obtain ⟨l114, he, h⟩ := bindE h
                      refine rx_append (enc := eGDecl) (l := v112) (els := [y113.1]) (r := l114) (old := some 6) (e := 45) (sz := 4) (bytes := 40) (k := (List.length v112)) (nm := 16) he (by kernel_rfl) (by kernel_rfl) (fun x => by kernel_rfl) (by kernel_rfl) (by kernel_rfl) rfl rfl rfl ?_
                      clear he
                      refine zk 2 ?_
                      refine x_last ?_
                      refine aw_out ?_
                      refine zb ?_
                      exact via (zv [(0, 0), (1, 1), (2, 2), (3, 3), (4, 4), (5, 5), (16, 6)] [0, 2, 3, 4, 5, 6] 7) (⟨_, _, _, _, h, rfl⟩)
                    · exact aw_views (zv [(0, 0), (1, 1), (2, 2), (3, 3), (4, 4), (5, 5), (6, 6)] [0, 2, 3, 4, 5] 7) (aw_exit (hj102 _ _ _ h))
                · refine zx fun _ => ?_
                  refine zk 1 ?_
                  obtain ⟨y97, he, h⟩ := bindE h
                  refine rx_callO (F := 20) (As := [.c (.ptr 0 0), .c (I 5)]) (Bs := [.c (.ptr 0 0), .c (I 5)]) (σ := [(0, 0)]) (k := 1) (Gc := [(0, .blk 90 [.lit (List.map eI64 v93), I v94])]) (Gf := [(0, .blk 90 [.lit (List.map eI64 y97.2.L), I y97.2.At])]) (r := .c (I y97.1)) (v := .c (I y97.1)) (by kernel_rfl) fok20 ⟨.inr ⟨(by kernel_rfl), (by kernel_rfl)⟩, ⟨.inl (by kernel_rfl), trivial⟩⟩ (Src_N_ok n _ _ y97 he) (by kernel_rfl) (by kernel_rfl) (by kernel_rfl) (by kernel_rfl) rfl rfl rfl ?_
                  clear he
                  refine zk 1 ?_
                  refine ze [0, 2, 3, 4, 5, 40] ?_
                  refine aw_ite (t := (y97.1 == 0)) (by kernel_rfl) h (fun h => ?_) (fun h => ?_)
                  · refine aw_out ?_
                    refine zy fun _ => ?_
                    refine zk 1 ?_
                    obtain ⟨y98, he, h⟩ := bindE h
                    refine rx_callO (F := 33) (As := [.c (.ptr 0 0)]) (Bs := [.c (.ptr 0 0)]) (σ := [(0, 0)]) (k := 1) (Gc := [(0, .blk 90 [.lit (List.map eI64 y97.2.L), I y97.2.At])]) (Gf := [(0, .blk 90 [.lit (List.map eI64 y98.2.L), I y98.2.At])]) (r := .c (Sx y98.1)) (v := .c (Sx y98.1)) (by kernel_rfl) fok33 ⟨.inr ⟨(by kernel_rfl), (by kernel_rfl)⟩, trivial⟩ (Src_Name_ok n _ y98 he) (by kernel_rfl) (by kernel_rfl) (by kernel_rfl) (by kernel_rfl) rfl rfl rfl ?_
                    clear he
                    refine zk 2 ?_
                    refine x_last ?_
                    exact via (zv [(0, 0), (1, 1), (2, 2), (3, 3), (4, 4), (5, 5)] [0, 2, 3, 4, 5] 6) (hj96 _ _ _ h)
                  · exact aw_views (zv [(0, 0), (1, 1), (2, 2), (3, 3), (4, 4), (5, 5)] [0, 2, 3, 4, 5] 6) (aw_skip (hj96 _ _ _ h))
              · refine zx fun _ => ?_
                refine zk 1 ?_
                obtain ⟨y91, he, h⟩ := bindE h
                refine rx_callO (F := 20) (As := [.c (.ptr 0 0), .c (I 4)]) (Bs := [.c (.ptr 0 0), .c (I 4)]) (σ := [(0, 0)]) (k := 1) (Gc := [(0, .blk 90 [.lit (List.map eI64 v87), I v88])]) (Gf := [(0, .blk 90 [.lit (List.map eI64 y91.2.L), I y91.2.At])]) (r := .c (I y91.1)) (v := .c (I y91.1)) (by kernel_rfl) fok20 ⟨.inr ⟨(by kernel_rfl), (by kernel_rfl)⟩, ⟨.inl (by kernel_rfl), trivial⟩⟩ (Src_N_ok n _ _ y91 he) (by kernel_rfl) (by kernel_rfl) (by kernel_rfl) (by kernel_rfl) rfl rfl rfl ?_
                clear he
                refine zk 1 ?_
                refine ze [0, 2, 3, 4, 5, 34] ?_
                refine aw_ite (t := (y91.1 == 0)) (by kernel_rfl) h (fun h => ?_) (fun h => ?_)
                · refine aw_out ?_
                  refine zy fun _ => ?_
                  refine zk 1 ?_
                  obtain ⟨y92, he, h⟩ := bindE h
                  refine rx_callO (F := 20) (As := [.c (.ptr 0 0), .c (I 14)]) (Bs := [.c (.ptr 0 0), .c (I 14)]) (σ := [(0, 0)]) (k := 1) (Gc := [(0, .blk 90 [.lit (List.map eI64 y91.2.L), I y91.2.At])]) (Gf := [(0, .blk 90 [.lit (List.map eI64 y92.2.L), I y92.2.At])]) (r := .c (I y92.1)) (v := .c (I y92.1)) (by kernel_rfl) fok20 ⟨.inr ⟨(by kernel_rfl), (by kernel_rfl)⟩, ⟨.inl (by kernel_rfl), trivial⟩⟩ (Src_N_ok n _ _ y92 he) (by kernel_rfl) (by kernel_rfl) (by kernel_rfl) (by kernel_rfl) rfl rfl rfl ?_
                  clear he
                  refine zk 2 ?_
                  refine x_last ?_
                  exact via (zv [(0, 0), (1, 1), (2, 2), (3, 3), (4, 4), (5, 5)] [0, 2, 3, 4, 5] 6) (hj90 _ _ _ h)
                · exact aw_views (zv [(0, 0), (1, 1), (2, 2), (3, 3), (4, 4), (5, 5)] [0, 2, 3, 4, 5] 6) (aw_skip (hj90 _ _ _ h))
            · refine zx fun _ => ?_
              refine zk 1 ?_
              obtain ⟨y85, he, h⟩ := bindE h
              refine rx_callO (F := 20) (As := [.c (.ptr 0 0), .c (I 4)]) (Bs := [.c (.ptr 0 0), .c (I 4)]) (σ := [(0, 0)]) (k := 1) (Gc := [(0, .blk 90 [.lit (List.map eI64 v81), I v82])]) (Gf := [(0, .blk 90 [.lit (List.map eI64 y85.2.L), I y85.2.At])]) (r := .c (I y85.1)) (v := .c (I y85.1)) (by kernel_rfl) fok20 ⟨.inr ⟨(by kernel_rfl), (by kernel_rfl)⟩, ⟨.inl (by kernel_rfl), trivial⟩⟩ (Src_N_ok n _ _ y85 he) (by kernel_rfl) (by kernel_rfl) (by kernel_rfl) (by kernel_rfl) rfl rfl rfl ?_
              clear he
              refine zk 1 ?_
              refine ze [0, 2, 3, 4, 5, 28] ?_
              refine aw_ite (t := (y85.1 == 0)) (by kernel_rfl) h (fun h => ?_) (fun h => ?_)
              · refine aw_out ?_
                refine zy fun _ => ?_
                refine zk 1 ?_
                obtain ⟨y86, he, h⟩ := bindE h
                refine rx_callO (F := 20) (As := [.c (.ptr 0 0), .c (I 32)]) (Bs := [.c (.ptr 0 0), .c (I 32)]) (σ := [(0, 0)]) (k := 1) (Gc := [(0, .blk 90 [.lit (List.map eI64 y85.2.L), I y85.2.At])]) (Gf := [(0, .blk 90 [.lit (List.map eI64 y86.2.L), I y86.2.At])]) (r := .c (I y86.1)) (v := .c (I y86.1)) (by kernel_rfl) fok20 ⟨.inr ⟨(by kernel_rfl), (by kernel_rfl)⟩, ⟨.inl (by kernel_rfl), trivial⟩⟩ (Src_N_ok n _ _ y86 he) (by kernel_rfl) (by kernel_rfl) (by kernel_rfl) (by kernel_rfl) rfl rfl rfl ?_
                clear he
                refine zk 2 ?_
                refine x_last ?_
                exact via (zv [(0, 0), (1, 1), (2, 2), (3, 3), (4, 4), (5, 5)] [0, 2, 3, 4, 5] 6) (hj84 _ _ _ h)
              · exact aw_views (zv [(0, 0), (1, 1), (2, 2), (3, 3), (4, 4), (5, 5)] [0, 2, 3, 4, 5] 6) (aw_skip (hj84 _ _ _ h))
          · refine zx fun _ => ?_
            refine zk 1 ?_
            obtain ⟨y79, he, h⟩ := bindE h
            refine rx_callO (F := 20) (As := [.c (.ptr 0 0), .c (I 3)]) (Bs := [.c (.ptr 0 0), .c (I 3)]) (σ := [(0, 0)]) (k := 1) (Gc := [(0, .blk 90 [.lit (List.map eI64 v75), I v76])]) (Gf := [(0, .blk 90 [.lit (List.map eI64 y79.2.L), I y79.2.At])]) (r := .c (I y79.1)) (v := .c (I y79.1)) (by kernel_rfl) fok20 ⟨.inr ⟨(by kernel_rfl), (by kernel_rfl)⟩, ⟨.inl (by kernel_rfl), trivial⟩⟩ (Src_N_ok n _ _ y79 he) (by kernel_rfl) (by kernel_rfl) (by kernel_rfl) (by kernel_rfl) rfl rfl rfl ?_
            clear he
            refine zk 1 ?_
            refine ze [0, 2, 3, 4, 5, 22] ?_
            refine aw_ite (t := (y79.1 == 0)) (by kernel_rfl) h (fun h => ?_) (fun h => ?_)
            · refine aw_out ?_
              refine zy fun _ => ?_
              refine zk 1 ?_
              obtain ⟨y80, he, h⟩ := bindE h
              refine rx_callO (F := 33) (As := [.c (.ptr 0 0)]) (Bs := [.c (.ptr 0 0)]) (σ := [(0, 0)]) (k := 1) (Gc := [(0, .blk 90 [.lit (List.map eI64 y79.2.L), I y79.2.At])]) (Gf := [(0, .blk 90 [.lit (List.map eI64 y80.2.L), I y80.2.At])]) (r := .c (Sx y80.1)) (v := .c (Sx y80.1)) (by kernel_rfl) fok33 ⟨.inr ⟨(by kernel_rfl), (by kernel_rfl)⟩, trivial⟩ (Src_Name_ok n _ y80 he) (by kernel_rfl) (by kernel_rfl) (by kernel_rfl) (by kernel_rfl) rfl rfl rfl ?_
              clear he
              refine zk 2 ?_
              refine x_last ?_
              exact via (zv [(0, 0), (1, 1), (2, 2), (3, 3), (4, 4), (5, 5)] [0, 2, 3, 4, 5] 6) (hj78 _ _ _ h)
            · exact aw_views (zv [(0, 0), (1, 1), (2, 2), (3, 3), (4, 4), (5, 5)] [0, 2, 3, 4, 5] 6) (aw_skip (hj78 _ _ _ h))
        · refine zx fun _ => ?_
          refine zk 1 ?_
          obtain ⟨y73, he, h⟩ := bindE h
          refine rx_callO (F := 20) (As := [.c (.ptr 0 0), .c (I 2)]) (Bs := [.c (.ptr 0 0), .c (I 2)]) (σ := [(0, 0)]) (k := 1) (Gc := [(0, .blk 90 [.lit (List.map eI64 v68), I v69])]) (Gf := [(0, .blk 90 [.lit (List.map eI64 y73.2.L), I y73.2.At])]) (r := .c (I y73.1)) (v := .c (I y73.1)) (by kernel_rfl) fok20 ⟨.inr ⟨(by kernel_rfl), (by kernel_rfl)⟩, ⟨.inl (by kernel_rfl), trivial⟩⟩ (Src_N_ok n _ _ y73 he) (by kernel_rfl) (by kernel_rfl) (by kernel_rfl) (by kernel_rfl) rfl rfl rfl ?_
          clear he
          refine zk 1 ?_
          refine ze [0, 2, 3, 4, 5, 16] ?_
          refine aw_ite (t := (y73.1 == 0)) (by kernel_rfl) h (fun h => ?_) (fun h => ?_)
          · refine aw_out ?_
            refine zy fun _ => ?_
            refine zk 1 ?_
            obtain ⟨y74, he, h⟩ := bindE h
            refine rx_callO (F := 20) (As := [.c (.ptr 0 0), .c (I 14)]) (Bs := [.c (.ptr 0 0), .c (I 14)]) (σ := [(0, 0)]) (k := 1) (Gc := [(0, .blk 90 [.lit (List.map eI64 y73.2.L), I y73.2.At])]) (Gf := [(0, .blk 90 [.lit (List.map eI64 y74.2.L), I y74.2.At])]) (r := .c (I y74.1)) (v := .c (I y74.1)) (by kernel_rfl) fok20 ⟨.inr ⟨(by kernel_rfl), (by kernel_rfl)⟩, ⟨.inl (by kernel_rfl), trivial⟩⟩ (Src_N_ok n _ _ y74 he) (by kernel_rfl) (by kernel_rfl) (by kernel_rfl) (by kernel_rfl) rfl rfl rfl ?_
            clear he
            refine zk 2 ?_
            refine x_last ?_
            exact via (zv [(0, 0), (1, 1), (2, 2), (8, 3), (3, 4), (4, 5)] [0, 2, 3, 4, 5] 6) (hj72 _ _ _ h)
          · exact aw_views (zv [(0, 0), (1, 1), (2, 2), (8, 3), (3, 4), (4, 5)] [0, 2, 3, 4, 5] 6) (aw_skip (hj72 _ _ _ h))
    · exact aw_views (zv [(0, 0), (1, 1), (2, 2), (3, 3), (4, 4)] [2, 3] 5) (aw_exit (hj1 _ _ _ h))
end Go.Proofs.YtojkihhnioeggaaDoor.S
