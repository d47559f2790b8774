/- Functions, and that the program's are they. Printed by ext.py. -/
import Derived.Test.YtojkihhnioeggaaDoorGI1
set_option linter.unusedVariables false
set_option linter.unusedSimpArgs false
set_option maxRecDepth 100000
set_option maxHeartbeats 4000000
namespace Go.Proofs.YtojkihhnioeggaaDoor.S
open Go Go.Bm
def style_Validate_L1 (e14 : GRule) (j13 : Unit → Option Int) (p0 : GSheet) (v12 : Int) : Nat → Int → Option Int
  | 0, _ => none
  | n + 1, v19 => (if (decide (v19 < (List.length e14.Decls : Int))) = true then (idx e14.Decls v19).bind fun (e20 : GDecl) => (style_declaration n e20 e14.States).bind fun (y21 : Int) => (if (y21 != 0) = true then some y21 else style_Validate_L1 e14 j13 p0 v12 n (IntKind.wrap .i64 (v19 + 1))) else j13 ())
def style_Validate_L0 (p0 : GSheet) (j1 : Unit → Option Int) : Nat → Int → Option Int
  | 0, _ => none
  | n + 1, v12 => (if (decide (v12 < (List.length p0.Rules : Int))) = true then (withJ (fun (_ : Unit) => style_Validate_L0 p0 j1 n (IntKind.wrap .i64 (v12 + 1))) (fun (j13 : Unit → Option Int) => (idx p0.Rules v12).bind fun (e14 : GRule) => (if ((((decide (e14.Kind < 0)) || (decide (e14.Kind > 13))) || (decide (e14.UnderKind < 0))) || (decide (e14.UnderKind > 13))) = true then some 9 else (gd [(!(sEq e14.Class (⟨#[]⟩ : ByteArray)))] (expr_Name n e14.Class)).bind fun (y15 : Bool) => (gd [(!((!(sEq e14.Class (⟨#[]⟩ : ByteArray))) && (!y15))), (!(sEq e14.UnderClass (⟨#[]⟩ : ByteArray)))] (expr_Name n e14.UnderClass)).bind fun (y16 : Bool) => (if (((!(sEq e14.Class (⟨#[]⟩ : ByteArray))) && (!y15)) || ((!(sEq e14.UnderClass (⟨#[]⟩ : ByteArray))) && (!y16))) = true then some 4 else (if ((decide (e14.States < 0)) || (decide (e14.States > 31))) = true then some 1 else (if (decide ((List.length e14.Decls : Int) > 50)) = true then some 2 else style_Validate_L1 e14 j13 p0 v12 n 0)))))) else j1 ())
def style_Validate  (n : Nat) (p0 : GSheet) : Option Int := (if (decide ((List.length p0.Rules : Int) > 100)) = true then some 2 else (withJ (fun (_ : Unit) => some 0) (fun (j1 : Unit → Option Int) => style_Validate_L0 p0 j1 n 0)))
theorem style_Validate_ok  (n : Nat) (p0 : GSheet) (r : Int) (h : style_Validate n p0 = some r) : FnD E 16 0 [.agg [.lit (List.map eGRule p0.Rules)]] [] (.c (I r)) [] := by
  refine zfn Tryd.func16 rfl ?_
  unfold style_Validate at h
  refine za [1] ?_
  refine aw_seq ?_
  refine zx fun _ => ?_
  refine zk 2 ?_
  refine zl eGRule p0.Rules ?_
  refine zk 1 ?_
  refine ze [1, 11] ?_
  refine zi h (fun h => ?_) fun h => ?_
  refine za [2] ?_
  cases h
  exact aw_ret zr
  refine aw_skip ?_
  refine aw_join h (fun A j => ∀ u, j u = some r → A (mk [] [] 0)) (fun u h => ?_) (fun j1 Aj1 hj1 h => ?_)
  refine za [2] ?_
  cases h
  exact aw_ret zr
  refine zx fun _ => ?_
  refine zk 2 ?_
  refine zl eGRule p0.Rules ?_
  refine zk 1 ?_
  refine ze [13, 14, 15] ?_
  refine aw_block ?_
  refine aw_loopJ (fun n s => ∃ v12, style_Validate_L0 p0 j1 n v12 = some r ∧ s = mk [(13, .c (.lit (List.map eGRule p0.Rules))), (14, .c (I (List.length p0.Rules : Int))), (15, .c (I v12))] [] 0) n _ (zv [] [13, 14, 15] 0) ⟨_, h, rfl⟩ (fun s ⟨v12, h, _⟩ => nomatch h) ?_
  rintro n s ⟨v12, h, rfl⟩
  rw [style_Validate_L0] at h
  refine za [13, 14, 15, 16] ?_
  refine aw_seq ?_
  refine zi h (fun h => ?_) fun h => ?_
  refine aw_skip ?_
  refine aw_join h (fun A j => ∀ u, j u = some r → A (mk [(13, .c (.lit (List.map eGRule p0.Rules))), (14, .c (I (List.length p0.Rules : Int))), (15, .c (I v12))] [] 0)) (fun u h => ?_) (fun j13 Aj13 hj13 h => ?_)
  refine aw_out ?_
  refine zb ?_
  exact via (zv [] [13, 14, 15] 0) (⟨_, h, rfl⟩)
  refine aw_block ?_
  refine zx fun _ => ?_
  obtain ⟨e14, he, h⟩ := bindE h
  refine zd eGRule he ?_
  clear he
  refine zk 3 ?_
  refine ze [4, 13, 14, 15] ?_
  refine aw_seq ?_
  refine aw_block ?_
  refine zx fun _ => ?_
  refine zk 4 ?_
  refine zE (.c (.ptr 3 0)) ?_
  refine zE (.c (I e14.Kind)) ?_
  refine zE (.c (Bo (decide (e14.Kind > 13)))) ?_
  refine zP (.bool ((decide (e14.Kind < 0)) || (decide (e14.Kind > 13)))) ?_
  refine zk 1 ?_
  refine zE (.c (.ptr 3 3)) ?_
  refine zE (.c (I e14.UnderKind)) ?_
  refine zE (.c (Bo (decide (e14.UnderKind < 0)))) ?_
  refine zP (.bool (((decide (e14.Kind < 0)) || (decide (e14.Kind > 13))) || (decide (e14.UnderKind < 0)))) ?_
  refine zk 1 ?_
  refine zE (.c (.ptr 3 3)) ?_
  refine zE (.c (I e14.UnderKind)) ?_
  refine zE (.c (Bo (decide (e14.UnderKind > 13)))) ?_
  refine zP (.bool ((((decide (e14.Kind < 0)) || (decide (e14.Kind > 13))) || (decide (e14.UnderKind < 0))) || (decide (e14.UnderKind > 13)))) ?_
  refine zk 1 ?_
  refine zee [4, 13, 14, 15, 19] (L2 := [(13, .c (.lit (List.map eGRule p0.Rules))), (14, .c (I (List.length p0.Rules : Int))), (15, .c (I v12)), (4, .c (.ptr 3 0)), (19, .c (Bo ((((decide (e14.Kind < 0)) || (decide (e14.Kind > 13))) || (decide (e14.UnderKind < 0))) || (decide (e14.UnderKind > 13)))))]) (G2 := [(3, .blk 33 [I e14.Kind, Sx e14.Class, I e14.States, I e14.UnderKind, Sx e14.UnderClass, .lit (List.map eGDecl e14.Decls)])]) 24 ?_
  refine zi h (fun h => ?_) fun h => ?_
  refine za [2] ?_
  cases h
  exact aw_ret zr
  refine zx fun _ => ?_
  refine zk 4 ?_
  refine zE (.c (.ptr 3 1)) ?_
  refine zE (.c (Sx e14.Class)) ?_
  obtain ⟨y15, he, h⟩ := bindE h
  refine zk1 [(!(sEq e14.Class (⟨#[]⟩ : ByteArray)))] fok29 (fun hg => expr_Name_ok n _ y15 (gd_spec he hg)) ?_
  clear he
  refine zE (.c (Bo (!y15))) ?_
  refine zP (.bool ((!(sEq e14.Class (⟨#[]⟩ : ByteArray))) && (!y15))) ?_
  refine zk 1 ?_
  refine zE (.c (.ptr 3 4)) ?_
  refine zE (.c (Sx e14.UnderClass)) ?_
  refine zE (.c (Bo (!(sEq e14.UnderClass (⟨#[]⟩ : ByteArray))))) ?_
  refine zF [(!((!(sEq e14.Class (⟨#[]⟩ : ByteArray))) && (!y15)))] (.c (Bo (!(sEq e14.UnderClass (⟨#[]⟩ : ByteArray))))) ?_
  refine zE (.c (.ptr 3 4)) ?_
  refine zE (.c (Sx e14.UnderClass)) ?_
  obtain ⟨y16, he, h⟩ := bindE h
  refine zk1 [(!((!(sEq e14.Class (⟨#[]⟩ : ByteArray))) && (!y15))), (!(sEq e14.UnderClass (⟨#[]⟩ : ByteArray)))] fok29 (fun hg => expr_Name_ok n _ y16 (gd_spec he hg)) ?_
  clear he
  refine zE (.c (Bo (!y16))) ?_
  refine zP (.bool ((!(sEq e14.UnderClass (⟨#[]⟩ : ByteArray))) && (!y16))) ?_
  refine zP (.bool (((!(sEq e14.Class (⟨#[]⟩ : ByteArray))) && (!y15)) || ((!(sEq e14.UnderClass (⟨#[]⟩ : ByteArray))) && (!y16)))) ?_
  refine zk 1 ?_
  refine zee [4, 13, 14, 15, 38] (L2 := [(13, .c (.lit (List.map eGRule p0.Rules))), (14, .c (I (List.length p0.Rules : Int))), (15, .c (I v12)), (4, .c (.ptr 3 0)), (38, .c (Bo (((!(sEq e14.Class (⟨#[]⟩ : ByteArray))) && (!y15)) || ((!(sEq e14.UnderClass (⟨#[]⟩ : ByteArray))) && (!y16)))))]) (G2 := [(3, .blk 33 [I e14.Kind, Sx e14.Class, I e14.States, I e14.UnderKind, Sx e14.UnderClass, .lit (List.map eGDecl e14.Decls)])]) 45 ?_
  refine zi h (fun h => ?_) fun h => ?_
  refine za [2] ?_
  cases h
  exact aw_ret zr
  refine zx fun _ => ?_
  refine zk 4 ?_
  refine zE (.c (.ptr 3 2)) ?_
  refine zE (.c (I e14.States)) ?_
  refine zE (.c (Bo (decide (e14.States > 31)))) ?_
  refine zP (.bool ((decide (e14.States < 0)) || (decide (e14.States > 31)))) ?_
  refine zk 1 ?_
  refine ze [4, 13, 14, 15, 59] ?_
  refine zi h (fun h => ?_) fun h => ?_
  refine za [2] ?_
  cases h
  exact aw_ret zr
  refine zx fun _ => ?_
  refine zk 2 ?_
  refine zl eGDecl e14.Decls ?_
  refine zk 2 ?_
  refine ze [4, 13, 14, 15, 68] ?_
  refine zi h (fun h => ?_) fun h => ?_
  refine za [2] ?_
  cases h
  exact aw_ret zr
  refine aw_skip ?_
  refine zx fun _ => ?_
  refine zk 2 ?_
  refine zl eGDecl e14.Decls ?_
  refine zk 1 ?_
  refine zee [4, 13, 14, 15, 74, 75, 76] (L2 := [(13, .c (.lit (List.map eGRule p0.Rules))), (14, .c (I (List.length p0.Rules : Int))), (15, .c (I v12)), (4, .c (.ptr 3 0)), (74, .c (.lit (List.map eGDecl e14.Decls))), (75, .c (I (List.length e14.Decls : Int))), (76, .c (I 0))]) (G2 := [(3, .blk 33 [I e14.Kind, Sx e14.Class, I e14.States, I e14.UnderKind, Sx e14.UnderClass, .lit (List.map eGDecl e14.Decls)])]) 63 ?_
  refine aw_block ?_
  refine aw_loopJ (fun n s => ∃ v19, style_Validate_L1 e14 j13 p0 v12 n v19 = some r ∧ s = mk [(13, .c (.lit (List.map eGRule p0.Rules))), (14, .c (I (List.length p0.Rules : Int))), (15, .c (I v12)), (4, .c (.ptr 0 0)), (74, .c (.lit (List.map eGDecl e14.Decls))), (75, .c (I (List.length e14.Decls : Int))), (76, .c (I v19))] [(0, .blk 33 [I e14.Kind, Sx e14.Class, I e14.States, I e14.UnderKind, Sx e14.UnderClass, .lit (List.map eGDecl e14.Decls)])] 1) n _ (zv [(3, 0)] [13, 14, 15, 4, 74, 75, 76] 1) ⟨_, h, rfl⟩ (fun s ⟨v19, h, _⟩ => nomatch h) ?_
  rintro n s ⟨v19, h, rfl⟩
  rw [style_Validate_L1] at h
  refine za [4, 13, 14, 15, 74, 75, 76, 77] ?_
  refine aw_seq ?_
  refine zi h (fun h => ?_) fun h => ?_
  refine aw_skip ?_
  refine aw_seq ?_
  refine aw_block ?_
  refine zx fun _ => ?_
  obtain ⟨e20, he, h⟩ := bindE h
  refine zd eGDecl he ?_
  clear he
  refine zk 3 ?_
  refine ze [4, 6, 13, 14, 15, 74, 75, 76] ?_
  refine zx fun _ => ?_
  refine zk 3 ?_
  obtain ⟨y21, he, h⟩ := bindE h
  refine zc fok30 (style_declaration_ok n _ _ y21 he) ?_
  clear he
  refine zk 1 ?_
  refine ze [4, 7, 13, 14, 15, 74, 75, 76] ?_
  refine za [4, 7, 13, 14, 15, 74, 75, 76, 85] ?_
  refine zi h (fun h => ?_) fun h => ?_
  refine za [2] ?_
  cases h
  exact aw_ret zr
  refine aw_skip ?_
  refine aw_out ?_
  refine zb ?_
  exact via (zv [(0, 0)] [13, 14, 15, 4, 74, 75, 76] 1) (⟨_, h, rfl⟩)
  exact aw_views (zv [] [13, 14, 15] 0) (aw_exit (hj13 _ h))
  exact aw_views (zv [] [] 0) (aw_exit (hj1 _ h))
def theme_color  (n : Nat) (p0 : Int) : Option Bool := some ((decide (p0 ≥ 0)) && (decide (p0 ≤ 16777215)))
theorem theme_color_ok  (n : Nat) (p0 : Int) (r : Bool) (h : theme_color n p0 = some r) : FnD E 51 0 [.c (I p0)] [] (.c (Bo r)) [] := by
  refine zfn Tryd.func51 rfl ?_
  unfold theme_color at h
  refine za [0] ?_
  refine zx fun _ => ?_
  refine zk 3 ?_
  refine zE (.c (I p0)) ?_
  refine zE (.c (Bo (decide (p0 ≤ 16777215)))) ?_
  refine zP (.bool ((decide (p0 ≥ 0)) && (decide (p0 ≤ 16777215)))) ?_
  refine zk 1 ?_
  refine ze [2] ?_
  cases h
  exact aw_ret zr
def theme_Validate_L1 (e15 : GToken) (j14 : List (ByteArray × Bool) → Option Int) (v13 : List (ByteArray × Bool)) (p0 : GTheme) (v12 : Int) : Nat → Int → Option Int
  | 0, _ => none
  | n + 1, v19 => (if (decide (v19 < 4)) = true then (idx (A4_Int.toL (A4_Int.mk e15.Light e15.Dark e15.HighLight e15.HighDark)) v19).bind fun (e20 : Int) => (gd [(e20 != (-1 : Int))] (theme_color n e20)).bind fun (y21 : Bool) => (if ((e20 != (-1 : Int)) && (!y21)) = true then some 1 else theme_Validate_L1 e15 j14 v13 p0 v12 n (IntKind.wrap .i64 (v19 + 1))) else j14 (mput e15.Name true v13))
def theme_Validate_L0 (p0 : GTheme) (j1 : Unit → Option Int) : Nat → Int → List (ByteArray × Bool) → Option Int
  | 0, _, _ => none
  | n + 1, v12, v13 => (if (decide (v12 < (List.length p0.Tokens : Int))) = true then (withJ (fun (v23 : List (ByteArray × Bool)) => theme_Validate_L0 p0 j1 n (IntKind.wrap .i64 (v12 + 1)) v23) (fun (j14 : List (ByteArray × Bool) → Option Int) => (idx p0.Tokens v12).bind fun (e15 : GToken) => (expr_Name n e15.Name).bind fun (y16 : Bool) => (if (!y16) = true then some 4 else (some (mget e15.Name v13, mhas e15.Name v13)).bind fun (y17 : (Bool × Bool)) => (if y17.1 = true then some 6 else theme_Validate_L1 e15 j14 v13 p0 v12 n 0)))) else j1 ())
def theme_Validate  (n : Nat) (p0 : GTheme) : Option Int := (if (decide ((List.length p0.Tokens : Int) > 100)) = true then some 2 else (withJ (fun (_ : Unit) => some 0) (fun (j1 : Unit → Option Int) => theme_Validate_L0 p0 j1 n 0 ([] : List (ByteArray × Bool)))))
theorem theme_Validate_ok  (n : Nat) (p0 : GTheme) (r : Int) (h : theme_Validate n p0 = some r) : FnD E 36 0 [.agg [.lit (List.map eGToken p0.Tokens)]] [] (.c (I r)) [] := by
  refine zfn Tryd.func36 rfl ?_
  unfold theme_Validate at h
  refine za [1] ?_
  refine aw_seq ?_
  refine zx fun _ => ?_
  refine zk 2 ?_
  refine zl eGToken p0.Tokens ?_
  refine zk 1 ?_
  refine ze [1, 11] ?_
  refine zi h (fun h => ?_) fun h => ?_
  refine za [2] ?_
  cases h
  exact aw_ret zr
  refine aw_skip ?_
  refine za [1, 3] ?_
  refine aw_join h (fun A j => ∀ u, j u = some r → A (mk [] [] 0)) (fun u h => ?_) (fun j1 Aj1 hj1 h => ?_)
  refine za [2] ?_
  cases h
  exact aw_ret zr
  refine zx fun _ => ?_
  refine zk 2 ?_
  refine zl eGToken p0.Tokens ?_
  refine zk 1 ?_
  refine ze [3, 14, 15, 16] ?_
  refine aw_block ?_
  refine aw_loopJ (fun n s => ∃ v12 v13, theme_Validate_L0 p0 j1 n v12 v13 = some r ∧ s = mk [(3, .c (.mapr 0)), (14, .c (.lit (List.map eGToken p0.Tokens))), (15, .c (I (List.length p0.Tokens : Int))), (16, .c (I v12))] [(0, .map false (List.map (eM Value.string eB) v13))] 1) n _ (zv [(6, 0)] [3, 14, 15, 16] 1) ⟨_, _, h, rfl⟩ (fun s ⟨v12, v13, h, _⟩ => nomatch h) ?_
  rintro n s ⟨v12, v13, h, rfl⟩
  rw [theme_Validate_L0] at h
  refine za [3, 14, 15, 16, 17] ?_
  refine aw_seq ?_
  refine zi h (fun h => ?_) fun h => ?_
  refine aw_skip ?_
  refine aw_join h (fun A j => ∀ v23, j v23 = some r → A (mk [(3, .c (.mapr 0)), (14, .c (.lit (List.map eGToken p0.Tokens))), (15, .c (I (List.length p0.Tokens : Int))), (16, .c (I v12))] [(0, .map false (List.map (eM Value.string eB) v23))] 1)) (fun v23 h => ?_) (fun j14 Aj14 hj14 h => ?_)
  refine aw_out ?_
  refine zb ?_
  exact via (zv [(0, 0)] [3, 14, 15, 16] 1) (⟨_, _, h, rfl⟩)
  refine aw_block ?_
  refine zx fun _ => ?_
  obtain ⟨e15, he, h⟩ := bindE h
  refine zd eGToken he ?_
  clear he
  refine zk 3 ?_
  refine ze [3, 5, 14, 15, 16] ?_
  refine aw_seq ?_
  refine aw_block ?_
  refine zx fun _ => ?_
  refine zk 2 ?_
  obtain ⟨y16, he, h⟩ := bindE h
  refine zc fok29 (expr_Name_ok n _ y16 he) ?_
  clear he
  refine zk 2 ?_
  refine ze [3, 5, 14, 15, 16, 20] ?_
  refine zi h (fun h => ?_) fun h => ?_
  refine za [2] ?_
  cases h
  exact aw_ret zr
  refine zx fun _ => ?_
  refine zk 3 ?_
  obtain ⟨y17, he, h⟩ := bindE h
  refine zw (v := .c (Bo y17.1)) [0] (rdW_lookup (kf := Value.string) (enc := eB) (l := v13) (k := e15.Name) (ok := false) (kk := .str) (j := ⟨.boo, 1, 1, [.bool false]⟩) (p := y17) (v := .c (Bo y17.1)) he (by kernel_rfl) keyStr (by kernel_rfl) (by kernel_rfl) (by kernel_rfl)) ?_
  clear he
  refine zk 1 ?_
  refine ze [3, 5, 14, 15, 16, 25] ?_
  refine zi h (fun h => ?_) fun h => ?_
  refine za [2] ?_
  cases h
  exact aw_ret zr
  refine aw_skip ?_
  refine zx fun _ => ?_
  refine zk 3 ?_
  refine rx_mapset (kf := Value.string) (enc := eB) (l := v13) (k := e15.Name) (v := true) (n := 0) (ag := false) (kk := .str) (by kernel_rfl) keyStr (by kernel_rfl) (by kernel_rfl) rfl rfl ?_
  refine zee [3, 5, 14, 15, 16] (L2 := [(3, .c (.mapr 0)), (14, .c (.lit (List.map eGToken p0.Tokens))), (15, .c (I (List.length p0.Tokens : Int))), (16, .c (I v12)), (5, .c (.ptr 4 0))]) (G2 := [(0, .map false (List.map (eM Value.string eB) (mput e15.Name true v13))), (4, .blk 118 [Sx e15.Name, I e15.Light, I e15.Dark, I e15.HighLight, I e15.HighDark])]) 20 ?_
  refine za [3, 14, 15, 16, 41, 42] ?_
  refine aw_block ?_
  refine aw_loopJ (fun n s => ∃ v19, theme_Validate_L1 e15 j14 v13 p0 v12 n v19 = some r ∧ s = mk [(3, .c (.mapr 0)), (14, .c (.lit (List.map eGToken p0.Tokens))), (15, .c (I (List.length p0.Tokens : Int))), (16, .c (I v12)), (41, .agg [I e15.Light, I e15.Dark, I e15.HighLight, I e15.HighDark]), (42, .c (I v19))] [(0, .map false (List.map (eM Value.string eB) (mput e15.Name true v13)))] 1) n _ (zv [(0, 0)] [3, 14, 15, 16, 41, 42] 1) ⟨_, h, rfl⟩ (fun s ⟨v19, h, _⟩ => nomatch h) ?_
  rintro n s ⟨v19, h, rfl⟩
  rw [theme_Validate_L1] at h
  refine za [3, 14, 15, 16, 41, 42, 43] ?_
  refine aw_seq ?_
  refine zi h (fun h => ?_) fun h => ?_
  refine aw_skip ?_
  refine aw_seq ?_
  refine aw_block ?_
  refine zx fun _ => ?_
  obtain ⟨e20, he, h⟩ := bindE h
  refine rx_rd (v := .c (I e20)) (foot := []) (rd_idxG (enc := eI64) (xs := (A4_Int.toL (A4_Int.mk e15.Light e15.Dark e15.HighLight e15.HighDark))) (ix := v19) (e := e20) (len := 4) (j := ⟨.int .i64, 1, 8, [.int .i64 0]⟩) (v := .c (I e20)) he (by kernel_rfl) (by kernel_rfl) (fun x => by kernel_rfl) (by decide) (by kernel_rfl)) (by kernel_rfl) rfl rfl ?_
  clear he
  refine zk 1 ?_
  refine ze [3, 7, 14, 15, 16, 41, 42] ?_
  refine zx fun _ => ?_
  refine zk 3 ?_
  refine zE (.c (I e20)) ?_
  obtain ⟨y21, he, h⟩ := bindE h
  refine zk1 [(e20 != (-1 : Int))] fok51 (fun hg => theme_color_ok n _ y21 (gd_spec he hg)) ?_
  clear he
  refine zE (.c (Bo (!y21))) ?_
  refine zP (.bool ((e20 != (-1 : Int)) && (!y21))) ?_
  refine ze [3, 14, 15, 16, 41, 42, 51] ?_
  refine zi h (fun h => ?_) fun h => ?_
  refine za [2] ?_
  cases h
  exact aw_ret zr
  refine aw_skip ?_
  refine aw_out ?_
  refine zb ?_
  exact via (zv [(0, 0)] [3, 14, 15, 16, 41, 42] 1) (⟨_, h, rfl⟩)
  exact aw_views (zv [(0, 0)] [3, 14, 15, 16] 1) (aw_exit (hj14 _ h))
  exact aw_views (zv [] [] 0) (aw_exit (hj1 _ h))
def view_preorder_L0 (y2 : (GNode × Bool)) (self_view_preorder : (List (Int × GNode)) → Int → Option (List Int)) (p0 : (List (Int × GNode))) (j1 : List Int → Option (List Int)) : Nat → List Int → Int → Option (List Int)
  | 0, _, _ => none
  | n + 1, v6, v7 => (if (decide (v7 < (List.length y2.1.Kids : Int))) = true then (idx y2.1.Kids v7).bind fun (e8 : Int) => (self_view_preorder p0 e8).bind fun (y9 : (List Int)) => (apd 8 v6 y9).bind fun (l10 : List Int) => view_preorder_L0 y2 self_view_preorder p0 j1 n l10 (IntKind.wrap .i64 (v7 + 1)) else j1 v6)
def view_preorder_body (self_view_preorder : (List (Int × GNode)) → Int → Option (List Int)) (n : Nat) (p0 : (List (Int × GNode))) (p1 : Int) : Option (List Int) := (withJ (fun (v13 : List Int) => some v13) (fun (j1 : List Int → Option (List Int)) => (some (mget p1 p0, mhas p1 p0)).bind fun (y2 : (GNode × Bool)) => view_preorder_L0 y2 self_view_preorder p0 j1 n [p1] 0))
theorem view_preorder_body_ok (self_view_preorder : (List (Int × GNode)) → Int → Option (List Int)) (ih_view_preorder : ∀ (p0 : (List (Int × GNode))) (p1 : Int) (r : (List Int)), self_view_preorder p0 p1 = some r → FnD E 58 0 [.c (.lmap true (List.map (eM (Value.int .i64) eGNode) p0)), .c (I p1)] [] (.c (.lit (List.map eI64 r))) []) (n : Nat) (p0 : (List (Int × GNode))) (p1 : Int) (r : (List Int)) (h : view_preorder_body self_view_preorder n p0 p1 = some r) : FnD E 58 0 [.c (.lmap true (List.map (eM (Value.int .i64) eGNode) p0)), .c (I p1)] [] (.c (.lit (List.map eI64 r))) [] := by
  refine zfn Tryd.func58 rfl ?_
  unfold view_preorder_body at h
  refine za [0, 1] ?_
  refine za [0, 1, 5] ?_
  refine aw_join h (fun A j => ∀ v13, j v13 = some r → A (mk [(5, .c (.app 0 (List.map eI64 v13)))] [(0, .tok 3 1 (List.length v13))] 1)) (fun v13 h => ?_) (fun j1 Aj1 hj1 h => ?_)
  refine za [4] ?_
  cases h
  exact aw_ret zr
  refine zx fun _ => ?_
  refine zk 2 ?_
  obtain ⟨y2, he, h⟩ := bindE h
  refine zw (v := .agg [I y2.1.ID, I y2.1.Parent, I y2.1.Kind, Sx y2.1.Key, .lit (List.map eGAttr y2.1.Attrs), .lit (List.map eGAction y2.1.Actions), .lit (List.map eI64 y2.1.Kids)]) [] (rdW_lookup (kf := (Value.int .i64)) (enc := eGNode) (l := p0) (k := p1) (ok := false) (kk := .int .i64) (j := ⟨.st [(3, 0, 1), (3, 1, 1), (3, 2, 1), (9, 3, 1), (61, 4, 1), (62, 5, 1), (37, 6, 1)], 7, 112, [.int .i64 0, .int .i64 0, .int .i64 0, .string ⟨#[]⟩, .slice none 0 0, .slice none 0 0, .slice none 0 0]⟩) (p := y2) (v := .agg [I y2.1.ID, I y2.1.Parent, I y2.1.Kind, Sx y2.1.Key, .lit (List.map eGAttr y2.1.Attrs), .lit (List.map eGAction y2.1.Actions), .lit (List.map eI64 y2.1.Kids)]) he (by kernel_rfl) keyInt (by kernel_rfl) (by kernel_rfl) (by kernel_rfl)) ?_
  clear he
  refine zk 1 ?_
  refine zl eI64 y2.1.Kids ?_
  refine zk 1 ?_
  refine ze [0, 5, 13, 14, 15] ?_
  refine aw_block ?_
  refine aw_loopJ (fun n s => ∃ v6 v7, view_preorder_L0 y2 self_view_preorder p0 j1 n v6 v7 = some r ∧ s = mk [(0, .c (.lmap true (List.map (eM (Value.int .i64) eGNode) p0))), (5, .c (.app 0 (List.map eI64 v6))), (13, .c (.lit (List.map eI64 y2.1.Kids))), (14, .c (I (List.length y2.1.Kids : Int))), (15, .c (I v7))] [(0, .tok 3 1 (List.length v6))] 1) n _ (zv [(2, 0)] [0, 5, 13, 14, 15] 1) ⟨_, _, h, rfl⟩ (fun s ⟨v6, v7, h, _⟩ => nomatch h) ?_
  rintro n s ⟨v6, v7, h, rfl⟩
  rw [view_preorder_L0] at h
  refine za [0, 5, 13, 14, 15, 16] ?_
  refine aw_seq ?_
  refine zi h (fun h => ?_) fun h => ?_
  refine aw_skip ?_
  refine aw_seq ?_
  refine aw_block ?_
  refine zx fun _ => ?_
  obtain ⟨e8, he, h⟩ := bindE h
  refine zd eI64 he ?_
  clear he
  refine zk 2 ?_
  refine ze [0, 5, 7, 13, 14, 15] ?_
  refine zy fun _ => ?_
  refine zk 3 ?_
  obtain ⟨y9, he, h⟩ := bindE h
  refine zc fok58 (ih_view_preorder _ _ y9 he) ?_
  clear he
  obtain ⟨l10, he, h⟩ := bindE h
  refine rx_append (enc := eI64) (l := v6) (els := y9) (r := l10) (old := some 0) (e := 3) (sz := 1) (bytes := 8) (k := (List.length v6)) (nm := 9) he (by kernel_rfl) (by kernel_rfl) (fun x => by kernel_rfl) (by kernel_rfl) (by kernel_rfl) rfl rfl rfl ?_
  clear he
  refine zk 1 ?_
  refine x_last ?_
  refine aw_out ?_
  refine zb ?_
  exact via (zv [(9, 0)] [0, 5, 13, 14, 15] 1) (⟨_, _, h, rfl⟩)
  exact aw_views (zv [(0, 0)] [5] 1) (aw_exit (hj1 _ h))
def view_preorder : Nat → (List (Int × GNode)) → Int → Option (List Int)
  | 0, _, _ => none
  | n + 1, p0, p1 => view_preorder_body (fun a0 a1 => view_preorder n a0 a1) n p0 p1
theorem view_preorder_ok (n : Nat) : (∀ (p0 : (List (Int × GNode))) (p1 : Int) (r : (List Int)), view_preorder n p0 p1 = some r → FnD E 58 0 [.c (.lmap true (List.map (eM (Value.int .i64) eGNode) p0)), .c (I p1)] [] (.c (.lit (List.map eI64 r))) []) := by
  induction n with
  | zero => intro p0 p1 r h; rw [view_preorder] at h; cases h
  | succ n ih => intro p0 p1 r h; rw [view_preorder] at h; exact view_preorder_body_ok _ ih n _ _ r h
def view_graph_L2 (e29 : GNode) (v10 : List (Int × GNode)) (j28 : List (Int × Bool) → Option ((List (Int × GNode)) × Bool)) (p0 : GTree) (v26 : Int) : Nat → Int → List (Int × Bool) → Option ((List (Int × GNode)) × Bool)
  | 0, _, _ => none
  | n + 1, v33, v34 => (if (decide (v33 < (List.length e29.Kids : Int))) = true then (idx e29.Kids v33).bind fun (e35 : Int) => (some (mget e35 v10, mhas e35 v10)).bind fun (y36 : (GNode × Bool)) => (gd [(!((!y36.2) || (y36.1.Parent != e29.ID)))] (some (mget e35 v34, mhas e35 v34))).bind fun (y37 : (Bool × Bool)) => (if (((!y36.2) || (y36.1.Parent != e29.ID)) || y37.1) = true then some (([] : List (Int × GNode)), false) else view_graph_L2 e29 v10 j28 p0 v26 n (IntKind.wrap .i64 (v33 + 1)) (mput e35 true v34)) else j28 v34)
def view_graph_L1 (p0 : GTree) (v10 : List (Int × GNode)) (j12 : List (Int × Bool) → Option ((List (Int × GNode)) × Bool)) : Nat → Int → List (Int × Bool) → Option ((List (Int × GNode)) × Bool)
  | 0, _, _ => none
  | n + 1, v26, v27 => (if (decide (v26 < (List.length p0.Nodes : Int))) = true then (withJ (fun (v40 : List (Int × Bool)) => view_graph_L1 p0 v10 j12 n (IntKind.wrap .i64 (v26 + 1)) v40) (fun (j28 : List (Int × Bool) → Option ((List (Int × GNode)) × Bool)) => (idx p0.Nodes v26).bind fun (e29 : GNode) => view_graph_L2 e29 v10 j28 p0 v26 n 0 v27)) else j12 v27)
def view_graph_L0 (p0 : GTree) (j1 : List (Int × GNode) → Option ((List (Int × GNode)) × Bool)) : Nat → Int → Int → List (Int × GNode) → Option ((List (Int × GNode)) × Bool)
  | 0, _, _, _ => none
  | n + 1, v3, v4, v5 => (if (decide (v4 < (List.length p0.Nodes : Int))) = true then (idx p0.Nodes v4).bind fun (e6 : GNode) => (if (((decide (e6.ID ≤ v3)) || (decide (e6.ID ≥ p0.Next))) || ((e6.Parent == 0) != (e6.ID == p0.Root))) = true then some (([] : List (Int × GNode)), false) else view_graph_L0 p0 j1 n e6.ID (IntKind.wrap .i64 (v4 + 1)) (mput e6.ID e6 v5)) else j1 v5)
def view_graph  (n : Nat) (p0 : GTree) : Option ((List (Int × GNode)) × Bool) := (if ((((decide (p0.Next < 2)) || (decide (p0.Next > 1099511627776))) || (decide ((List.length p0.Nodes : Int) < 1))) || (decide ((List.length p0.Nodes : Int) > 400))) = true then some (([] : List (Int × GNode)), false) else (withJ (fun (v10 : List (Int × GNode)) => (some (mget p0.Root v10, mhas p0.Root v10)).bind fun (y11 : (GNode × Bool)) => (if (!y11.2) = true then some (([] : List (Int × GNode)), false) else (withJ (fun (v43 : List (Int × Bool)) => (if ((List.length v43 : Int) != (List.length v10 : Int)) = true then some (([] : List (Int × GNode)), false) else (view_preorder n v10 p0.Root).bind fun (y44 : (List Int)) => some (v10, ((List.length y44 : Int) == (List.length v10 : Int))))) (fun (j12 : List (Int × Bool) → Option ((List (Int × GNode)) × Bool)) => view_graph_L1 p0 v10 j12 n 0 (mput p0.Root true ([] : List (Int × Bool))))))) (fun (j1 : List (Int × GNode) → Option ((List (Int × GNode)) × Bool)) => view_graph_L0 p0 j1 n 0 0 ([] : List (Int × GNode)))))
theorem view_graph_ok  (n : Nat) (p0 : GTree) (r : ((List (Int × GNode)) × Bool)) (h : view_graph n p0 = some r) : FnD E 64 0 [.agg [I p0.Root, I p0.Next, .lit (List.map eGNode p0.Nodes)]] [] (.tup [.c (.lmap true (List.map (eM (Value.int .i64) eGNode) r.1)), .c (Bo r.2)]) [] := by
  refine zfn Tryd.func64 rfl ?_
  unfold view_graph at h
  refine za [1] ?_
  refine aw_seq ?_
  refine zx fun _ => ?_
  refine zk 4 ?_
  refine zE (.c (.ptr 0 1)) ?_
  refine zE (.c (I p0.Next)) ?_
  refine zE (.c (Bo (decide (p0.Next > 1099511627776)))) ?_
  refine zP (.bool ((decide (p0.Next < 2)) || (decide (p0.Next > 1099511627776)))) ?_
  refine zk 1 ?_
  refine zE (.c (.ptr 0 2)) ?_
  refine zE (.c (.lit (List.map eGNode p0.Nodes))) ?_
  refine rx_E (e := [(!((decide (p0.Next < 2)) || (decide (p0.Next > 1099511627776))))]) [(27, .c (.lit (List.map eGNode p0.Nodes)), some 1)] (v := .c (I (List.length p0.Nodes : Int))) (foot := []) (by kernel_rfl) (by kernel_rfl) (by kernel_rfl) (fun hg => rd_len (enc := eGNode) (l := p0.Nodes) (by kernel_rfl)) rfl rfl ?_
  refine zE (.c (Bo (decide ((List.length p0.Nodes : Int) < 1)))) ?_
  refine zP (.bool (((decide (p0.Next < 2)) || (decide (p0.Next > 1099511627776))) || (decide ((List.length p0.Nodes : Int) < 1)))) ?_
  refine zk 1 ?_
  refine zE (.c (.ptr 0 2)) ?_
  refine zE (.c (.lit (List.map eGNode p0.Nodes))) ?_
  refine rx_E (e := [(!(((decide (p0.Next < 2)) || (decide (p0.Next > 1099511627776))) || (decide ((List.length p0.Nodes : Int) < 1))))]) [(33, .c (.lit (List.map eGNode p0.Nodes)), some 1)] (v := .c (I (List.length p0.Nodes : Int))) (foot := []) (by kernel_rfl) (by kernel_rfl) (by kernel_rfl) (fun hg => rd_len (enc := eGNode) (l := p0.Nodes) (by kernel_rfl)) rfl rfl ?_
  refine zE (.c (Bo (decide ((List.length p0.Nodes : Int) > 400)))) ?_
  refine zP (.bool ((((decide (p0.Next < 2)) || (decide (p0.Next > 1099511627776))) || (decide ((List.length p0.Nodes : Int) < 1))) || (decide ((List.length p0.Nodes : Int) > 400)))) ?_
  refine zee [1, 36] (L2 := [(1, .c (.ptr 0 0)), (36, .c (Bo ((((decide (p0.Next < 2)) || (decide (p0.Next > 1099511627776))) || (decide ((List.length p0.Nodes : Int) < 1))) || (decide ((List.length p0.Nodes : Int) > 400)))))]) (G2 := [(0, .blk 49 [I p0.Root, I p0.Next, .lit (List.map eGNode p0.Nodes)])]) 23 ?_
  refine zi h (fun h => ?_) fun h => ?_
  refine za [2, 3] ?_
  refine aw_views (view_nilM 2 true (L2 := [(2, .c (.lmap true (List.map (eM (Value.int .i64) eGNode) ([] : List (Int × GNode))))), (3, .c (Bo false))]) (by kernel_rfl) (by kernel_rfl)) ?_
  cases h
  exact aw_ret zr
  refine aw_skip ?_
  refine za [1, 4] ?_
  refine za [1, 4, 5] ?_
  refine aw_join h (fun A j => ∀ v10, j v10 = some r → A (mk [(1, .c (.ptr 0 0)), (4, .c (.mapr 1))] [(0, .blk 49 [I p0.Root, I p0.Next, .lit (List.map eGNode p0.Nodes)]), (1, .map true (List.map (eM (Value.int .i64) eGNode) v10))] 2)) (fun v10 h => ?_) (fun j1 Aj1 hj1 h => ?_)
  refine aw_seq ?_
  refine zx fun _ => ?_
  refine zk 3 ?_
  obtain ⟨y11, he, h⟩ := bindE h
  refine zw (v := .tup [.agg [I y11.1.ID, I y11.1.Parent, I y11.1.Kind, Sx y11.1.Key, .lit (List.map eGAttr y11.1.Attrs), .lit (List.map eGAction y11.1.Actions), .lit (List.map eI64 y11.1.Kids)], .c (Bo y11.2)]) [1] (rdW_lookup (kf := (Value.int .i64)) (enc := eGNode) (l := v10) (k := p0.Root) (ok := true) (kk := .int .i64) (j := ⟨.st [(3, 0, 1), (3, 1, 1), (3, 2, 1), (9, 3, 1), (61, 4, 1), (62, 5, 1), (37, 6, 1)], 7, 112, [.int .i64 0, .int .i64 0, .int .i64 0, .string ⟨#[]⟩, .slice none 0 0, .slice none 0 0, .slice none 0 0]⟩) (p := y11) (v := .agg [I y11.1.ID, I y11.1.Parent, I y11.1.Kind, Sx y11.1.Key, .lit (List.map eGAttr y11.1.Attrs), .lit (List.map eGAction y11.1.Actions), .lit (List.map eI64 y11.1.Kids)]) he (by kernel_rfl) keyInt (by kernel_rfl) (by kernel_rfl) (by kernel_rfl)) ?_
  clear he
  refine zk 6 ?_
  refine ze [1, 4, 9] ?_
  refine za [1, 4, 82] ?_
  refine zi h (fun h => ?_) fun h => ?_
  refine za [2, 3] ?_
  refine aw_views (view_nilM 2 true (L2 := [(2, .c (.lmap true (List.map (eM (Value.int .i64) eGNode) ([] : List (Int × GNode))))), (3, .c (Bo false))]) (by kernel_rfl) (by kernel_rfl)) ?_
  cases h
  exact aw_ret zr
  refine aw_skip ?_
  refine zx fun _ => ?_
  refine zk 3 ?_
  refine rx_mapset (kf := (Value.int .i64)) (enc := eB) (l := ([] : List (Int × Bool))) (k := p0.Root) (v := true) (n := 14) (ag := false) (kk := .int .i64) (by kernel_rfl) keyInt (by kernel_rfl) (by kernel_rfl) rfl rfl ?_
  refine zk 2 ?_
  refine ze [1, 4, 10] ?_
  refine aw_join h (fun A j => ∀ v43, j v43 = some r → A (mk [(1, .c (.ptr 0 0)), (4, .c (.mapr 1)), (10, .c (.mapr 2))] [(0, .blk 49 [I p0.Root, I p0.Next, .lit (List.map eGNode p0.Nodes)]), (1, .map true (List.map (eM (Value.int .i64) eGNode) v10)), (2, .map false (List.map (eM (Value.int .i64) eB) v43))] 3)) (fun v43 h => ?_) (fun j12 Aj12 hj12 h => ?_)
  refine aw_seq ?_
  refine zx fun _ => ?_
  refine zk 1 ?_
  refine zw (v := .c (I (List.length v43 : Int))) [2] (rdW_lenM (Value.int .i64) eB v43 (by kernel_rfl)) ?_
  refine zk 1 ?_
  refine zw (v := .c (I (List.length v10 : Int))) [1] (rdW_lenM (Value.int .i64) eGNode v10 (by kernel_rfl)) ?_
  refine zk 1 ?_
  refine ze [1, 4, 129] ?_
  refine zi h (fun h => ?_) fun h => ?_
  refine za [2, 3] ?_
  refine aw_views (view_nilM 2 true (L2 := [(2, .c (.lmap true (List.map (eM (Value.int .i64) eGNode) ([] : List (Int × GNode))))), (3, .c (Bo false))]) (by kernel_rfl) (by kernel_rfl)) ?_
  cases h
  exact aw_ret zr
  refine aw_skip ?_
  refine aw_views (view_frzM 1 (ag := true) (l := List.map (eM (Value.int .i64) eGNode) v10) (L2 := [(1, .c (.ptr 0 0)), (4, .c (.lmap true (List.map (eM (Value.int .i64) eGNode) v10))), (129, .c (Bo ((List.length v43 : Int) != (List.length v10 : Int))))]) (G2 := [(0, .blk 49 [I p0.Root, I p0.Next, .lit (List.map eGNode p0.Nodes)]), (2, .map false (List.map (eM (Value.int .i64) eB) v43))]) (by kernel_rfl) (by kernel_rfl) (by kernel_rfl)) ?_
  refine zx fun _ => ?_
  refine zk 4 ?_
  obtain ⟨y44, he, h⟩ := bindE h
  refine zc fok58 (view_preorder_ok n _ _ y44 he) ?_
  clear he
  refine zl eI64 y44 ?_
  refine zk 1 ?_
  refine zw (v := .c (I (List.length v10 : Int))) [] (rdW_lenM (Value.int .i64) eGNode v10 (by kernel_rfl)) ?_
  refine zk 3 ?_
  refine zee [2, 3] (L2 := [(2, .c (.lmap true (List.map (eM (Value.int .i64) eGNode) v10))), (3, .c (Bo ((List.length y44 : Int) == (List.length v10 : Int))))]) (G2 := [(0, .blk 49 [I p0.Root, I p0.Next, .lit (List.map eGNode p0.Nodes)]), (2, .map false (List.map (eM (Value.int .i64) eB) v43))]) 19 ?_
  cases h
  exact aw_ret zr
  refine zx fun _ => ?_
  refine zk 2 ?_
  refine zl eGNode p0.Nodes ?_
  refine zk 1 ?_
  refine zee [1, 4, 10, 88, 89, 90] (L2 := [(1, .c (.ptr 0 0)), (4, .c (.mapr 1)), (10, .c (.mapr 14)), (88, .c (.lit (List.map eGNode p0.Nodes))), (89, .c (I (List.length p0.Nodes : Int))), (90, .c (I 0))]) (G2 := [(0, .blk 49 [I p0.Root, I p0.Next, .lit (List.map eGNode p0.Nodes)]), (1, .map true (List.map (eM (Value.int .i64) eGNode) v10)), (9, .blk 64 [I y11.1.ID, I y11.1.Parent, I y11.1.Kind, Sx y11.1.Key, .lit (List.map eGAttr y11.1.Attrs), .lit (List.map eGAction y11.1.Actions), .lit (List.map eI64 y11.1.Kids)]), (14, .map false (List.map (eM (Value.int .i64) eB) (mput p0.Root true ([] : List (Int × Bool)))))]) 24 ?_
  refine aw_block ?_
  refine aw_loopJ (fun n s => ∃ v26 v27, view_graph_L1 p0 v10 j12 n v26 v27 = some r ∧ s = mk [(1, .c (.ptr 0 0)), (4, .c (.mapr 1)), (10, .c (.mapr 2)), (88, .c (.lit (List.map eGNode p0.Nodes))), (89, .c (I (List.length p0.Nodes : Int))), (90, .c (I v26))] [(0, .blk 49 [I p0.Root, I p0.Next, .lit (List.map eGNode p0.Nodes)]), (1, .map true (List.map (eM (Value.int .i64) eGNode) v10)), (2, .map false (List.map (eM (Value.int .i64) eB) v27))] 3) n _ (zv [(0, 0), (1, 1), (14, 2)] [1, 4, 10, 88, 89, 90] 3) ⟨_, _, h, rfl⟩ (fun s ⟨v26, v27, h, _⟩ => nomatch h) ?_
  rintro n s ⟨v26, v27, h, rfl⟩
  rw [view_graph_L1] at h
  refine za [1, 4, 10, 88, 89, 90, 91] ?_
  refine aw_seq ?_
  refine zi h (fun h => ?_) fun h => ?_
  refine aw_skip ?_
  refine aw_join h (fun A j => ∀ v40, j v40 = some r → A (mk [(1, .c (.ptr 0 0)), (4, .c (.mapr 1)), (10, .c (.mapr 2)), (88, .c (.lit (List.map eGNode p0.Nodes))), (89, .c (I (List.length p0.Nodes : Int))), (90, .c (I v26))] [(0, .blk 49 [I p0.Root, I p0.Next, .lit (List.map eGNode p0.Nodes)]), (1, .map true (List.map (eM (Value.int .i64) eGNode) v10)), (2, .map false (List.map (eM (Value.int .i64) eB) v40))] 3)) (fun v40 h => ?_) (fun j28 Aj28 hj28 h => ?_)
  refine aw_out ?_
  refine zb ?_
  exact via (zv [(0, 0), (1, 1), (2, 2)] [1, 4, 10, 88, 89, 90] 3) (⟨_, _, h, rfl⟩)
  refine aw_block ?_
  refine zx fun _ => ?_
  obtain ⟨e29, he, h⟩ := bindE h
  refine zd eGNode he ?_
  clear he
  refine zk 3 ?_
  refine ze [1, 4, 10, 12, 88, 89, 90] ?_
  refine zx fun _ => ?_
  refine zk 2 ?_
  refine zl eI64 e29.Kids ?_
  refine zk 1 ?_
  refine ze [1, 4, 10, 12, 88, 89, 90, 95, 96, 97] ?_
  refine aw_block ?_
  refine aw_loopJ (fun n s => ∃ v33 v34, view_graph_L2 e29 v10 j28 p0 v26 n v33 v34 = some r ∧ s = mk [(1, .c (.ptr 0 0)), (4, .c (.mapr 1)), (10, .c (.mapr 2)), (88, .c (.lit (List.map eGNode p0.Nodes))), (89, .c (I (List.length p0.Nodes : Int))), (90, .c (I v26)), (12, .c (.ptr 3 0)), (95, .c (.lit (List.map eI64 e29.Kids))), (96, .c (I (List.length e29.Kids : Int))), (97, .c (I v33))] [(0, .blk 49 [I p0.Root, I p0.Next, .lit (List.map eGNode p0.Nodes)]), (1, .map true (List.map (eM (Value.int .i64) eGNode) v10)), (2, .map false (List.map (eM (Value.int .i64) eB) v34)), (3, .blk 64 [I e29.ID, I e29.Parent, I e29.Kind, Sx e29.Key, .lit (List.map eGAttr e29.Attrs), .lit (List.map eGAction e29.Actions), .lit (List.map eI64 e29.Kids)])] 4) n _ (zv [(0, 0), (1, 1), (2, 2), (6, 3)] [1, 4, 10, 88, 89, 90, 12, 95, 96, 97] 4) ⟨_, _, h, rfl⟩ (fun s ⟨v33, v34, h, _⟩ => nomatch h) ?_
  rintro n s ⟨v33, v34, h, rfl⟩
  rw [view_graph_L2] at h
  refine za [1, 4, 10, 12, 88, 89, 90, 95, 96, 97, 98] ?_
  refine aw_seq ?_
  refine zi h (fun h => ?_) fun h => ?_
  refine aw_skip ?_
  refine aw_seq ?_
  refine aw_block ?_
  refine zx fun _ => ?_
  obtain ⟨e35, he, h⟩ := bindE h
  refine zd eI64 he ?_
  clear he
  refine zk 2 ?_
  refine ze [1, 4, 10, 12, 14, 88, 89, 90, 95, 96, 97] ?_
  refine aw_seq ?_
  refine zx fun _ => ?_
  refine zk 2 ?_
  obtain ⟨y36, he, h⟩ := bindE h
  refine zw (v := .tup [.agg [I y36.1.ID, I y36.1.Parent, I y36.1.Kind, Sx y36.1.Key, .lit (List.map eGAttr y36.1.Attrs), .lit (List.map eGAction y36.1.Actions), .lit (List.map eI64 y36.1.Kids)], .c (Bo y36.2)]) [1] (rdW_lookup (kf := (Value.int .i64)) (enc := eGNode) (l := v10) (k := e35) (ok := true) (kk := .int .i64) (j := ⟨.st [(3, 0, 1), (3, 1, 1), (3, 2, 1), (9, 3, 1), (61, 4, 1), (62, 5, 1), (37, 6, 1)], 7, 112, [.int .i64 0, .int .i64 0, .int .i64 0, .string ⟨#[]⟩, .slice none 0 0, .slice none 0 0, .slice none 0 0]⟩) (p := y36) (v := .agg [I y36.1.ID, I y36.1.Parent, I y36.1.Kind, Sx y36.1.Key, .lit (List.map eGAttr y36.1.Attrs), .lit (List.map eGAction y36.1.Actions), .lit (List.map eI64 y36.1.Kids)]) he (by kernel_rfl) keyInt (by kernel_rfl) (by kernel_rfl) (by kernel_rfl)) ?_
  clear he
  refine zk 6 ?_
  refine ze [1, 4, 10, 12, 14, 15, 16, 88, 89, 90, 95, 96, 97] ?_
  refine zx fun _ => ?_
  refine zk 3 ?_
  refine zE (.c (.ptr 14 1)) ?_
  refine zE (.c (I y36.1.Parent)) ?_
  refine zE (.c (.ptr 3 0)) ?_
  refine zE (.c (I e29.ID)) ?_
  refine zE (.c (Bo (y36.1.Parent != e29.ID))) ?_
  refine zP (.bool ((!y36.2) || (y36.1.Parent != e29.ID))) ?_
  refine zk 1 ?_
  refine zE (.c (.mapr 2)) ?_
  refine zE (.c (I e35)) ?_
  obtain ⟨y37, he, h⟩ := bindE h
  refine rx_EW (e := [(!((!y36.2) || (y36.1.Parent != e29.ID)))]) [(117, .c (.mapr 2), some 1), (118, .c (I e35), some 1)] (v := .c (Bo y37.1)) (foot := [2]) (by kernel_rfl) (by kernel_rfl) (by kernel_rfl) (fun hg => rdW_lookup (kf := (Value.int .i64)) (enc := eB) (l := v34) (k := e35) (ok := false) (kk := .int .i64) (j := ⟨.boo, 1, 1, [.bool false]⟩) (p := y37) (v := .c (Bo y37.1)) (gd_spec he hg) (by kernel_rfl) keyInt (by kernel_rfl) (by kernel_rfl) (by kernel_rfl)) rfl rfl ?_
  clear he
  refine zP (.bool (((!y36.2) || (y36.1.Parent != e29.ID)) || y37.1)) ?_
  refine zee [1, 4, 10, 12, 14, 88, 89, 90, 95, 96, 97, 120] (L2 := [(1, .c (.ptr 0 0)), (4, .c (.mapr 1)), (10, .c (.mapr 2)), (88, .c (.lit (List.map eGNode p0.Nodes))), (89, .c (I (List.length p0.Nodes : Int))), (90, .c (I v26)), (12, .c (.ptr 3 0)), (95, .c (.lit (List.map eI64 e29.Kids))), (96, .c (I (List.length e29.Kids : Int))), (97, .c (I v33)), (14, .c (I e35)), (120, .c (Bo (((!y36.2) || (y36.1.Parent != e29.ID)) || y37.1)))]) (G2 := [(0, .blk 49 [I p0.Root, I p0.Next, .lit (List.map eGNode p0.Nodes)]), (1, .map true (List.map (eM (Value.int .i64) eGNode) v10)), (2, .map false (List.map (eM (Value.int .i64) eB) v34)), (3, .blk 64 [I e29.ID, I e29.Parent, I e29.Kind, Sx e29.Key, .lit (List.map eGAttr e29.Attrs), .lit (List.map eGAction e29.Actions), .lit (List.map eI64 e29.Kids)]), (14, .blk 64 [I y36.1.ID, I y36.1.Parent, I y36.1.Kind, Sx y36.1.Key, .lit (List.map eGAttr y36.1.Attrs), .lit (List.map eGAction y36.1.Actions), .lit (List.map eI64 y36.1.Kids)])]) 31 ?_
  refine zi h (fun h => ?_) fun h => ?_
  refine za [2, 3] ?_
  refine aw_views (view_nilM 2 true (L2 := [(2, .c (.lmap true (List.map (eM (Value.int .i64) eGNode) ([] : List (Int × GNode))))), (3, .c (Bo false))]) (by kernel_rfl) (by kernel_rfl)) ?_
  cases h
  exact aw_ret zr
  refine aw_skip ?_
  refine zy fun _ => ?_
  refine zk 2 ?_
  refine rx_mapset (kf := (Value.int .i64)) (enc := eB) (l := v34) (k := e35) (v := true) (n := 2) (ag := false) (kk := .int .i64) (by kernel_rfl) keyInt (by kernel_rfl) (by kernel_rfl) rfl rfl ?_
  refine x_last ?_
  refine aw_out ?_
  refine zb ?_
  exact via (zv [(0, 0), (1, 1), (2, 2), (3, 3)] [1, 4, 10, 88, 89, 90, 12, 95, 96, 97] 4) (⟨_, _, h, rfl⟩)
  exact aw_views (zv [(0, 0), (1, 1), (2, 2)] [1, 4, 10, 88, 89, 90] 3) (aw_exit (hj28 _ h))
  exact aw_views (zv [(0, 0), (1, 1), (2, 2)] [1, 4, 10] 3) (aw_exit (hj12 _ h))
  refine zx fun _ => ?_
  refine zk 2 ?_
  refine zl eGNode p0.Nodes ?_
  refine zk 1 ?_
  refine ze [1, 4, 5, 39, 40, 41] ?_
  refine aw_block ?_
  refine aw_loopJ (fun n s => ∃ v3 v4 v5, view_graph_L0 p0 j1 n v3 v4 v5 = some r ∧ s = mk [(1, .c (.ptr 0 0)), (4, .c (.mapr 1)), (5, .c (I v3)), (39, .c (.lit (List.map eGNode p0.Nodes))), (40, .c (I (List.length p0.Nodes : Int))), (41, .c (I v4))] [(0, .blk 49 [I p0.Root, I p0.Next, .lit (List.map eGNode p0.Nodes)]), (1, .map true (List.map (eM (Value.int .i64) eGNode) v5))] 2) n _ (zv [(0, 0), (23, 1)] [1, 4, 5, 39, 40, 41] 2) ⟨_, _, _, h, rfl⟩ (fun s ⟨v3, v4, v5, h, _⟩ => nomatch h) ?_
  rintro n s ⟨v3, v4, v5, h, rfl⟩
  rw [view_graph_L0] at h
  refine za [1, 4, 5, 39, 40, 41, 42] ?_
  refine aw_seq ?_
  refine zi h (fun h => ?_) fun h => ?_
  refine aw_skip ?_
  refine aw_seq ?_
  refine aw_block ?_
  refine zx fun _ => ?_
  obtain ⟨e6, he, h⟩ := bindE h
  refine zd eGNode he ?_
  clear he
  refine zk 3 ?_
  refine ze [1, 4, 5, 7, 39, 40, 41] ?_
  refine aw_seq ?_
  refine zx fun _ => ?_
  refine zk 5 ?_
  refine zE (.c (.ptr 5 0)) ?_
  refine zE (.c (I e6.ID)) ?_
  refine zE (.c (.ptr 0 1)) ?_
  refine zE (.c (I p0.Next)) ?_
  refine zE (.c (Bo (decide (e6.ID ≥ p0.Next)))) ?_
  refine zP (.bool ((decide (e6.ID ≤ v3)) || (decide (e6.ID ≥ p0.Next)))) ?_
  refine zk 1 ?_
  refine zE (.c (.ptr 5 1)) ?_
  refine zE (.c (I e6.Parent)) ?_
  refine zE (.c (Bo (e6.Parent == 0))) ?_
  refine zE (.c (.ptr 5 0)) ?_
  refine zE (.c (I e6.ID)) ?_
  refine zE (.c (.ptr 0 0)) ?_
  refine zE (.c (I p0.Root)) ?_
  refine zE (.c (Bo (e6.ID == p0.Root))) ?_
  refine zE (.c (Bo ((e6.Parent == 0) != (e6.ID == p0.Root)))) ?_
  refine zP (.bool (((decide (e6.ID ≤ v3)) || (decide (e6.ID ≥ p0.Next))) || ((e6.Parent == 0) != (e6.ID == p0.Root)))) ?_
  refine zee [1, 4, 7, 39, 40, 41, 66] (L2 := [(1, .c (.ptr 0 0)), (4, .c (.mapr 1)), (39, .c (.lit (List.map eGNode p0.Nodes))), (40, .c (I (List.length p0.Nodes : Int))), (41, .c (I v4)), (7, .c (.ptr 5 0)), (66, .c (Bo (((decide (e6.ID ≤ v3)) || (decide (e6.ID ≥ p0.Next))) || ((e6.Parent == 0) != (e6.ID == p0.Root)))))]) (G2 := [(0, .blk 49 [I p0.Root, I p0.Next, .lit (List.map eGNode p0.Nodes)]), (1, .map true (List.map (eM (Value.int .i64) eGNode) v5)), (5, .blk 64 [I e6.ID, I e6.Parent, I e6.Kind, Sx e6.Key, .lit (List.map eGAttr e6.Attrs), .lit (List.map eGAction e6.Actions), .lit (List.map eI64 e6.Kids)])]) 29 ?_
  refine zi h (fun h => ?_) fun h => ?_
  refine za [2, 3] ?_
  refine aw_views (view_nilM 2 true (L2 := [(2, .c (.lmap true (List.map (eM (Value.int .i64) eGNode) ([] : List (Int × GNode))))), (3, .c (Bo false))]) (by kernel_rfl) (by kernel_rfl)) ?_
  cases h
  exact aw_ret zr
  refine aw_skip ?_
  refine za [1, 4, 5, 7, 39, 40, 41] ?_
  refine zy fun _ => ?_
  refine zk 4 ?_
  refine rx_mapset (kf := (Value.int .i64)) (enc := eGNode) (l := v5) (k := e6.ID) (v := e6) (n := 1) (ag := true) (kk := .int .i64) (by kernel_rfl) keyInt (by kernel_rfl) (by kernel_rfl) rfl rfl ?_
  refine x_last ?_
  refine aw_out ?_
  refine zb ?_
  exact via (zv [(0, 0), (1, 1)] [1, 4, 5, 39, 40, 41] 2) (⟨_, _, _, h, rfl⟩)
  exact aw_views (zv [(0, 0), (1, 1)] [1, 4] 2) (aw_exit (hj1 _ h))
def view_described_L0 (y1 : (GNode × Bool)) (self_view_described : (List (Int × GNode)) → Int → Option GView) (p0 : (List (Int × GNode))) (j2 : List GView → Option GView) : Nat → Int → List GView → Option GView
  | 0, _, _ => none
  | n + 1, v7, v8 => (if (decide (v7 < (List.length y1.1.Kids : Int))) = true then (idx y1.1.Kids v7).bind fun (e9 : Int) => (self_view_described p0 e9).bind fun (y10 : GView) => (apd 96 v8 [y10]).bind fun (l11 : List GView) => view_described_L0 y1 self_view_described p0 j2 n (IntKind.wrap .i64 (v7 + 1)) l11 else j2 v8)
def view_described_body (self_view_described : (List (Int × GNode)) → Int → Option GView) (n : Nat) (p0 : (List (Int × GNode))) (p1 : Int) : Option GView := (some (mget p1 p0, mhas p1 p0)).bind fun (y1 : (GNode × Bool)) => (withJ (fun (v15 : List GView) => some (GView.mk y1.1.Kind y1.1.Key y1.1.Attrs y1.1.Actions v15)) (fun (j2 : List GView → Option GView) => view_described_L0 y1 self_view_described p0 j2 n 0 ([] : List GView)))
theorem view_described_body_ok (self_view_described : (List (Int × GNode)) → Int → Option GView) (ih_view_described : ∀ (p0 : (List (Int × GNode))) (p1 : Int) (r : GView), self_view_described p0 p1 = some r → FnD E 65 0 [.c (.lmap true (List.map (eM (Value.int .i64) eGNode) p0)), .c (I p1)] [] (.agg [I r.Kind, Sx r.Key, .lit (List.map eGAttr r.Attrs), .lit (List.map eGAction r.Actions), .lit (List.map eGView r.Kids)]) []) (n : Nat) (p0 : (List (Int × GNode))) (p1 : Int) (r : GView) (h : view_described_body self_view_described n p0 p1 = some r) : FnD E 65 0 [.c (.lmap true (List.map (eM (Value.int .i64) eGNode) p0)), .c (I p1)] [] (.agg [I r.Kind, Sx r.Key, .lit (List.map eGAttr r.Attrs), .lit (List.map eGAction r.Actions), .lit (List.map eGView r.Kids)]) [] := by
  refine zfn Tryd.func65 rfl ?_
  unfold view_described_body at h
  refine za [0, 1, 4] ?_
  refine zx fun _ => ?_
  refine zk 2 ?_
  obtain ⟨y1, he, h⟩ := bindE h
  refine zw (v := .agg [I y1.1.ID, I y1.1.Parent, I y1.1.Kind, Sx y1.1.Key, .lit (List.map eGAttr y1.1.Attrs), .lit (List.map eGAction y1.1.Actions), .lit (List.map eI64 y1.1.Kids)]) [] (rdW_lookup (kf := (Value.int .i64)) (enc := eGNode) (l := p0) (k := p1) (ok := false) (kk := .int .i64) (j := ⟨.st [(3, 0, 1), (3, 1, 1), (3, 2, 1), (9, 3, 1), (61, 4, 1), (62, 5, 1), (37, 6, 1)], 7, 112, [.int .i64 0, .int .i64 0, .int .i64 0, .string ⟨#[]⟩, .slice none 0 0, .slice none 0 0, .slice none 0 0]⟩) (p := y1) (v := .agg [I y1.1.ID, I y1.1.Parent, I y1.1.Kind, Sx y1.1.Key, .lit (List.map eGAttr y1.1.Attrs), .lit (List.map eGAction y1.1.Actions), .lit (List.map eI64 y1.1.Kids)]) he (by kernel_rfl) keyInt (by kernel_rfl) (by kernel_rfl) (by kernel_rfl)) ?_
  clear he
  refine zk 2 ?_
  refine ze [0, 4, 5] ?_
  refine za [0, 4, 5, 6] ?_
  refine aw_join h (fun A j => ∀ v15, j v15 = some r → A (mk [(4, .c (.ptr 0 0)), (6, .c (.ptr 1 0))] [(0, .blk 75 [I 0, Sx (⟨#[]⟩ : ByteArray), NilS, NilS, NilS]), (1, .blk 75 [I y1.1.Kind, Sx y1.1.Key, .lit (List.map eGAttr y1.1.Attrs), .lit (List.map eGAction y1.1.Actions), .app 2 (List.map eGView v15)]), (2, .tok 75 5 (List.length v15))] 3)) (fun v15 h => ?_) (fun j2 Aj2 hj2 h => ?_)
  refine za [4] ?_
  cases h
  exact aw_ret zr
  refine zx fun _ => ?_
  refine zk 2 ?_
  refine zl eI64 y1.1.Kids ?_
  refine zk 1 ?_
  refine ze [0, 4, 6, 22, 23, 24] ?_
  refine aw_block ?_
  refine aw_loopJ (fun n s => ∃ v7 v8, view_described_L0 y1 self_view_described p0 j2 n v7 v8 = some r ∧ s = mk [(0, .c (.lmap true (List.map (eM (Value.int .i64) eGNode) p0))), (4, .c (.ptr 0 0)), (6, .c (.ptr 1 0)), (22, .c (.lit (List.map eI64 y1.1.Kids))), (23, .c (I (List.length y1.1.Kids : Int))), (24, .c (I v7))] [(0, .blk 75 [I 0, Sx (⟨#[]⟩ : ByteArray), NilS, NilS, NilS]), (1, .blk 75 [I y1.1.Kind, Sx y1.1.Key, .lit (List.map eGAttr y1.1.Attrs), .lit (List.map eGAction y1.1.Actions), .app 2 (List.map eGView v8)]), (2, .tok 75 5 (List.length v8))] 3) n _ (Views.trans (view_nilC (n := 15) (T0 := 75) (l := [I y1.1.Kind, Sx y1.1.Key, .lit (List.map eGAttr y1.1.Attrs), .lit (List.map eGAction y1.1.Actions), NilS]) (G2 := [(0, .blk 75 [I 0, Sx (⟨#[]⟩ : ByteArray), NilS, NilS, NilS]), (4, .blk 64 [I y1.1.ID, I y1.1.Parent, I y1.1.Kind, Sx y1.1.Key, .lit (List.map eGAttr y1.1.Attrs), .lit (List.map eGAction y1.1.Actions), .lit (List.map eI64 y1.1.Kids)]), (15, .blk 75 [I y1.1.Kind, Sx y1.1.Key, .lit (List.map eGAttr y1.1.Attrs), .lit (List.map eGAction y1.1.Actions), .app 21 (List.map eGView ([] : List GView))]), (21, .tok 75 5 (List.length ([] : List GView)))]) (lim2 := 22) 4 75 5 (by kernel_rfl) (by kernel_rfl) (by kernel_rfl) (by kernel_rfl)) (zv [(0, 0), (15, 1), (21, 2)] [0, 4, 6, 22, 23, 24] 3)) ⟨_, _, h, rfl⟩ (fun s ⟨v7, v8, h, _⟩ => nomatch h) ?_
  rintro n s ⟨v7, v8, h, rfl⟩
  rw [view_described_L0] at h
  refine za [0, 4, 6, 22, 23, 24, 25] ?_
  refine aw_seq ?_
  refine zi h (fun h => ?_) fun h => ?_
  refine aw_skip ?_
  refine aw_seq ?_
  refine aw_block ?_
  refine zx fun _ => ?_
  obtain ⟨e9, he, h⟩ := bindE h
  refine zd eI64 he ?_
  clear he
  refine zk 2 ?_
  refine ze [0, 4, 6, 8, 22, 23, 24] ?_
  refine zdy [[], [0], [], [], [2, 3], [4, 2, 3], [1, 5, 4, 0, 2, 3], [0, 1, 2, 3, 4, 5, 6], [7, 6, 0, 1, 2, 3, 4, 5]] fun _ => ?_
  refine zk 4 ?_
  obtain ⟨y10, he, h⟩ := bindE h
  refine zc fok65 (ih_view_described _ _ y10 he) ?_
  clear he
  refine rx_bs (e := 75) (sz := 5) (len := 1) (r := [I y10.Kind, Sx y10.Key, .lit (List.map eGAttr y10.Attrs), .lit (List.map eGAction y10.Actions), .lit (List.map eGView y10.Kids)]) (l' := List.map eGView [y10]) (nm := 12) (by kernel_rfl) (by simp only [List.map_cons, List.map_nil, eGView_eq]; kernel_rfl) (by kernel_rfl) (by kernel_rfl) rfl rfl rfl ?_
  obtain ⟨l11, he, h⟩ := bindE h
  refine rx_append (enc := eGView) (l := v8) (els := [y10]) (r := l11) (old := some 2) (e := 75) (sz := 5) (bytes := 96) (k := (List.length v8)) (nm := 13) he (by kernel_rfl) (by kernel_rfl) (fun x => by rw [eGView_eq]; rfl) (by kernel_rfl) (by kernel_rfl) rfl rfl rfl ?_
  clear he
  refine zk 2 ?_
  refine x_last ?_
  refine aw_out ?_
  refine zb ?_
  exact via (zv [(0, 0), (1, 1), (13, 2)] [0, 4, 6, 22, 23, 24] 3) (⟨_, _, h, rfl⟩)
  exact aw_views (zv [(0, 0), (1, 1), (2, 2)] [4, 6] 3) (aw_exit (hj2 _ h))
def view_described : Nat → (List (Int × GNode)) → Int → Option GView
  | 0, _, _ => none
  | n + 1, p0, p1 => view_described_body (fun a0 a1 => view_described n a0 a1) n p0 p1
theorem view_described_ok (n : Nat) : (∀ (p0 : (List (Int × GNode))) (p1 : Int) (r : GView), view_described n p0 p1 = some r → FnD E 65 0 [.c (.lmap true (List.map (eM (Value.int .i64) eGNode) p0)), .c (I p1)] [] (.agg [I r.Kind, Sx r.Key, .lit (List.map eGAttr r.Attrs), .lit (List.map eGAction r.Actions), .lit (List.map eGView r.Kids)]) []) := by
  induction n with
  | zero => intro p0 p1 r h; rw [view_described] at h; cases h
  | succ n ih => intro p0 p1 r h; rw [view_described] at h; exact view_described_body_ok _ ih n _ _ r h
def view_Key_L0 (p0 : ByteArray) (j1 : Unit → Option Bool) : Nat → Int → Option Bool
  | 0, _ => none
  | n + 1, v3 => (if (decide (v3 < (ByteArray.size p0 : Int))) = true then (sidx p0 v3).bind fun (u4 : Int) => (if ((((((decide (u4 < 97)) || (decide (u4 > 122))) && ((decide (u4 < 65)) || (decide (u4 > 90)))) && ((decide (u4 < 48)) || (decide (u4 > 57)))) && (u4 != 45)) && (u4 != 95)) = true then some false else view_Key_L0 p0 j1 n (IntKind.wrap .i64 (v3 + 1))) else j1 ())
def view_Key  (n : Nat) (p0 : ByteArray) : Option Bool := (withJ (fun (_ : Unit) => some (decide ((ByteArray.size p0 : Int) ≤ 24))) (fun (j1 : Unit → Option Bool) => view_Key_L0 p0 j1 n 0))
theorem view_Key_ok  (n : Nat) (p0 : ByteArray) (r : Bool) (h : view_Key n p0 = some r) : FnD E 92 0 [.c (Sx p0)] [] (.c (Bo r)) [] := by
  refine zfn Tryd.func92 rfl ?_
  unfold view_Key at h
  refine za [0] ?_
  refine aw_join h (fun A j => ∀ u, j u = some r → A (mk [(0, .c (Sx p0))] [] 0)) (fun u h => ?_) (fun j1 Aj1 hj1 h => ?_)
  refine za [2] ?_
  cases h
  exact aw_ret zr
  refine za [0, 6, 7] ?_
  refine aw_block ?_
  refine aw_loopJ (fun n s => ∃ v3, view_Key_L0 p0 j1 n v3 = some r ∧ s = mk [(0, .c (Sx p0)), (6, .c (I (ByteArray.size p0 : Int))), (7, .c (I v3))] [] 0) n _ (zv [] [0, 6, 7] 0) ⟨_, h, rfl⟩ (fun s ⟨v3, h, _⟩ => nomatch h) ?_
  rintro n s ⟨v3, h, rfl⟩
  rw [view_Key_L0] at h
  refine za [0, 6, 7, 8] ?_
  refine aw_seq ?_
  refine zi h (fun h => ?_) fun h => ?_
  refine aw_skip ?_
  refine aw_seq ?_
  refine aw_block ?_
  refine za [0, 3, 6, 7] ?_
  refine zx fun _ => ?_
  refine zk 2 ?_
  obtain ⟨u4, he, h⟩ := bindE h
  refine zs he ?_
  clear he
  refine zk 1 ?_
  refine ze [0, 4, 6, 7] ?_
  refine zx fun _ => ?_
  refine zk 3 ?_
  refine zE (.c (U8 u4)) ?_
  refine zE (.c (Bo (decide (u4 > 122)))) ?_
  refine zP (.bool ((decide (u4 < 97)) || (decide (u4 > 122)))) ?_
  refine zk 1 ?_
  refine zE (.c (U8 u4)) ?_
  refine zE (.c (Bo (decide (u4 < 65)))) ?_
  refine zF [((decide (u4 < 97)) || (decide (u4 > 122)))] (.c (Bo (decide (u4 < 65)))) ?_
  refine zE (.c (U8 u4)) ?_
  refine zE (.c (Bo (decide (u4 > 90)))) ?_
  refine zP (.bool ((decide (u4 < 65)) || (decide (u4 > 90)))) ?_
  refine zP (.bool (((decide (u4 < 97)) || (decide (u4 > 122))) && ((decide (u4 < 65)) || (decide (u4 > 90))))) ?_
  refine zk 1 ?_
  refine zE (.c (U8 u4)) ?_
  refine zE (.c (Bo (decide (u4 < 48)))) ?_
  refine zF [(((decide (u4 < 97)) || (decide (u4 > 122))) && ((decide (u4 < 65)) || (decide (u4 > 90))))] (.c (Bo (decide (u4 < 48)))) ?_
  refine zE (.c (U8 u4)) ?_
  refine zE (.c (Bo (decide (u4 > 57)))) ?_
  refine zP (.bool ((decide (u4 < 48)) || (decide (u4 > 57)))) ?_
  refine zP (.bool ((((decide (u4 < 97)) || (decide (u4 > 122))) && ((decide (u4 < 65)) || (decide (u4 > 90)))) && ((decide (u4 < 48)) || (decide (u4 > 57))))) ?_
  refine zke 1 (L' := [(0, .c (Sx p0)), (6, .c (I (ByteArray.size p0 : Int))), (7, .c (I v3)), (4, .c (U8 u4)), (13, .c (U8 u4)), (14, .c (Bo (decide (u4 < 97)))), (15, .c (Bo (decide (u4 < 97)))), (16, .cnd [(!(decide (u4 < 97)))] (.c (U8 u4))), (17, .cnd [(!(decide (u4 < 97)))] (.c (Bo (decide (u4 > 122))))), (18, .c (Bo ((decide (u4 < 97)) || (decide (u4 > 122))))), (19, .c (Bo ((decide (u4 < 97)) || (decide (u4 > 122))))), (20, .cnd [((decide (u4 < 97)) || (decide (u4 > 122)))] (.c (U8 u4))), (21, .cnd [((decide (u4 < 97)) || (decide (u4 > 122)))] (.c (Bo (decide (u4 < 65))))), (22, .cnd [((decide (u4 < 97)) || (decide (u4 > 122)))] (.c (Bo (decide (u4 < 65))))), (23, .cnd [((decide (u4 < 97)) || (decide (u4 > 122))), (!(decide (u4 < 65)))] (.c (U8 u4))), (24, .cnd [((decide (u4 < 97)) || (decide (u4 > 122))), (!(decide (u4 < 65)))] (.c (Bo (decide (u4 > 90))))), (25, .cnd [((decide (u4 < 97)) || (decide (u4 > 122)))] (.c (Bo ((decide (u4 < 65)) || (decide (u4 > 90)))))), (26, .c (Bo (((decide (u4 < 97)) || (decide (u4 > 122))) && ((decide (u4 < 65)) || (decide (u4 > 90)))))), (27, .c (Bo (((decide (u4 < 97)) || (decide (u4 > 122))) && ((decide (u4 < 65)) || (decide (u4 > 90)))))), (28, .cnd [(((decide (u4 < 97)) || (decide (u4 > 122))) && ((decide (u4 < 65)) || (decide (u4 > 90))))] (.c (U8 u4))), (29, .cnd [(((decide (u4 < 97)) || (decide (u4 > 122))) && ((decide (u4 < 65)) || (decide (u4 > 90))))] (.c (Bo (decide (u4 < 48))))), (30, .cnd [(((decide (u4 < 97)) || (decide (u4 > 122))) && ((decide (u4 < 65)) || (decide (u4 > 90))))] (.c (Bo (decide (u4 < 48))))), (31, .cnd [(((decide (u4 < 97)) || (decide (u4 > 122))) && ((decide (u4 < 65)) || (decide (u4 > 90)))), (!(decide (u4 < 48)))] (.c (U8 u4))), (32, .cnd [(((decide (u4 < 97)) || (decide (u4 > 122))) && ((decide (u4 < 65)) || (decide (u4 > 90)))), (!(decide (u4 < 48)))] (.c (Bo (decide (u4 > 57))))), (33, .cnd [(((decide (u4 < 97)) || (decide (u4 > 122))) && ((decide (u4 < 65)) || (decide (u4 > 90))))] (.c (Bo ((decide (u4 < 48)) || (decide (u4 > 57)))))), (34, .c (Bo ((((decide (u4 < 97)) || (decide (u4 > 122))) && ((decide (u4 < 65)) || (decide (u4 > 90)))) && ((decide (u4 < 48)) || (decide (u4 > 57)))))), (35, .c (Bo ((((decide (u4 < 97)) || (decide (u4 > 122))) && ((decide (u4 < 65)) || (decide (u4 > 90)))) && ((decide (u4 < 48)) || (decide (u4 > 57))))))]) (G' := []) (X' := []) ?_
  refine zE (.c (U8 u4)) ?_
  refine zE (.c (Bo (u4 != 45))) ?_
  refine zP (.bool (((((decide (u4 < 97)) || (decide (u4 > 122))) && ((decide (u4 < 65)) || (decide (u4 > 90)))) && ((decide (u4 < 48)) || (decide (u4 > 57)))) && (u4 != 45))) ?_
  refine zk 1 ?_
  refine zE (.c (U8 u4)) ?_
  refine zE (.c (Bo (u4 != 95))) ?_
  refine zP (.bool ((((((decide (u4 < 97)) || (decide (u4 > 122))) && ((decide (u4 < 65)) || (decide (u4 > 90)))) && ((decide (u4 < 48)) || (decide (u4 > 57)))) && (u4 != 45)) && (u4 != 95))) ?_
  refine ze [0, 6, 7, 42] ?_
  refine zi h (fun h => ?_) fun h => ?_
  refine za [2] ?_
  cases h
  exact aw_ret zr
  refine aw_skip ?_
  refine aw_out ?_
  refine zb ?_
  exact via (zv [] [0, 6, 7] 0) (⟨_, h, rfl⟩)
  exact aw_views (zv [] [0] 0) (aw_exit (hj1 _ h))
def expr_fields  (n : Nat) (p0 : GValue) : Option Bool := (withJ (fun (v2 : Bool) => (if v2 = true then some ((sEq p0.S (⟨#[]⟩ : ByteArray)) && ((List.length p0.L : Int) == 0)) else (if (p0.Kind == 3) = true then some ((p0.N == 0) && ((List.length p0.L : Int) == 0)) else (if (p0.Kind == 4) = true then some ((p0.N == 0) && (sEq p0.S (⟨#[]⟩ : ByteArray))) else some false)))) (fun (j1 : Bool → Option Bool) => (if (p0.Kind == 1) = true then j1 (p0.Kind == 1) else j1 (p0.Kind == 2))))
theorem expr_fields_ok  (n : Nat) (p0 : GValue) (r : Bool) (h : expr_fields n p0 = some r) : FnD E 107 0 [.agg [I p0.Kind, I p0.N, Sx p0.S, .lit (List.map eGValue p0.L)]] [] (.c (Bo r)) [] := by
  refine zfn Tryd.func107 rfl ?_
  unfold expr_fields at h
  refine za [1] ?_
  refine aw_seq ?_
  refine za [1, 4] ?_
  refine aw_block ?_
  refine aw_join h (fun A j => ∀ v2, j v2 = some r → A (mk [(1, .c (.ptr 0 0)), (4, .c (I p0.Kind)), (5, .c (Bo v2))] [(0, .blk 70 [I p0.Kind, I p0.N, Sx p0.S, .lit (List.map eGValue p0.L)])] 1)) (fun v2 h => ?_) (fun j1 Aj1 hj1 h => ?_)
  refine zi h (fun h => ?_) fun h => ?_
  refine zx fun _ => ?_
  refine zk 4 ?_
  refine zE (.c (.ptr 0 3)) ?_
  refine zE (.c (.lit (List.map eGValue p0.L))) ?_
  refine rx_E (e := [(sEq p0.S (⟨#[]⟩ : ByteArray))]) [(13, .c (.lit (List.map eGValue p0.L)), some 1)] (v := .c (I (List.length p0.L : Int))) (foot := []) (by kernel_rfl) (by kernel_rfl) (by kernel_rfl) (fun hg => rd_len (enc := eGValue) (l := p0.L) (by kernel_rfl)) rfl rfl ?_
  refine zE (.c (Bo ((List.length p0.L : Int) == 0))) ?_
  refine zP (.bool ((sEq p0.S (⟨#[]⟩ : ByteArray)) && ((List.length p0.L : Int) == 0))) ?_
  refine zk 1 ?_
  refine ze [2] ?_
  cases h
  exact aw_ret zr
  refine za [1, 4, 17] ?_
  refine zi h (fun h => ?_) fun h => ?_
  refine zx fun _ => ?_
  refine zk 4 ?_
  refine zE (.c (.ptr 0 3)) ?_
  refine zE (.c (.lit (List.map eGValue p0.L))) ?_
  refine rx_E (e := [(p0.N == 0)]) [(24, .c (.lit (List.map eGValue p0.L)), some 1)] (v := .c (I (List.length p0.L : Int))) (foot := []) (by kernel_rfl) (by kernel_rfl) (by kernel_rfl) (fun hg => rd_len (enc := eGValue) (l := p0.L) (by kernel_rfl)) rfl rfl ?_
  refine zE (.c (Bo ((List.length p0.L : Int) == 0))) ?_
  refine zP (.bool ((p0.N == 0) && ((List.length p0.L : Int) == 0))) ?_
  refine zk 1 ?_
  refine ze [2] ?_
  cases h
  exact aw_ret zr
  refine za [1, 28] ?_
  refine zi h (fun h => ?_) fun h => ?_
  refine zx fun _ => ?_
  refine zk 4 ?_
  refine zE (.c (.ptr 0 2)) ?_
  refine zE (.c (Sx p0.S)) ?_
  refine zE (.c (Bo (sEq p0.S (⟨#[]⟩ : ByteArray)))) ?_
  refine zP (.bool ((p0.N == 0) && (sEq p0.S (⟨#[]⟩ : ByteArray)))) ?_
  refine zk 1 ?_
  refine ze [2] ?_
  cases h
  exact aw_ret zr
  refine aw_skip ?_
  refine za [2] ?_
  cases h
  exact aw_ret zr
  refine za [1, 4, 5] ?_
  refine zi h (fun h => ?_) fun h => ?_
  exact aw_views (zv [(0, 0)] [1, 4, 5] 1) (aw_skip (hj1 _ h))
  refine aw_out ?_
  refine zb ?_
  exact via (zv [(0, 0)] [1, 4, 5] 1) (hj1 _ h)
def expr_within  (n : Nat) (p0 : Int) : Option Bool := some ((decide (p0 ≥ (-1099511627776 : Int))) && (decide (p0 ≤ 1099511627776)))
theorem expr_within_ok  (n : Nat) (p0 : Int) (r : Bool) (h : expr_within n p0 = some r) : FnD E 108 0 [.c (I p0)] [] (.c (Bo r)) [] := by
  refine zfn Tryd.func108 rfl ?_
  unfold expr_within at h
  refine za [0] ?_
  refine zx fun _ => ?_
  refine zk 3 ?_
  refine zE (.c (I p0)) ?_
  refine zE (.c (Bo (decide (p0 ≤ 1099511627776)))) ?_
  refine zP (.bool ((decide (p0 ≥ (-1099511627776 : Int))) && (decide (p0 ≤ 1099511627776)))) ?_
  refine zk 1 ?_
  refine ze [2] ?_
  cases h
  exact aw_ret zr
def expr_listOf  (n : Nat) (p0 : GType) : Option GType := some (GType.mk 4 [p0])
theorem expr_listOf_ok  (n : Nat) (p0 : GType) (r : GType) (h : expr_listOf n p0 = some r) : FnD E 111 0 [.agg [I p0.Kind, .lit (List.map eGType p0.Of)]] [] (.agg [I r.Kind, .lit (List.map eGType r.Of)]) [] := by
  refine zfn Tryd.func111 rfl ?_
  unfold expr_listOf at h
  refine za [1, 2] ?_
  refine zx fun _ => ?_
  refine zk 1 ?_
  refine rx_bs (e := 163) (sz := 2) (len := 1) (r := [I p0.Kind, .lit (List.map eGType p0.Of)]) (l' := List.map eGType [p0]) (nm := 3) (by kernel_rfl) (by simp only [List.map_cons, List.map_nil, eGType_eq]; kernel_rfl) (by kernel_rfl) (by kernel_rfl) rfl rfl rfl ?_
  refine zk 2 ?_
  refine ze [2] ?_
  cases h
  exact aw_ret zr
end Go.Proofs.YtojkihhnioeggaaDoor.S
