/- A cascade with one rule for one kind. -/
import Derived.Test.YtojkihhnioeggaaDoorIn1
import Derived.WalkKit
import Derived.WalkSpells
import Derived.WalkLawsBesides
import Derived.Deep.QuietTactic
import Derived.BigQuiet
import Derived.BigRegion
import Derived.Lib.Hide
import Derived.Deep.RegionWith
set_option linter.unusedSimpArgs false
set_option linter.unusedVariables false
set_option linter.unusedSimpArgs false
set_option linter.unusedVariables false
namespace Go.Proofs.YtojkihhnioeggaaDoor.S
open Go Go.Bm
theorem size_tot (m : GMode) (x : Int) : ∃ r, ∀ n, theme_Size n m x = some r := by
  have : Tot (theme_Size 0 m x) fun _ => True := by
    have hc : ∀ v, Tot ((fixed_Clamp 0 v 1 1000).bind fun y4 => some y4) fun _ => True := fun v => by
      unfold fixed_Clamp
      exact tot_bind (P := fun _ => True) (tot_ite (fun _ => tot_some trivial) fun _ => tot_ite (fun _ => tot_some trivial) fun _ => tot_some trivial) fun _ _ => tot_some trivial
    unfold theme_Size
    refine tot_withJ1 (fun _ => True) (fun v _ => hc v) fun j k => tot_ite (fun _ => ?_) fun _ => k x trivial
    refine tot_bind (P := fun _ => True) ?_ fun y _ => k _ trivial
    unfold fixed_Scale
    refine tot_ite (fun _ => tot_some trivial) fun _ => ?_
    refine tot_bind (P := fun _ => True) ?_ fun y _ => tot_some trivial
    unfold fixed_Round fixed_ok
    refine tot_bind (P := fun _ => True) (tot_some trivial) fun y _ => tot_ite (fun _ => tot_some trivial) fun _ => ?_
    refine tot_withJ2 (fun _ b => b = 100) (fun a b hb => ?_) fun j k => tot_ite (fun hc => by simp at hc) fun _ => k _ _ rfl
    subst hb
    refine tot_bind (P := fun _ => True) ?_ fun y _ => tot_some trivial
    unfold fixed_floor
    rw [show IntKind.wrap .i64 (2 * 100) = 200 by decide, show nz 200 = some 200 from rfl]
    refine tot_bind (P := fun d => d = 200) (tot_some rfl) fun d _ => ?_
    refine tot_withJ1 (fun _ => True) (fun v _ => tot_some trivial) fun j k => tot_bind (P := fun d => d = 200) (tot_some rfl) fun d _ => tot_ite (fun _ => k _ trivial) fun _ => k _ trivial
  obtain ⟨r, hr, _⟩ := this
  exact ⟨r, fun n => hr⟩
def rul (K sz : Int) : GRule := GRule.mk K (⟨#[]⟩ : ByteArray) 0 0 (⟨#[]⟩ : ByteArray) [(GDecl.mk 2 0 sz (⟨#[]⟩ : ByteArray)), (GDecl.mk 9 0 5 (⟨#[]⟩ : ByteArray))]
def dcl (sz : Int) : List (Int × GDecl) := [(2, GDecl.mk 2 0 sz (⟨#[]⟩ : ByteArray)), (9, GDecl.mk 9 0 5 (⟨#[]⟩ : ByteArray))]
def csc (S : Gshape) (K sz : Int) (m : GMode) : Gcascade := Gcascade.mk S [rul K sz] [0] (GTheme.mk ([] : List GToken)) m
theorem valid_rul (n : Nat) (hn : 60 ≤ n) (K sz : Int) (h1 : 1 ≤ K ∧ K ≤ 13) (h2 : 1 ≤ sz ∧ sz ≤ 60) : style_Validate n (GSheet.mk [rul K sz]) = some 0 := by
  obtain ⟨n, rfl⟩ : ∃ m, n = m + 20 := ⟨n - 20, by omega⟩
  have d1 : style_declaration (n + 18) (GDecl.mk 2 0 sz (⟨#[]⟩ : ByteArray)) 0 = some 0 := by
    have c1 : decide (sz ≥ 1) = true := by simp; omega
    have c2 : decide (sz ≤ 1000) = true := by simp; omega
    have e1 : style_InRange (n + 18) 2 sz = some ((decide (sz ≥ 1)) && (decide (sz ≤ 1000))) := by
      have : style_InRange (n + 18) 2 sz = (gd [(decide (sz ≥ 1))] (some (⟨true, 1, 1000, 16⟩ : Gproperty))).bind fun e3 => some ((decide (sz ≥ 1)) && (decide (sz ≤ e3.high))) := by kernel_rfl
      rw [this, c1]
      simp [gd]
    unfold style_declaration withJ
    simp [style_exists, gd, e1, c1, c2, sEq_refl]
  have d2 : style_declaration (n + 17) (GDecl.mk 9 0 5 (⟨#[]⟩ : ByteArray)) 0 = some 0 := by kernel_rfl
  have e : style_Validate (n + 20) (GSheet.mk [rul K sz]) = (if ((((decide (K < 0)) || (decide (K > 13))) || (decide ((0 : Int) < 0))) || (decide ((0 : Int) > 13))) = true then some 9 else (style_declaration (n + 18) (GDecl.mk 2 0 sz (⟨#[]⟩ : ByteArray)) 0).bind fun y => if (y != 0) = true then some y else (style_declaration (n + 17) (GDecl.mk 9 0 5 (⟨#[]⟩ : ByteArray)) 0).bind fun y => if (y != 0) = true then some y else some 0) := by kernel_rfl
  rw [e, d1, d2]
  have c3 : decide (K < 0) = false := by simp; omega
  have c4 : decide (K > 13) = false := by simp; omega
  rw [c3, c4]
  rfl
theorem matches_rul (n : Nat) (S : Gshape) (hS : S.states = []) (K sz i : Int) (hK : 1 ≤ K) : shape_matches n S (rul K sz) i = some (K == (mget i S.nodes).Kind) := by
  have c1 : (K == 0) = false := by rw [beq_eq_false_iff_ne]; omega
  have c2 : bAnd .i64 0 0 = 0 := by decide
  unfold shape_matches shape_under
  simp only [rul, bne, c1, Bool.not_false, gd, List.all_cons, List.all_nil, id, Bool.and_true, if_true, Option.bind_some, sEq_refl, Bool.not_true, Bool.false_and, Bool.or_false, Bool.true_and, hS, mget, Bool.false_eq_true, if_false, Bool.and_false]
  cases hk : (K == ((S.nodes.lookup i).getD default).Kind)
  · rfl
  · simp only [Bool.not_true, Bool.not_false, Bool.false_eq_true, if_false, if_true, List.lookup_nil, Option.getD_none, show (default : Int) = 0 from rfl, c2, beq_self_eq_true, Option.bind_some, Bool.true_and]
theorem choose_rul (n : Nat) (hn : 60 ≤ n) (S : Gshape) (hS : S.states = []) (K sz id : Int) (m : GMode) (hK : 1 ≤ K) : cascade_choose n (csc S K sz m) id = some (if (K == (mget id S.nodes).Kind) = true then dcl sz else []) := by
  obtain ⟨n, rfl⟩ : ∃ m, n = m + 20 := ⟨n - 20, by omega⟩
  have e : cascade_choose (n + 20) (csc S K sz m) id = (shape_matches (n + 19) S (rul K sz) id).bind fun y => if (!y) = true then some [] else some (dcl sz) := by kernel_rfl
  rw [e, matches_rul _ S hS K sz id hK]
  cases (K == (mget id S.nodes).Kind) <;> rfl
def K22 : Int → Int → Int → Int → Int → Int → Int → Int → Int → Int → Int → Int → Int → Int → Int → Int → Int → Int → Int → Int → Int → Int → Option A22_Int := fun v174 v175 v176 v177 v178 v179 v180 v181 v182 v183 v184 v185 v186 v187 v188 v189 v190 v191 v192 v193 v194 v195 => some (A22_Int.mk v174 v175 v176 v177 v178 v179 v180 v181 v182 v183 v184 v185 v186 v187 v188 v189 v190 v191 v192 v193 v194 v195)
theorem sty_root_no (n : Nat) (C : Gcascade) (p : A22_Int) : cascade_style_L0 [] C true p K22 (n + 30) 0 0 0 0 0 0 0 0 0 0 0 0 0 0 0 0 0 0 0 0 0 0 0 = (theme_Size 0 C.m 16).bind fun s => some (A22_Int.mk 0 (-1) s 0 0 1 3 0 0 0 0 1 (-1) 0 1048576 0 1048576 0 0 0 0 0) := by kernel_rfl
theorem sty_root_yes (n : Nat) (C : Gcascade) (p : A22_Int) (sz : Int) : cascade_style_L0 (dcl sz) C true p K22 (n + 30) 0 0 0 0 0 0 0 0 0 0 0 0 0 0 0 0 0 0 0 0 0 0 0 = (theme_Size 0 C.m sz).bind fun s => some (A22_Int.mk 0 (-1) s 0 0 1 3 0 0 5 0 1 (-1) 0 1048576 0 1048576 0 0 0 0 0) := by kernel_rfl
theorem sty_kid_no (n : Nat) (C : Gcascade) (p : A22_Int) : cascade_style_L0 [] C false p K22 (n + 30) 0 0 0 0 0 0 0 0 0 0 0 0 0 0 0 0 0 0 0 0 0 0 0 = some (A22_Int.mk p.x0 (-1) p.x2 p.x3 p.x4 1 3 0 p.x8 0 0 1 (-1) 0 1048576 0 1048576 0 0 0 0 p.x21) := by kernel_rfl
theorem sty_kid_yes (n : Nat) (C : Gcascade) (p : A22_Int) (sz : Int) : cascade_style_L0 (dcl sz) C false p K22 (n + 30) 0 0 0 0 0 0 0 0 0 0 0 0 0 0 0 0 0 0 0 0 0 0 0 = (theme_Size 0 C.m sz).bind fun s => some (A22_Int.mk p.x0 (-1) s p.x3 p.x4 1 3 0 p.x8 5 0 1 (-1) 0 1048576 0 1048576 0 0 0 0 p.x21) := by kernel_rfl
theorem bnd {x : Option Int} {a : Int} {g : Int → A22_Int} (h : x = some a) : (x.bind fun s => some (g s)) = some (g a) := by rw [h]; rfl
/-- what the law asks of a style -/
structure Sty (b g : Int) (s : A22_Int) : Prop where
  x0 : s.x0 = 0
  x1 : s.x1 = -1
  x2 : s.x2 = b
  x9 : s.x9 = g
  x11 : s.x11 = 1
theorem style_rul (n : Nat) (hn : 60 ≤ n) (S : Gshape) (hS : S.states = []) (K sz id : Int) (m : GMode) (hK : 1 ≤ K) {a b : Int} (ha : ∀ n, theme_Size n m 16 = some a) (hb : ∀ n, theme_Size n m sz = some b) (p : A22_Int) (root : Bool) (hp : root = false → p.x0 = 0) :
    ∃ s, cascade_style n (csc S K sz m) id p root = some s ∧ Sty (if (K == (mget id S.nodes).Kind) = true then b else if root = true then a else p.x2) (if (K == (mget id S.nodes).Kind) = true then 5 else 0) s := by
  obtain ⟨n, rfl⟩ : ∃ m, n = m + 30 := ⟨n - 30, by omega⟩
  unfold cascade_style withJ
  rw [choose_rul _ (by omega) S hS K sz id m hK]
  simp only [Option.bind_some]
  cases hk : (K == (mget id S.nodes).Kind) <;> cases root
  · exact ⟨_, sty_kid_no n _ p, hp rfl, rfl, rfl, rfl, rfl⟩
  · exact ⟨_, (sty_root_no n (csc S K sz m) p).trans (bnd (ha 0)), rfl, rfl, rfl, rfl, rfl⟩
  · exact ⟨_, (sty_kid_yes n (csc S K sz m) p sz).trans (bnd (hb 0)), hp rfl, rfl, rfl, rfl, rfl⟩
  · exact ⟨_, (sty_root_yes n (csc S K sz m) p sz).trans (bnd (hb 0)), rfl, rfl, rfl, rfl, rfl⟩
end Go.Proofs.YtojkihhnioeggaaDoor.S
