/- The laws over the plain functions: what a sheet's validation answers (for another family of texts). -/
import Derived.Test.YtojkihhnioeggaaDoorGQ15
import Derived.WalkKit
import Derived.WalkSpells
import Derived.WalkLawsBesides
import Derived.Deep.QuietTactic
import Derived.BigQuiet
import Derived.BigRegion
import Derived.Lib.Hide
import Derived.Deep.RegionWith
set_option linter.unusedSimpArgs false
set_option linter.unusedVariables false
set_option linter.unusedSimpArgs false
set_option linter.unusedVariables false
namespace Go.Proofs.YtojkihhnioeggaaDoor.S
open Go Go.Bm
theorem prop_cases (p : Int) : p < 0 ∨ 22 ≤ p ∨ ∃ k, k ∈ List.range 22 ∧ p = (k : Int) := by
  by_cases h : p < 0
  · exact .inl h
  by_cases h2 : 22 ≤ p
  · exact .inr (.inl h2)
  exact .inr (.inr ⟨p.toNat, by simp; omega, by omega⟩)
theorem rng_in (n : Nat) (q : Int) (k : Nat) (hk : k ∈ List.range 22) : ∃ b, style_InRange n (k : Int) q = some b ∧ ref17_InRange n (k : Int) q = some b := by
  have : k < 22 := by simpa using hk
  have key : ∀ (p lo hi : Int) (e : Gproperty), style_exists n p = some true → idx tab_widgetry_style_properties p = some e → e.low = lo → e.high = hi → ref17_InRange n p q = some ((((true && true) && (decide (q ≥ lo))) && (decide (q ≤ hi)))) → ∃ b, style_InRange n p q = some b ∧ ref17_InRange n p q = some b := fun p lo hi e h1 h2 h3 h4 h5 => by
    subst h3 h4
    refine ⟨_, ?_, h5⟩
    unfold style_InRange
    rw [h1, h2]
    cases hd : decide (q ≥ e.low) <;> simp only [hd, Option.bind_some, gd, List.all_cons, List.all_nil, id, Bool.and_true, Bool.true_and, if_true, Bool.false_eq_true, if_false, Bool.false_and]
  rcases k with _ | _ | _ | _ | _ | _ | _ | _ | _ | _ | _ | _ | _ | _ | _ | _ | _ | _ | _ | _ | _ | _ | k
  iterate 22 exact key _ _ _ _ rfl rfl rfl rfl rfl
  omega
theorem rng (n : Nat) (p q : Int) : ∃ b, style_InRange n p q = some b ∧ ref17_InRange n p q = some b := by
  rcases prop_cases p with h | h | ⟨k, hk, rfl⟩
  · refine ⟨false, ?_, ?_⟩
    · have h1 : decide (p ≥ 0) = false := by simp; omega
      simp [style_InRange, style_exists, gd, h1]
    · have e : ∀ m : Int, 0 ≤ m → (p == m) = false := fun m hm => by simp; omega
      have h1 : decide (p ≥ 0) = false := by simp; omega
      simp [ref17_InRange, withJ, e, h1]
  · refine ⟨false, ?_, ?_⟩
    · have h1 : decide (p < 22) = false := by simp; omega
      simp [style_InRange, style_exists, gd, h1]
    · have e : ∀ m : Int, m < 22 → (p == m) = false := fun m hm => by simp; omega
      have h1 : decide (p < 22) = false := by simp; omega
      simp [ref17_InRange, withJ, e, h1]
  · exact rng_in n q k hk
theorem sidx_some (s : ByteArray) (i : Int) (h0 : 0 ≤ i) (h1 : i < s.size) : ∃ u, sidx s i = some u := by
  unfold sidx
  rw [if_pos h0]
  have : i.toNat < s.size := by omega
  rw [getElem?_pos s i.toNat this]
  exact ⟨_, rfl⟩
theorem idx_some {α : Type} (l : List α) (i : Int) (h0 : 0 ≤ i) (h1 : i < l.length) : ∃ u, idx l i = some u ∧ u ∈ l := by
  unfold idx
  rw [if_pos h0]
  have : i.toNat < l.length := by omega
  exact ⟨l[i.toNat], by rw [List.getElem?_eq_getElem this], List.getElem_mem this⟩
theorem gd_t {α : Type} [Inhabited α] {b : Bool} {x : Option α} (h : b = true) : gd [b] x = x := by simp [gd, h]
theorem gd_f {α : Type} [Inhabited α] {b : Bool} {x : Option α} (h : b = false) : gd [b] x = some default := by simp [gd, h]
theorem name_loop (s : ByteArray) (hs : s.size ≤ 24) (j : Unit → Option Bool) (hj : ∃ b, j () = some b) : ∀ (k : Nat) (v : Int), v = (s.size : Int) - k → 1 ≤ v → ∃ x, ∀ n, k < n → expr_Name_L0 s j n v = some x ∧ ref11_Name_L0 s j n v = some x
  | 0, v, hv, _ => by
    obtain ⟨b, hb⟩ := hj
    refine ⟨b, fun n hn => ?_⟩
    obtain ⟨n, rfl⟩ : ∃ m, n = m + 1 := ⟨n - 1, by omega⟩
    exact ⟨by rw [expr_Name_L0, if_neg (by simp; omega), hb], by rw [ref11_Name_L0, if_neg (by simp; omega), hb]⟩
  | k + 1, v, hv, h1 => by
    obtain ⟨x, hx⟩ := name_loop s hs j hj k (v + 1) (by omega) (by omega)
    have hw : IntKind.wrap .i64 (v + 1) = v + 1 := Go.Bm.wrap_small (by omega) (by omega)
    obtain ⟨u, hu⟩ := sidx_some s v (by omega) (by omega)
    have hv0 : (v == 0) = false := by simp; omega
    have key : (∃ x, ∀ n, k < n → (if ((!((decide (u ≥ 97) && decide (u ≤ 122)) || (decide (u ≥ 65) && decide (u ≤ 90)))) && ((((decide (u < 48)) || (decide (u > 57))) && (u != 45)) && (u != 95))) = true then some false else expr_Name_L0 s j n (v + 1)) = some x ∧ (if ((!((decide (u ≥ 97) && decide (u ≤ 122)) || (decide (u ≥ 65) && decide (u ≤ 90)))) && ((((decide (u < 48)) || (decide (u > 57))) && (u != 45)) && (u != 95))) = true then some false else ref11_Name_L0 s j n (v + 1)) = some x) := by
      split
      · exact ⟨false, fun n hn => ⟨rfl, rfl⟩⟩
      · exact ⟨x, hx⟩
    obtain ⟨y, hy⟩ := key
    refine ⟨y, fun n hn => ?_⟩
    obtain ⟨n, rfl⟩ : ∃ m, n = m + 1 := ⟨n - 1, by omega⟩
    obtain ⟨hy1, hy2⟩ := hy n (by omega)
    rw [expr_Name_L0, ref11_Name_L0, if_pos (by simp; omega), if_pos (by simp; omega)]
    simp only [hu, Option.bind_some, ref11_letter, hw, hv0, Bool.false_or]
    refine ⟨hy1, ?_⟩
    rw [← hy2]
    generalize ((decide (u ≥ 97) && decide (u ≤ 122)) || (decide (u ≥ 65) && decide (u ≤ 90))) = L
    cases L
    · by_cases h1 : u < 48
      · have h1' : ¬ 48 ≤ u := by omega
        by_cases h3 : u = 45
        · subst h3; simp [gd]
        · have h4 : ¬ u = 95 := by omega
          simp [gd, h1, h1', h3, h4]
      · have h1' : 48 ≤ u := by omega
        by_cases h2 : u > 57
        · have h3 : ¬ u = 45 := by omega
          by_cases h4 : u = 95
          · subst h4; simp [gd]
          · simp [gd, h1, h1', h2, h3, h4]
        · have h3 : ¬ u = 45 := by omega
          have h2' : ¬ 57 < u := by omega
          simp [gd, h1, h1', h2, h2', h3]
    · simp [gd]
theorem name (s : ByteArray) : ∃ x, ∀ n, 26 ≤ n → expr_Name n s = some x ∧ ref11_Name n s = some x := by
  by_cases h0 : s.size = 0
  · refine ⟨false, fun n hn => ⟨?_, ?_⟩⟩
    · rw [expr_Name, if_pos (by simp [h0])]
    · unfold ref11_Name
      simp [gd, h0]
  by_cases h1 : (s.size : Int) > 24
  · refine ⟨false, fun n hn => ⟨?_, ?_⟩⟩
    · rw [expr_Name, if_pos (by simp [h1])]
    · unfold ref11_Name
      have h1' : 24 < (s.size : Int) := by omega
      have h2' : ¬ (s.size : Int) ≤ 24 := by omega
      simp [gd, h1', h2']
  have c1 : decide ((s.size : Int) < 1) = false := by simp; omega
  have c2 : decide ((s.size : Int) > 24) = false := by simp; omega
  have c3 : ((s.size : Int) == 0) = false := by rw [beq_eq_false_iff_ne]; omega
  obtain ⟨u, hu⟩ := sidx_some s 0 (by omega) (by omega)
  obtain ⟨x, hx⟩ := name_loop s (by omega) (fun _ => some true) ⟨true, rfl⟩ (s.size - 1) 1 (by omega) (by omega)
  refine ⟨if (decide (u ≥ 97) && decide (u ≤ 122) || decide (u ≥ 65) && decide (u ≤ 90)) = true then x else false, fun n hn => ?_⟩
  unfold expr_Name ref11_Name
  simp only [c1, c2, c3, Bool.or_self, Bool.not_false, Bool.false_eq_true, if_false, gd, List.all_cons, List.all_nil, id, Bool.and_true, if_true, hu, Option.bind_some, ref11_letter, Bool.false_or]
  unfold withJ
  obtain ⟨m, rfl⟩ : ∃ m, n = m + 1 := ⟨n - 1, by omega⟩
  have hw : IntKind.wrap .i64 (0 + 1) = 1 := by decide
  have e0 : expr_Name_L0 s (fun _ => some true) (m + 1) 0 = if ((!((decide (u ≥ 97) && decide (u ≤ 122)) || (decide (u ≥ 65) && decide (u ≤ 90))))) = true then some false else expr_Name_L0 s (fun _ => some true) m 1 := by
    rw [expr_Name_L0, if_pos (by simp; omega)]
    simp only [hu, Option.bind_some, hw, beq_self_eq_true, Bool.true_or, Bool.and_true]
  show expr_Name_L0 s (fun _ => some true) (m + 1) 0 = _ ∧ (if _ then _ else ref11_Name_L0 s (fun _ => some true) (m + 1) 1) = _
  rw [e0]
  generalize (decide (u ≥ 97) && decide (u ≤ 122) || decide (u ≥ 65) && decide (u ≤ 90)) = L
  cases L
  · exact ⟨by simp, by simp⟩
  · have h1 := (hx m (by omega)).1
    have h2 := (hx (m + 1) (by omega)).2
    exact ⟨by simpa using h1, by simpa using h2⟩
theorem decl (r : GRule) (d : GDecl) : ∃ x, ∀ n, 26 ≤ n → style_declaration n d r.States = some x ∧ ref17_declaration n r d = some x := by
  obtain ⟨b, hb⟩ := name d.Token
  obtain ⟨c, hc, hc2⟩ := rng 0 d.Prop_ d.N
  have hr : ∀ n, style_InRange n d.Prop_ d.N = some c ∧ ref17_InRange n d.Prop_ d.N = some c := fun n => ⟨hc, hc2⟩
  refine ⟨if (decide (d.Prop_ < 0) || decide (d.Prop_ ≥ 22)) = true then 1 else if ((((decide (d.Source < 0)) || (decide (d.Source > 3))) || ((d.N != 0) && (d.Source != 0))) || ((!(sEq d.Token (⟨#[]⟩ : ByteArray))) && (d.Source != 1))) = true then 9 else if ((d.Source == 0) && !c) = true then 1 else if ((d.Source == 1) && !b) = true then 4 else if (((d.Prop_ == 5) || (d.Prop_ == 21)) && ((bAnd .i64 r.States 7) != 0)) = true then 13 else 0, fun n hn => ?_⟩
  obtain ⟨hb1, hb2⟩ := hb n hn
  obtain ⟨hr1, hr2⟩ := hr n
  have hex : style_exists n d.Prop_ = some (!(decide (d.Prop_ < 0) || decide (d.Prop_ ≥ 22))) := by
    unfold style_exists
    congr 1
    by_cases h1 : d.Prop_ < 0 <;> by_cases h2 : d.Prop_ ≥ 22 <;> simp [h1, h2] <;> omega
  unfold style_declaration ref17_declaration
  rw [hex]
  simp only [Option.bind_some, hr1, hr2, hb1, hb2, Bool.not_not]
  generalize (decide (d.Prop_ < 0) || decide (d.Prop_ ≥ 22)) = E1
  generalize (decide (d.Source < 0) || decide (d.Source > 3)) = A1
  generalize (d.N != 0 && d.Source != 0) = A2
  generalize ((!(sEq d.Token (⟨#[]⟩ : ByteArray))) && (d.Source != 1)) = A3
  generalize (d.Source == 0) = S0
  generalize (d.Source == 1) = S1
  generalize (((d.Prop_ == 5) || (d.Prop_ == 21)) && ((bAnd .i64 r.States 7) != 0)) = P1
  unfold withJ
  cases E1 <;> cases A1 <;> cases A2 <;> cases A3 <;> cases S0 <;> cases S1 <;> cases P1 <;> cases b <;> cases c <;> simp [gd]
theorem val_L1 (e : GRule) (p : GSheet) (w : Int) (j1 j2 : Unit → Option Int) (K : Nat) (hj : ∃ x, j1 () = some x ∧ j2 () = some x) (hl : e.Decls.length ≤ 50) : ∀ (k : Nat) (v : Int), v = (e.Decls.length : Int) - k → 0 ≤ v → ∃ x, ∀ n, k + 27 ≤ n → style_Validate_L1 e j1 p w n v = some x ∧ ref17_Validate_L1 e j2 w p n v = some x
  | 0, v, hv, _ => by
    obtain ⟨b, hb, hb2⟩ := hj
    refine ⟨b, fun n hn => ?_⟩
    obtain ⟨n, rfl⟩ : ∃ m, n = m + 1 := ⟨n - 1, by omega⟩
    exact ⟨by rw [style_Validate_L1, if_neg (by simp; omega), hb], by rw [ref17_Validate_L1, if_neg (by simp; omega), hb2]⟩
  | k + 1, v, hv, h1 => by
    obtain ⟨x, hx⟩ := val_L1 e p w j1 j2 K hj hl k (v + 1) (by omega) (by omega)
    have hw : IntKind.wrap .i64 (v + 1) = v + 1 := Go.Bm.wrap_small (by omega) (by omega)
    obtain ⟨d, hd, _⟩ := idx_some e.Decls v h1 (by omega)
    obtain ⟨y, hy⟩ := decl e d
    refine ⟨if (y != 0) = true then y else x, fun n hn => ?_⟩
    obtain ⟨n, rfl⟩ : ∃ m, n = m + 1 := ⟨n - 1, by omega⟩
    obtain ⟨hy1, hy2⟩ := hy n (by omega)
    obtain ⟨hx1, hx2⟩ := hx n (by omega)
    have f1 : style_Validate_L1 e j1 p w (n + 1) v = if (y != 0) = true then some y else some x := by
      rw [style_Validate_L1, if_pos (by simp; omega)]
      simp only [hd, Option.bind_some, hy1, hw, hx1]
    have f2 : ref17_Validate_L1 e j2 w p (n + 1) v = if (y != 0) = true then some y else some x := by
      rw [ref17_Validate_L1, if_pos (by simp; omega)]
      simp only [hd, Option.bind_some, hy2, hw, hx2]
    rw [f1, f2]
    cases (y != 0) <;> simp
theorem val_L0 (p : GSheet) (j1 j2 : Unit → Option Int) (hj : ∃ x, j1 () = some x ∧ j2 () = some x) (hl : p.Rules.length ≤ 100) : ∀ (k : Nat) (v : Int), v = (p.Rules.length : Int) - k → 0 ≤ v → ∃ x, ∀ n, k + 80 ≤ n → style_Validate_L0 p j1 n v = some x ∧ ref17_Validate_L0 p j2 n v = some x
  | 0, v, hv, _ => by
    obtain ⟨b, hb, hb2⟩ := hj
    refine ⟨b, fun n hn => ?_⟩
    obtain ⟨n, rfl⟩ : ∃ m, n = m + 1 := ⟨n - 1, by omega⟩
    exact ⟨by rw [style_Validate_L0, if_neg (by simp; omega), hb], by rw [ref17_Validate_L0, if_neg (by simp; omega), hb2]⟩
  | k + 1, v, hv, h1 => by
    obtain ⟨x, hx⟩ := val_L0 p j1 j2 hj hl k (v + 1) (by omega) (by omega)
    have hw : IntKind.wrap .i64 (v + 1) = v + 1 := Go.Bm.wrap_small (by omega) (by omega)
    obtain ⟨e, he, _⟩ := idx_some p.Rules v h1 (by omega)
    obtain ⟨b1, hb1⟩ := name e.Class
    obtain ⟨b2, hb2⟩ := name e.UnderClass
    obtain ⟨y, hy⟩ : ∃ y, ∀ n, k + 80 ≤ n → e.Decls.length ≤ 50 → style_Validate_L1 e (fun _ => style_Validate_L0 p j1 n (v + 1)) p v n 0 = some y ∧ ref17_Validate_L1 e (fun _ => ref17_Validate_L0 p j2 n (v + 1)) v p n 0 = some y := by
      by_cases hd : e.Decls.length ≤ 50
      · obtain ⟨y, hy⟩ := val_L1 e p v (fun _ => some x) (fun _ => some x) 0 ⟨x, rfl, rfl⟩ hd e.Decls.length 0 (by omega) (Int.le_refl _)
        refine ⟨y, fun n hn _ => ?_⟩
        obtain ⟨hx1, hx2⟩ := hx n hn
        rw [show (fun _ : Unit => style_Validate_L0 p j1 n (v + 1)) = fun _ => some x from funext fun _ => hx1, show (fun _ : Unit => ref17_Validate_L0 p j2 n (v + 1)) = fun _ => some x from funext fun _ => hx2]
        exact hy n (by omega)
      · exact ⟨0, fun n _ h => absurd h hd⟩
    refine ⟨if ((((decide (e.Kind < 0)) || (decide (e.Kind > 13))) || (decide (e.UnderKind < 0))) || (decide (e.UnderKind > 13))) = true then 9 else if (((!(sEq e.Class (⟨#[]⟩ : ByteArray))) && (!b1)) || ((!(sEq e.UnderClass (⟨#[]⟩ : ByteArray))) && (!b2))) = true then 4 else if ((decide (e.States < 0)) || (decide (e.States > 31))) = true then 1 else if (decide ((List.length e.Decls : Int) > 50)) = true then 2 else y, fun n hn => ?_⟩
    obtain ⟨n, rfl⟩ : ∃ m, n = m + 1 := ⟨n - 1, by omega⟩
    obtain ⟨p1, p2⟩ := hb1 n (by omega)
    obtain ⟨q1, q2⟩ := hb2 n (by omega)
    have f1 := style_Validate_L0.eq_2 p j1 v n
    have f2 := ref17_Validate_L0.eq_2 p j2 v n
    rw [if_pos (by simp; omega)] at f1 f2
    unfold withJ at f1 f2
    simp only [he, Option.bind_some, p1, p2, q1, q2, hw] at f1 f2
    show style_Validate_L0 p j1 (n + 1) v = _ ∧ ref17_Validate_L0 p j2 (n + 1) v = _
    rw [f1, f2]
    clear f1 f2
    generalize ((((decide (e.Kind < 0)) || (decide (e.Kind > 13))) || (decide (e.UnderKind < 0))) || (decide (e.UnderKind > 13))) = K1
    generalize (!(sEq e.Class (⟨#[]⟩ : ByteArray))) = C1
    generalize (!(sEq e.UnderClass (⟨#[]⟩ : ByteArray))) = C2
    generalize ((decide (e.States < 0)) || (decide (e.States > 31))) = S1
    by_cases hd : (e.Decls.length : Int) > 50
    · cases K1 <;> cases C1 <;> cases C2 <;> cases S1 <;> cases b1 <;> cases b2 <;> simp [gd, hd]
    · obtain ⟨y1, y2⟩ := hy n (by omega) (by omega)
      have hd' : (e.Decls.length : Int) ≤ 50 := by omega
      cases K1 <;> cases C1 <;> cases C2 <;> cases S1 <;> cases b1 <;> cases b2 <;> simp [gd, hd, hd', y1, y2]
theorem val (p : GSheet) : ∃ x, ∀ n, 180 ≤ n → style_Validate n p = some x ∧ ref17_Validate n p = some x := by
  by_cases h : (p.Rules.length : Int) > 100
  · exact ⟨2, fun n _ => ⟨by rw [style_Validate, if_pos (by simpa using h)], by rw [ref17_Validate, if_pos (by simpa using h)]⟩⟩
  · obtain ⟨x, hx⟩ := val_L0 p (fun _ => some 0) (fun _ => some 0) ⟨0, rfl, rfl⟩ (by omega) p.Rules.length 0 (by omega) (Int.le_refl _)
    refine ⟨x, fun n hn => ?_⟩
    obtain ⟨h1, h2⟩ := hx n (by omega)
    exact ⟨by rw [style_Validate, if_neg (by simpa using h)]; exact h1, by rw [ref17_Validate, if_neg (by simpa using h)]; exact h2⟩
set_option maxRecDepth 1000000 in
theorem awake_true2 : law17_awake 200 = some true := by kernel_rfl
end Go.Proofs.YtojkihhnioeggaaDoor.S
