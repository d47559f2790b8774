/- The plain law of the protocol. The protocol: what lies where. -/
import Derived.Test.YtendgmnbnnkpnaaUQ
import Derived.Test.YtendgmnbnnkpnaaWA
import Derived.Test.YtendgmnbnnkpnaaVQ
import Derived.Test.YtendgmnbnnkpnaaVC
import Derived.WalkKit
import Derived.WalkSpells
import Derived.WalkLawsBesides
import Derived.Deep.QuietTactic
import Derived.BigQuiet
import Derived.BigRegion
import Derived.Lib.Hide
import Derived.Deep.RegionWith
set_option linter.unusedSimpArgs false
set_option linter.unusedVariables false
namespace Go.Proofs.Ytendgmnbnnkpnaa.G
def Mine (r : Rec) (p : Int) (g : Ges) : Prop := g.Kind = r.Kind ∧ g.Node = r.Node ∧ g.Phase = p
/-- what a Feed can do -/
def Step (r : Rec) (q : Rec × Int × List Ges) : Prop :=
  q.1.Kind = r.Kind ∧ q.1.Node = r.Node ∧
  ((q.2.1 = 0 ∧ q.2.2 = [] ∧ (q.1.State = r.State ∨ (r.State = 0 ∧ q.1.State = 1)) ∧ q.1.Count = r.Count) ∨
   (q.1.State = 4 ∧ q.2.2 = [] ∧ (q.2.1 = 0 ∨ q.2.1 = 2) ∧ r.State ≠ 4) ∨
   (r.Kind = 2 ∧ r.Count = 0 ∧ q.1.Count = 1 ∧ q.1.State = r.State ∧ q.2.1 = 3 ∧ q.2.2 = [] ∧ r.State ≠ 4) ∨
   (q.1.State = 2 ∧ r.State ≤ 1 ∧ (q.2.1 = 1 ∨ (q.2.1 = 0 ∧ cont r.Kind = false)) ∧ q.2.2 = [] ∧ q.1.Count = r.Count) ∨
   (r.State = 3 ∧ cont r.Kind = false ∧ q.1.State = 4 ∧ q.2.1 = 0 ∧ ∃ g, q.2.2 = [g] ∧ Mine r 1 g) ∨
   (r.State = 3 ∧ r.Count = 0 ∧ cont r.Kind = true ∧ q.1.State = 3 ∧ q.1.Count = 1 ∧ q.2.1 = 0 ∧ ∃ b c, q.2.2 = [b, c] ∧ Mine r 2 b ∧ Mine r 3 c) ∨
   (r.State = 3 ∧ r.Count = 1 ∧ cont r.Kind = true ∧ q.1.State = 3 ∧ q.1.Count = 1 ∧ q.2.1 = 0 ∧ ∃ c, q.2.2 = [c] ∧ Mine r 3 c) ∨
   (r.State = 3 ∧ r.Count = 1 ∧ cont r.Kind = true ∧ q.1.State = 4 ∧ q.2.1 = 0 ∧ ∃ l, q.2.2 = [l] ∧ (Mine r 4 l ∨ Mine r 5 l)))
theorem stageG_at (r : Rec) (p : Int) : Mine r p (stageG r p) := by
  unfold stageG
  split
  · exact ⟨rfl, rfl, rfl⟩
  · split <;> exact ⟨rfl, rfl, rfl⟩
  · exact ⟨rfl, rfl, rfl⟩
theorem step_stay (r : Rec) : Step r (r, 0, []) := ⟨rfl, rfl, .inl ⟨rfl, rfl, .inl rfl, rfl⟩⟩
theorem step_fail {r : Rec} (h : r.State ≠ 4) : Step r (fail r) := by
  refine ⟨rfl, rfl, .inr (.inl ⟨rfl, rfl, ?_, h⟩)⟩
  unfold fail
  simp only
  split
  · exact .inr rfl
  · exact .inl rfl
theorem step_succeed {r : Rec} (s : Smp) (a : Int) (h : r.State = 3 ∨ r.State ≤ 1) (hk : cont r.Kind = false) (ha : a = 1 ∨ a = 0) : Step r (succeed r s a) := by
  unfold succeed
  split
  · rename_i h3
    exact ⟨rfl, rfl, .inr (.inr (.inr (.inr (.inl ⟨h3, hk, rfl, rfl, _, rfl, rfl, rfl, rfl⟩))))⟩
  · rename_i h3
    exact ⟨rfl, rfl, .inr (.inr (.inr (.inl ⟨rfl, h.resolve_left h3, ha.imp id (fun h => ⟨h, hk⟩), rfl, rfl⟩)))⟩
theorem step_still {r : Rec} (e : Ev) (h : r.State = 3 ∨ r.State ≤ 1) (hk : r.Kind ≤ 3) : Step r (still r e) := by
  have h4 : r.State ≠ 4 := by omega
  have hc : cont r.Kind = false := by simp [cont, btw]; omega
  unfold still
  split
  · exact step_stay r
  · split
    · exact step_fail h4
    · split
      · exact step_stay r
      · split
        · exact step_fail h4
        · split
          · rename_i h2
            exact ⟨rfl, rfl, .inr (.inr (.inl ⟨h2.1, h2.2, rfl, rfl, rfl, rfl, h4⟩))⟩
          · exact step_succeed (smp e) _ h hc (by split <;> simp)
theorem step_throw {r : Rec} (e : Ev) (h : r.State = 3 ∨ r.State ≤ 1) (hk : r.Kind = 8) : Step r (throw_ r e) := by
  have h4 : r.State ≠ 4 := by omega
  have hc : cont r.Kind = false := by simp [cont, btw]; omega
  unfold throw_
  split
  · exact step_stay r
  · split
    · exact step_stay r
    · simp only
      split
      · exact step_fail h4
      · exact step_succeed (smp e) 1 h hc (.inl rfl)
theorem step_slide {r : Rec} (e : Ev) (h : r.State ≠ 4) (hk : cont r.Kind = true) (hc : r.Count = 0 ∨ r.Count = 1) : Step r (slide r e) := by
  unfold slide
  simp only
  split
  · split
    · rename_i hm
      simp only [decide_eq_true_eq] at hm
      exact ⟨rfl, rfl, .inr (.inr (.inr (.inr (.inr (.inr (.inr ⟨hm.1, hm.2, hk, rfl, rfl, _, rfl, .inl (stageG_at r 4)⟩))))))⟩
    · exact step_fail h
  · split
    · rename_i hm
      simp only [decide_eq_true_eq] at hm
      exact ⟨rfl, rfl, .inr (.inr (.inr (.inr (.inr (.inr (.inl ⟨hm.1, hm.2, hk, hm.1, hm.2, rfl, _, rfl, stageG_at r 3⟩))))))⟩
    · rename_i hm
      simp only [decide_eq_true_eq, not_and] at hm
      split
      · rename_i h13
        split
        · exact step_fail h
        · split
          · split
            · rename_i h1
              exact ⟨rfl, rfl, .inr (.inr (.inr (.inl ⟨rfl, Int.le_of_eq h1, .inl rfl, rfl, rfl⟩)))⟩
            · rename_i h1
              have h3 := h13.resolve_left h1
              exact ⟨rfl, rfl, .inr (.inr (.inr (.inr (.inr (.inl ⟨h3, hc.resolve_right (hm h3), hk, h3, rfl, rfl, _, _, rfl, stageG_at r 2, stageG_at r 3⟩)))))⟩
          · exact step_stay r
      · exact step_stay r
theorem step_down {r : Rec} (e : Ev) (h : r.State ≠ 4) : Step r (down r e) := by
  unfold down
  split
  · exact step_fail h
  · split
    · exact step_fail h
    · split
      · exact step_stay r
      · refine ⟨rfl, rfl, .inl ⟨rfl, rfl, ?_, rfl⟩⟩
        simp only
        split
        · rename_i h0; exact .inr ⟨h0, rfl⟩
        · exact .inl rfl
theorem step_process {r : Rec} (e : Ev) (hd : deaf r = false) (hr : ROk r) : Step r (process r e) := by
  have hs := hr.state
  have hco := hr.count
  have hkd := hr.kind
  simp only [deaf, Bool.or_eq_false_iff, decide_eq_false_iff_not, Bool.and_eq_false_iff, Bool.not_eq_false'] at hd
  obtain ⟨h4, h2⟩ := hd
  have hnc : cont r.Kind = false → (r.State = 3 ∨ r.State ≤ 1) := fun hc => by
    rcases h2 with h2 | h2
    · omega
    · rw [hc] at h2; cases h2
  unfold process
  split
  · exact step_stay r
  · split
    · split
      · exact step_down e h4
      · exact step_stay r
    · rename_i i hfi
      split
      · exact step_stay r
      · split
        · split
          · rename_i h3
            unfold abort
            simp only
            split
            · rename_i hc
              exact ⟨rfl, rfl, .inr (.inr (.inr (.inr (.inr (.inr (.inr ⟨h3, hc.2.1, hc.2.2, rfl, rfl, _, rfl, .inr (stageG_at r 5)⟩))))))⟩
            · exact ⟨rfl, rfl, .inr (.inl ⟨rfl, rfl, .inl rfl, h4⟩)⟩
          · exact step_fail h4
        · simp only
          split
          · rename_i hk
            have := step_still (r := { r with Ts := follow r.Ts i (smp e) }) e (hnc (by simp [cont, btw]; omega)) hk
            exact this
          · split
            · rename_i hk
              have := step_throw (r := { r with Ts := follow r.Ts i (smp e) }) e (hnc (by simp [cont, btw]; omega)) hk
              exact this
            · have := step_slide (r := { r with Ts := follow r.Ts i (smp e) }) e h4 (by simp [cont, btw]; omega) (by simp only; omega)
              exact this
theorem step_feed {r : Rec} (e : Ev) (hr : ROk r) : Step r (feed r e) := by
  unfold feed
  split
  · exact step_stay r
  · rename_i hv
    have hd : deaf r = false := by
      cases h : deaf r
      · rfl
      · rw [h] at hv; simp at hv
    have h4 : r.State ≠ 4 := by
      intro h; simp [deaf, h] at hd
    split
    · split
      · split
        · exact step_fail h4
        · exact step_process e hd hr
      · split
        · exact step_fail h4
        · exact step_process e hd hr
    · split
      · rename_i hk
        split
        · split
          · exact step_process e hd hr
          · have hs := hr.state
            have hc : cont r.Kind = false := by simp [cont, btw]; omega
            simp only [deaf, hc, Bool.or_eq_false_iff, decide_eq_false_iff_not, Bool.and_eq_false_iff, Bool.not_eq_false'] at hd
            exact step_succeed _ 1 (by rcases hd.2 with h | h; omega; cases h) hc (.inl rfl)
        · exact step_process e hd hr
      · exact step_process e hd hr
/-- a drag that goes on -/
def Run (out : List Ges) : Prop := out ≠ [] ∧ ∀ i g, out[i]? = some g → (i = 0 → g.Phase = 2) ∧ (0 < i → g.Phase = 3)
def Form (out : List Ges) : Prop := ∀ i g, out[i]? = some g → (g.Phase = 2 ↔ i = 0) ∧ (0 < i → i + 1 < out.length → g.Phase = 3)
theorem form_nil : Form [] := fun i g h => by simp at h
theorem Run.form {out : List Ges} (h : Run out) : Form out := fun i g hg => by
  obtain ⟨h0, h1⟩ := h.2 i g hg
  refine ⟨⟨fun h2 => ?_, h0⟩, fun hi _ => h1 hi⟩
  by_cases hi : i = 0
  · exact hi
  · have := h1 (by omega); omega
theorem run_two {b c : Ges} (hb : b.Phase = 2) (hc : c.Phase = 3) : Run [b, c] := by
  refine ⟨by simp, fun i g hg => ?_⟩
  match i with
  | 0 => simp at hg; subst hg; exact ⟨fun _ => hb, fun h => by omega⟩
  | 1 => simp at hg; subst hg; exact ⟨fun h => by omega, fun _ => hc⟩
  | i + 2 => simp at hg
theorem snoc_get {out : List Ges} {c g : Ges} {i : Nat} (h : (out ++ [c])[i]? = some g) : out[i]? = some g ∨ (i = out.length ∧ g = c) := by
  by_cases hi : i < out.length
  · rw [List.getElem?_append_left hi] at h; exact .inl h
  · rw [List.getElem?_append_right (by omega)] at h
    have : i - out.length = 0 := by
      by_cases h0 : i - out.length = 0
      · exact h0
      · rw [List.getElem?_eq_none (by simp; omega)] at h; cases h
    rw [this] at h
    simp at h
    exact .inr ⟨by omega, h.symm⟩
theorem Run.snoc {out : List Ges} {c : Ges} (h : Run out) (hc : c.Phase = 3) : Run (out ++ [c]) := by
  refine ⟨by simp, fun i g hg => ?_⟩
  have hl := List.length_pos_iff.2 h.1
  rcases snoc_get hg with h1 | ⟨rfl, rfl⟩
  · exact h.2 i g h1
  · exact ⟨fun h => by omega, fun _ => hc⟩
theorem Run.last {out : List Ges} {c : Ges} (h : Run out) (hc : c.Phase ≠ 2) : Form (out ++ [c]) := by
  intro i g hg
  have hl := List.length_pos_iff.2 h.1
  rcases snoc_get hg with h1 | ⟨rfl, rfl⟩
  · obtain ⟨h2, h3⟩ := h.form i g h1
    exact ⟨h2, fun hi _ => (h.2 i g h1).2 hi⟩
  · exact ⟨⟨fun h => absurd h hc, fun h => by omega⟩, fun _ h => by simp at h⟩
/-- what holds while the law runs -/
structure PInv (k : Int) (r : Rec) (c1 c2 c3 : Int) (won : Bool) (out : List Ges) : Prop where
  kind : r.Kind = k
  node : r.Node = 7
  st : 0 ≤ r.State ∧ r.State ≤ 4
  fr : cont k = true → r.State ≤ 1 → r.Count = 0
  a1 : c1 = 0 ∨ (c1 = 1 ∧ 3 ≤ r.State)
  a2 : c2 = 0 ∨ (c2 = 1 ∧ r.State = 4)
  a3 : c3 = 0 ∨ (c3 = 1 ∧ (r.Count = 1 ∨ r.State = 4))
  w : r.State = 3 → won = true
  mine : ∀ g, g ∈ out → g.Kind = k ∧ g.Node = 7
  nc : cont k = false → out = [] ∨ (r.State = 4 ∧ ∃ g, out = [g] ∧ g.Phase = 1)
  n2 : cont k = true → r.State ≠ 2
  cr : cont k = true → r.State = 3 → r.Count = 1 → Run out
  c0 : cont k = true → r.State ≠ 4 → ¬(r.State = 3 ∧ r.Count = 1) → out = []
  c4 : cont k = true → Form out
theorem onceG_at (r : Rec) : Mine r 1 (onceG r) := ⟨rfl, rfl, rfl⟩
theorem mine_app {k : Int} {out : List Ges} {l : List Ges} (h : ∀ g, g ∈ out → g.Kind = k ∧ g.Node = 7) (h' : ∀ g, g ∈ l → g.Kind = k ∧ g.Node = 7) : ∀ g, g ∈ out ++ l → g.Kind = k ∧ g.Node = 7 := fun g hg => (List.mem_append.1 hg).elim (h g) (h' g)
theorem pinv_win {k : Int} {r : Rec} {c1 c2 c3 : Int} {won : Bool} {out : List Ges} (h : PInv k r c1 c2 c3 won out) : PInv k (win r).1 c1 c2 c3 true (out ++ (win r).2) := by
  obtain ⟨hk, hn, hst, hfr, h1, h2, h3, hw, hm, hnc, hn2, hcr, hc0, hc4⟩ := h
  unfold win
  split
  · rename_i hs
    have hcf : cont r.Kind = false := by
      cases hc : cont r.Kind
      · rfl
      · rw [hk] at hc; exact absurd hs (hn2 hc)
    rw [if_neg (by simp [hcf])]
    rw [hk] at hcf
    have hout : out = [] := (hnc hcf).elim id (fun h => by omega)
    subst hout
    refine ⟨hk, hn, by simp [over], by simp [over], h1.imp id (fun h => ⟨h.1, by simp [over]⟩), h2.imp id (fun h => ⟨h.1, rfl⟩), h3.imp id (fun h => ⟨h.1, .inr rfl⟩), fun _ => rfl, ?_, fun _ => .inr ⟨rfl, _, rfl, rfl⟩, ?_, ?_, ?_, ?_⟩
    · intro g hg
      simp at hg
      subst hg
      exact ⟨hk, hn⟩
    all_goals (intro hc; rw [hcf] at hc; cases hc)
  · split
    · rename_i h01
      simp only [List.append_nil]
      refine ⟨hk, hn, by simp, by simp, h1.imp id (fun h => ⟨h.1, by simp⟩), h2.elim .inl (fun h => by omega), h3.imp id (fun h => ⟨h.1, .inl (by simp only; omega)⟩), fun _ => rfl, hm, ?_, by simp, ?_, ?_, hc4⟩
      · intro hc
        exact .inl ((hnc hc).elim id (fun h => by omega))
      · intro hc _ h1
        have := hfr hc (by omega)
        simp only at h1
        omega
      · intro hc _ _
        exact hc0 hc (by omega) (by omega)
    · simp only [List.append_nil]
      exact ⟨hk, hn, hst, hfr, h1, h2, h3, fun _ => rfl, hm, hnc, hn2, hcr, hc0, hc4⟩
theorem pinv_step {k : Int} {r : Rec} {c1 c2 c3 : Int} {won : Bool} {out : List Ges} {q : Rec × Int × List Ges} (h : PInv k r c1 c2 c3 won out) (hq : Step r q) :
    0 ≤ q.2.1 ∧ q.2.1 ≤ 3 ∧ (0 < c2 → q.2.1 = 0) ∧ (q.2.2 ≠ [] → won = true) ∧
    (q.2.1 = 0 → PInv k q.1 c1 c2 c3 won (out ++ q.2.2)) ∧
    (q.2.1 = 2 → PInv k q.1 c1 (c2 + 1) c3 won (out ++ q.2.2)) ∧
    (q.2.1 = 3 → PInv k q.1 c1 c2 (c3 + 1) won (out ++ q.2.2)) ∧
    (q.2.1 = 1 → PInv k (win q.1).1 (c1 + 1) c2 c3 true (out ++ q.2.2 ++ (win q.1).2)) := by
  obtain ⟨hk, hn, hst, hfr, h1, h2, h3, hw, hm, hnc, hn2, hcr, hc0, hc4⟩ := h
  obtain ⟨r', a, gs⟩ := q
  obtain ⟨qk, qn, hq⟩ := hq
  simp only at qk qn hq ⊢
  have hk' : r'.Kind = k := qk.trans hk
  have hn' : r'.Node = 7 := qn.trans hn
  rcases hq with ⟨ha, rfl, hs, hc⟩ | ⟨hs, rfl, ha, h4⟩ | ⟨hkk, h0, hc, hs, ha, rfl, h4⟩ | ⟨hs, hle, ha, rfl, hc⟩ | ⟨h33, hkc, hs, ha, g, rfl, hg⟩ | ⟨h33, h0, hkc, hs, hc, ha, b, c, rfl, hb, hcc⟩ | ⟨h33, h0, hkc, hs, hc, ha, c, rfl, hcc⟩ | ⟨h33, h0, hkc, hs, ha, l, rfl, hl⟩
  · subst ha
    refine ⟨by omega, by omega, fun _ => rfl, fun h => absurd rfl h, fun _ => ?_, by omega, by omega, by omega⟩
    rw [List.append_nil]
    exact ⟨hk', hn', by omega, fun c1 c2 => by have := hfr c1 (by omega); omega, by omega, by omega, by omega, fun h => hw (by omega), hm, fun c => (hnc c).imp id (fun h => ⟨by omega, h.2⟩), fun c => by have := hn2 c; omega, fun c e1 e2 => hcr c (by omega) (by omega), fun c e1 e2 => hc0 c (by omega) (by omega), hc4⟩
  · have hp : ∀ c2', (c2' = 0 ∨ c2' = 1) → PInv k r' c1 c2' c3 won (out ++ []) := by
      intro c2' h5
      rw [List.append_nil]
      exact ⟨hk', hn', by omega, by omega, by omega, by omega, by omega, by omega, hm, fun c => (hnc c).imp id (fun h => by omega), fun c => by omega, by omega, fun c e => by omega, hc4⟩
    refine ⟨by omega, by omega, fun h => by omega, fun h => absurd rfl h, fun _ => ?_, fun _ => ?_, by omega, by omega⟩
    · exact hp c2 (by omega)
    · exact hp (c2 + 1) (by omega)
  · subst ha
    refine ⟨by omega, by omega, fun h => by omega, fun h => absurd rfl h, by omega, by omega, fun _ => ?_, by omega⟩
    have hcf : ¬ cont k = true := by rw [← hk, hkk]; decide
    rw [List.append_nil]
    exact ⟨hk', hn', by omega, fun c => absurd c hcf, by omega, by omega, by omega, fun h => hw (by omega), hm, fun c => (hnc c).imp id (fun h => ⟨by omega, h.2⟩), fun c => absurd c hcf, fun c => absurd c hcf, fun c => absurd c hcf, hc4⟩
  · have hout : out = [] := by
      cases hcf : cont k
      · exact (hnc hcf).elim id (fun h => by omega)
      · exact hc0 hcf (by omega) (by omega)
    subst hout
    have h10 : c1 = 0 := by omega
    have h20 : c2 = 0 := by omega
    subst h10 h20
    rcases ha with rfl | ⟨rfl, hkc⟩
    · refine ⟨by omega, by omega, fun h => by omega, fun h => absurd rfl h, by omega, by omega, by omega, fun _ => ?_⟩
      simp only [List.nil_append]
      unfold win
      rw [if_pos hs]
      split
      · rename_i hcf
        rw [hk'] at hcf
        refine ⟨hk', hn', by simp, by simp, .inr ⟨rfl, by simp⟩, .inl rfl, h3.imp id (fun h => ⟨h.1, .inl rfl⟩), fun _ => rfl, ?_, by simp [hcf], by simp, ?_, by simp, ?_⟩
        · intro g hg
          simp only [List.mem_cons, List.not_mem_nil, or_false] at hg
          rcases hg with rfl | rfl
          · exact ⟨(stageG_at r' 2).1.trans hk', (stageG_at r' 2).2.1.trans hn'⟩
          · exact ⟨(stageG_at r' 3).1.trans hk', (stageG_at r' 3).2.1.trans hn'⟩
        · exact fun _ _ _ => run_two (stageG_at r' 2).2.2 (stageG_at r' 3).2.2
        · exact fun _ => (run_two (stageG_at r' 2).2.2 (stageG_at r' 3).2.2).form
      · rename_i hcf
        rw [hk'] at hcf
        refine ⟨hk', hn', by simp [over], by simp [over], .inr ⟨rfl, by simp [over]⟩, .inl rfl, by simp only [over]; omega, fun _ => rfl, ?_, fun _ => .inr ⟨rfl, _, rfl, rfl⟩, fun c => absurd c hcf, fun c => absurd c hcf, fun c => absurd c hcf, fun c => absurd c hcf⟩
        intro g hg
        simp only [List.mem_cons, List.not_mem_nil, or_false] at hg
        subst hg
        exact ⟨hk', hn'⟩
    · rw [hk] at hkc
      refine ⟨by omega, by omega, fun h => by omega, fun h => absurd rfl h, fun _ => ?_, by omega, by omega, by omega⟩
      have hcf : ¬ cont k = true := by simp [hkc]
      exact ⟨hk', hn', by omega, fun c => absurd c hcf, .inl rfl, .inl rfl, by omega, by omega, hm, fun _ => .inl rfl, fun c => absurd c hcf, fun c => absurd c hcf, fun c => absurd c hcf, fun c => absurd c hcf⟩
  · subst ha
    rw [hk] at hkc
    have hcf : ¬ cont k = true := by simp [hkc]
    have hout : out = [] := (hnc hkc).elim id (fun h => by omega)
    subst hout
    refine ⟨by omega, by omega, fun h => by omega, fun _ => hw h33, fun _ => ?_, by omega, by omega, by omega⟩
    refine ⟨hk', hn', by omega, fun c => absurd c hcf, by omega, by omega, by omega, by omega, ?_, fun _ => .inr ⟨hs, g, rfl, hg.2.2⟩, fun c => absurd c hcf, fun c => absurd c hcf, fun c => absurd c hcf, fun c => absurd c hcf⟩
    intro x hx
    simp only [List.nil_append, List.mem_cons, List.not_mem_nil, or_false] at hx
    subst hx
    exact ⟨hg.1.trans hk, hg.2.1.trans hn⟩
  · subst ha
    rw [hk] at hkc
    have hout : out = [] := hc0 hkc (by omega) (by omega)
    subst hout
    refine ⟨by omega, by omega, fun h => by omega, fun _ => hw h33, fun _ => ?_, by omega, by omega, by omega⟩
    refine ⟨hk', hn', by omega, fun c e => by omega, by omega, by omega, by omega, fun _ => hw h33, ?_, fun c => (by rw [hkc] at c; cases c), fun c => by omega, fun _ _ _ => run_two hb.2.2 hcc.2.2, fun _ e1 e2 => absurd ⟨hs, hc⟩ e2, fun _ => (run_two hb.2.2 hcc.2.2).form⟩
    intro x hx
    simp only [List.nil_append, List.mem_cons, List.not_mem_nil, or_false] at hx
    rcases hx with rfl | rfl
    · exact ⟨hb.1.trans hk, hb.2.1.trans hn⟩
    · exact ⟨hcc.1.trans hk, hcc.2.1.trans hn⟩
  · subst ha
    rw [hk] at hkc
    have hrun := hcr hkc h33 h0
    refine ⟨by omega, by omega, fun h => by omega, fun _ => hw h33, fun _ => ?_, by omega, by omega, by omega⟩
    refine ⟨hk', hn', by omega, fun c e => by omega, by omega, by omega, by omega, fun _ => hw h33, mine_app hm ?_, fun c => (by rw [hkc] at c; cases c), fun c => by omega, fun _ _ _ => hrun.snoc hcc.2.2, fun _ e1 e2 => absurd ⟨hs, hc⟩ e2, fun _ => (hrun.snoc hcc.2.2).form⟩
    intro x hx
    simp only [List.mem_cons, List.not_mem_nil, or_false] at hx
    subst hx
    exact ⟨hcc.1.trans hk, hcc.2.1.trans hn⟩
  · subst ha
    rw [hk] at hkc
    have hrun := hcr hkc h33 h0
    have hl2 : l.Phase ≠ 2 := by rcases hl with h | h <;> (have := h.2.2; omega)
    refine ⟨by omega, by omega, fun h => by omega, fun _ => hw h33, fun _ => ?_, by omega, by omega, by omega⟩
    refine ⟨hk', hn', by omega, fun c e => by omega, by omega, by omega, by omega, fun e => by omega, mine_app hm ?_, fun c => (by rw [hkc] at c; cases c), fun c => by omega, fun _ e => by omega, fun _ e1 e2 => absurd hs e1, fun _ => hrun.last hl2⟩
    intro x hx
    simp only [List.mem_cons, List.not_mem_nil, or_false] at hx
    subst hx
    rcases hl with h | h
    · exact ⟨h.1.trans hk, h.2.1.trans hn⟩
    · exact ⟨h.1.trans hk, h.2.1.trans hn⟩
end Go.Proofs.Ytendgmnbnnkpnaa.G
namespace Go
open Go.RowKit
theorem grown_of_ext {w w' : World} (h : Ext w w') (row : Option Nat) : w.grownBy w' row := by
  obtain ⟨d, rfl⟩ := h
  exact ⟨rfl, rfl, rfl, by simp, fun k hk _ => World.heap_ext w d k hk⟩
theorem grown_put (w : World) (b i : Nat) (v : Value) : w.grownBy (w.setCell ⟨b, i, none⟩ v) (some b) :=
  ⟨rfl, rfl, rfl, by simp, fun k hk hne => setCell_heap_ne (fun e => hne (by rw [e]))⟩
theorem grown_trans {a b c : World} {row : Option Nat} (h : a.grownBy b row) (k : b.grownBy c row) : a.grownBy c row :=
  ⟨k.os.trans h.os, k.tape.trans h.tape, k.output.trans h.output, Nat.le_trans h.size k.size, fun i hi hne => (k.block i (Nat.lt_of_lt_of_le hi h.size) hne).trans (h.block i hi hne)⟩
theorem grown_drawn {w w' : World} {S n a : Nat} (h : Go.Proofs.Ytendgmnbnnkpnaa.G.Drawn w S n a w') : w.grownBy w' (some S) := by
  obtain ⟨a', d, _, _, rfl⟩ := h
  exact grown_trans (grown_put w S 1 _) (grown_of_ext ⟨d, rfl⟩ _)
theorem grown_split {w w' : World} {row : Option Nat} (h : w.grownBy w' row) : ∃ W1, Like (fun k => row = some k) w W1 ∧ Ext W1 w' := by
  have hz := h.size
  refine ⟨{ w' with heap := w'.heap.extract 0 w.heap.size }, ⟨by simp [Nat.min_eq_left hz], fun k hk => ?_⟩, ⟨⟨w'.heap.extract w.heap.size w'.heap.size, w'.drawn⟩, ?_⟩⟩
  · simp only [Array.getElem?_extract, Nat.min_eq_left hz, Nat.sub_zero, Nat.zero_add]
    by_cases hl : k < w.heap.size
    · rw [← h.block k hl (fun e => hk e.symm), if_pos hl]
    · rw [if_neg hl, Array.getElem?_eq_none (by omega)]
  · unfold World.ext
    have he : w'.heap.extract 0 w.heap.size ++ w'.heap.extract w.heap.size w'.heap.size = w'.heap := by
      apply Array.ext_getElem?
      intro k
      rw [Array.getElem?_append]
      simp only [Array.size_extract, Array.getElem?_extract, Nat.min_eq_left hz, Nat.sub_zero, Nat.zero_add, Nat.min_self]
      by_cases hl : k < w.heap.size
      · simp [hl]
      · rw [if_neg hl]
        by_cases hl2 : k < w'.heap.size
        · rw [if_pos (by omega)]; congr 1; omega
        · rw [if_neg (by omega), Array.getElem?_eq_none (by omega)]
    rw [he]
theorem wpList_append_none {P : Program} {w : World} {ops : Array Oper} {rest : List Oper} {o : Oper} {a : Act} {Q : Exit → Act → World → Prop} (s x : Operand) (t e : TypeId)
    (hinfo : (P.info? e).isSome = true) (ht : P.underlying t = some (.slice e)) (ad : Option Addr) (n c : Nat) (hc : n ≤ c)
    (hgd : o.guard = none) (ho : o.op = .call { callee := .builtin .append, args := #[s, x], argTypes := #[t, t] }) (hs : a.eval s = .slice ad n c) (hx : a.eval x = .slice none 0 0)
    (h : wpList P ops Q rest (a.put o.dst (.slice ad n c)) w) : wpList P ops Q (o :: rest) a w := by
  obtain ⟨i, hi⟩ := Option.isSome_iff_exists.1 hinfo
  refine wpList_plain hgd fun K hK => ?_
  have hrun : (Builtin.append_ #[t, t] o.type #[.slice ad n c, .slice none 0 0]).run P w = .ok (.slice ad n c) w := by
    cases ad <;> simp [Builtin.append_, run_underlying ht, sizeOf, typeInfo, hi, Builtin.lenOf, run_firstCells_none, hc, storeCells]
  unfold Oper.wp
  simp [execOp, ho, resolve, invoke, builtin, hs, hx, hrun, Result.andThen]
  exact hK _ _ h
/-- a record of eight cells is stored -/
theorem put8 {w : World} {R : Nat} {T : TypeId} {u0 u1 u2 u3 u4 u5 u6 u7 v0 v1 v2 v3 v4 v5 v6 v7 : Value} (h : w.heap[R]? = some (.cells #[u0, u1, u2, u3, u4, u5, u6, u7] T)) :
    w.grownBy ((((((((w.setCell ⟨R, 0, none⟩ v0).setCell ⟨R, 1, none⟩ v1).setCell ⟨R, 2, none⟩ v2).setCell ⟨R, 3, none⟩ v3).setCell ⟨R, 4, none⟩ v4).setCell ⟨R, 5, none⟩ v5).setCell ⟨R, 6, none⟩ v6).setCell ⟨R, 7, none⟩ v7) (some R) ∧
    ((((((((w.setCell ⟨R, 0, none⟩ v0).setCell ⟨R, 1, none⟩ v1).setCell ⟨R, 2, none⟩ v2).setCell ⟨R, 3, none⟩ v3).setCell ⟨R, 4, none⟩ v4).setCell ⟨R, 5, none⟩ v5).setCell ⟨R, 6, none⟩ v6).setCell ⟨R, 7, none⟩ v7).heap[R]? = some (.cells #[v0, v1, v2, v3, v4, v5, v6, v7] T) := by
  refine ⟨?_, ?_⟩
  · have g0 := grown_put w R 0 v0
    have g1 := grown_trans g0 (grown_put _ R 1 v1)
    have g2 := grown_trans g1 (grown_put _ R 2 v2)
    have g3 := grown_trans g2 (grown_put _ R 3 v3)
    have g4 := grown_trans g3 (grown_put _ R 4 v4)
    have g5 := grown_trans g4 (grown_put _ R 5 v5)
    have g6 := grown_trans g5 (grown_put _ R 6 v6)
    have g7 := grown_trans g6 (grown_put _ R 7 v7)
    exact g7
  · have h0 := setCell_heap (i := 0) (v := v0) h
    have h1 := setCell_heap (i := 1) (v := v1) h0
    have h2 := setCell_heap (i := 2) (v := v2) h1
    have h3 := setCell_heap (i := 3) (v := v3) h2
    have h4 := setCell_heap (i := 4) (v := v4) h3
    have h5 := setCell_heap (i := 5) (v := v5) h4
    have h6 := setCell_heap (i := 6) (v := v6) h5
    have h7 := setCell_heap (i := 7) (v := v7) h6
    simp only [List.setIfInBounds_toArray, List.set_cons_zero, List.set_cons_succ] at h7
    exact h7
end Go
namespace Go.Proofs.Ytendgmnbnnkpnaa.G
open Go.RowKit
theorem step_len {r : Rec} {q : Rec × Int × List Ges} (h : Step r q) : q.2.2.length ≤ 2 := by
  obtain ⟨_, _, h⟩ := h
  rcases h with ⟨_, h, _⟩ | ⟨_, h, _⟩ | ⟨_, _, _, _, _, h, _⟩ | ⟨_, _, _, h, _⟩ | ⟨_, _, _, _, g, h, _⟩ | ⟨_, _, _, _, _, _, b, c, h, _⟩ | ⟨_, _, _, _, _, _, c, h, _⟩ | ⟨_, _, _, _, _, c, h, _⟩ <;> simp [h]
theorem win_len2 (r : Rec) : (win r).2.length ≤ 2 := by unfold win; repeat' (first | split | simp)
theorem ges_one (gs : List Ges) : ∀ u, u ∈ gs.flatMap gesL → u.oneCell' = true := by
  intro u hu
  obtain ⟨g, _, hg⟩ := List.mem_flatMap.1 hu
  simp only [gesL, List.mem_cons, List.not_mem_nil, or_false] at hg
  rcases hg with rfl | rfl | rfl | rfl | rfl | rfl | rfl | rfl | rfl | rfl <;> rfl
theorem row_le {w : World} {B size n c : Nat} {T : TypeId} {a : Option Addr} {xs : List Value} (h : w.ownsRow B T size (.slice a n c) n xs) : n ≤ c := by
  rcases h.2 with ⟨hv, h0⟩ | ⟨g, cap, cur, hv, _, _, hle, _⟩
  · omega
  · simp only [Value.slice.injEq] at hv
    omega
theorem ges_get (l : List Ges) : ∀ (i : Nat) (e : Ges), l[i]? = some e → ∀ j, j < 10 → (l.flatMap gesL)[i * 10 + j]? = (gesL e)[j]? := by
  induction l with
  | nil => intro i e h; simp at h
  | cons x l ih =>
    intro i e h j hj
    rw [List.flatMap_cons]
    cases i with
    | zero =>
      simp only [List.getElem?_cons_zero, Option.some.injEq] at h
      subst h
      rw [Nat.zero_mul, Nat.zero_add, List.getElem?_append_left (by simpa [gesL] using hj)]
    | succ i =>
      simp only [List.getElem?_cons_succ] at h
      rw [List.getElem?_append_right (by simp [gesL]; omega), show (i + 1) * 10 + j - (gesL x).length = i * 10 + j by simp [gesL]; omega]
      exact ih i e h j hj
theorem out_cells {w : World} {B oc : Nat} {oa : Option Addr} {out : List Ges} (h : w.ownsRow B 49 10 (.slice oa out.length oc) out.length (out.flatMap gesL)) {j : Nat} {g : Ges} (hj : out[j]? = some g) : ∃ gb, oa = some ⟨gb, 0, none⟩ ∧ w.cell? ⟨gb, j * 10, none⟩ = some (.int .i64 g.Kind) ∧ w.cell? ⟨gb, j * 10 + 1, none⟩ = some (.int .i64 g.Node) ∧ w.cell? ⟨gb, j * 10 + 2, none⟩ = some (.int .i64 g.Phase) := by
  have hjl : j < out.length := (List.getElem?_eq_some_iff.1 hj).1
  rcases h.2 with ⟨_, h0⟩ | ⟨gb, cap, cur, hv, hB, hg, hn, hm, hs, ht⟩
  · omega
  · simp only [Value.slice.injEq] at hv
    obtain ⟨rfl, _, _⟩ := hv
    have key : ∀ t, t < 10 → w.cell? ⟨gb, j * 10 + t, none⟩ = (gesL g)[t]? := by
      intro t h10
      rw [← ges_get out j g hj t h10, ← ht, List.getElem?_take_of_lt (by omega), heap_cell hg, Array.getElem?_toList]
    exact ⟨gb, rfl, key 0 (by omega), key 1 (by omega), key 2 (by omega)⟩
/-- gestures that are there, ready to be appended -/
theorem ownG_news {w : World} {B : Nat} {v : Value} {gs : List Ges} (h : OwnG w B v gs) (hn : gs ≠ []) : ∃ g c, v = .slice (some ⟨g, 0, none⟩) gs.length c ∧ ∀ j u, (gs.flatMap gesL)[j]? = some u → w.cell? ((⟨g, 0, none⟩ : Addr).add j) = some u := by
  have hl := List.length_pos_iff.2 hn
  rcases h.1.2 with ⟨_, h0⟩ | ⟨g, cap, cur, rfl, _, hg, _, _, _, ht⟩
  · omega
  · refine ⟨g, cap, rfl, fun j u hu => ?_⟩
    rw [Addr.add_lit, Nat.zero_add, heap_cell hg, ← Array.getElem?_toList]
    rw [← ht] at hu
    rw [List.getElem?_take] at hu
    split at hu
    · exact hu
    · cases hu
theorem TsO.grown {w w' : World} {row : Option Nat} {a : Option Addr} {c : Nat} {ts : List Tch} {e' : TypeId} (h : TsO w a c ts) (hg : w.grownBy w' row) (h1 : 64 ≠ e') (h2 : 24 ≠ e') (hb : ∀ b, row = some b → ∃ cur fr, w.heap[b]? = some (.cells cur e' fr)) : TsO w' a c ts := by
  obtain ⟨W1, hl, he⟩ := grown_split hg
  exact TsO.ext (h.imp id (·.like2 h1 h2 hl hb)) he
theorem row_grown {w w' : World} {row : Option Nat} {B size k : Nat} {T e' : TypeId} {v : Value} {xs : List Value} (h : w.ownsRow B T size v k xs) (hg : w.grownBy w' row) (h1 : T ≠ e') (hb : ∀ b, row = some b → ∃ cur fr, w.heap[b]? = some (.cells cur e' fr)) : w'.ownsRow B T size v k xs := by
  obtain ⟨W1, hl, he⟩ := grown_split hg
  refine ownsRow_ext (ownsRow_like h hl (fun b hvb hr => ?_)) he
  obtain ⟨cur, fr, hx⟩ := hb b hr
  exact own_other h hx h1 b hvb rfl
theorem row_block {w : World} {B size k : Nat} {T : TypeId} {v : Value} {xs : List Value} (h : w.ownsRow B T size v k xs) : ∀ b, v.ownBlock = some b → ∃ cur fr, w.heap[b]? = some (.cells cur T fr) := by
  intro b hb
  rcases h.2 with ⟨rfl, _⟩ | ⟨g, cap, cu, rfl, _, hg, _⟩
  · cases hb
  · obtain rfl : g = b := by simpa [Value.ownBlock] using hb
    exact ⟨cu, (0, 0), hg⟩
theorem OwnG.turnX {w w' : World} {B b : Nat} {z : Array Value} {v : Value} {gs : List Ges} (h : OwnG w B v gs) (hl : Like (fun k => k = b) w w') (hb : w.heap[b]? = some (.cells z 26)) : OwnG w' B v gs :=
  ⟨ownsRow_like h.1 hl (own_other h.1 hb (by decide)), h.2⟩
theorem OwnG.grown {w w' : World} {row : Option Nat} {B : Nat} {v : Value} {gs : List Ges} {e' : TypeId} (h : OwnG w B v gs) (hg : w.grownBy w' row) (h1 : 49 ≠ e') (hb : ∀ b, row = some b → ∃ cur fr, w.heap[b]? = some (.cells cur e' fr)) : OwnG w' B v gs :=
  ⟨row_grown h.1 hg h1 hb, h.2⟩
/-- what the law's walk holds on to -/
structure Ps (w : World) (B0 S n R A : Nat) (a : Option Addr) (ca : Nat) (l : List Ev) (r : Rec) (c0 c1 c2 c3 : Int) (v : Value) (out : List Ges) (wr : World) : Prop where
  src : ∃ w0 at_, w0.heap.size = B0 ∧ Ext w w0 ∧ Ext w0 wr ∧ SrcAt w0 S n at_
  rc : ∃ ra rc, wr.heap[R]? = some (.cells #[.int .i64 (r).Kind, .int .i64 (r).Node, .int .i64 (r).State, .int .i64 (r).Count, .slice ra (r).Ts.length rc, .int .i64 (r).L.X, .int .i64 (r).L.Y, .int .i64 (r).L.T] 26) ∧ TsO wr ra rc r.Ts
  asked : wr.heap[A]? = some (.cells #[.int .i64 c0, .int .i64 c1, .int .i64 c2, .int .i64 c3] 37)
  out : wr.ownsRow B0 49 10 v out.length (out.flatMap gesL)
  evs : wr.ownsRow B0 44 6 (.slice a l.length ca) l.length (l.flatMap evL)
  hR : B0 ≤ R
  hA : B0 ≤ A
  hRA : R ≠ A
  hS : w.heap.size ≤ S
section
variable {w wr w' : World} {B0 S n R A : Nat} {a : Option Addr} {ca : Nat} {l : List Ev} {r : Rec} {c0 c1 c2 c3 : Int} {v : Value} {out : List Ges}
theorem Ps.ext (h : Ps w B0 S n R A a ca l r c0 c1 c2 c3 v out wr) (he : Ext wr w') : Ps w B0 S n R A a ca l r c0 c1 c2 c3 v out w' := by
  obtain ⟨⟨w0, at_, s1, s2, s3, s4⟩, ⟨ra, rc, r1, r2⟩, h1, h2, h3, h4, h5, h6, h7⟩ := h
  exact ⟨⟨w0, at_, s1, s2, s3.trans he, s4⟩, ⟨ra, rc, heap_some_ext r1 he, r2.ext he⟩, heap_some_ext h1 he, ownsRow_ext h2 he, ownsRow_ext h3 he, h4, h5, h6, h7⟩
theorem Ps.at_ (h : Ps w B0 S n R A a ca l r c0 c1 c2 c3 v out wr) : ∃ at_, SrcAt wr S n at_ := by
  obtain ⟨⟨w0, at_, s1, s2, s3, s4⟩, _⟩ := h
  exact ⟨at_, s4.ext s3⟩
theorem Ps.whole (h : Ps w B0 S n R A a ca l r c0 c1 c2 c3 v out wr) : Ext w wr := by
  obtain ⟨⟨w0, at_, s1, s2, s3, s4⟩, _⟩ := h
  exact s2.trans s3
theorem Ps.draw {at2 : Nat} (h : Ps w B0 S n R A a ca l r c0 c1 c2 c3 v out wr) (hd : Drawn wr S n at2 w') : Ps w B0 S n R A a ca l r c0 c1 c2 c3 v out w' := by
  obtain ⟨⟨w0, at_, s1, s2, s3, s4⟩, ⟨ra, rc, r1, r2⟩, h1, h2, h3, h4, h5, h6, h7⟩ := h
  have hlt := s4.lt
  have hg := grown_drawn hd
  obtain ⟨⟨_, _, hSh, _⟩, _, _⟩ := s4.ext s3
  have hb : ∀ b, some S = some b → ∃ cur fr, wr.heap[b]? = some (.cells cur 76 fr) := fun b e => by cases e; exact ⟨_, _, hSh⟩
  refine ⟨?_, ⟨ra, rc, heap_grown2 hg r1 (fun k e => by cases e; omega), r2.grown hg (by decide) (by decide) hb⟩, heap_grown2 hg h1 (fun k e => by cases e; omega), row_grown h2 hg (by decide) hb, row_grown h3 hg (by decide) hb, h4, h5, h6, h7⟩
  obtain ⟨at', d, _, hle, rfl⟩ := hd
  obtain ⟨⟨q, cap, hS, hl⟩, _, hn⟩ := s4
  refine ⟨w0.setCell ⟨S, 1, none⟩ (.int .i64 at'), at', by simpa using s1, s2.put h7 _, ?_, ⟨⟨q, cap, setCell_heap hS, ?_⟩, hle, hn⟩⟩
  · obtain ⟨d0, rfl⟩ := s3
    rw [World.setCell_ext _ _ _ _ _ hlt]
    exact Ext.ext (Ext.ext (Ext.refl _) _) _
  · rcases hl with hl | ⟨b, off, ha, hne, hc⟩
    · exact .inl hl
    · refine .inr ⟨b, off, ha, hne, fun i hi => ?_⟩
      obtain ⟨x, x1, x2, hx⟩ := hc i hi
      refine ⟨x, x1, x2, ?_⟩
      simp only [World.cell?, setCell_heap_ne hne]; simpa only [World.cell?] using hx
/-- a store above the reader, into a block that holds neither the rows nor the counts -/
theorem Ps.mend {b : Nat} {q : Rec} (h : Ps w B0 S n R A a ca l r c0 c1 c2 c3 v out wr) (hg : wr.grownBy w' (some b)) (hb : B0 ≤ b) (hbA : b ≠ A) (hbr : ∃ cur fr, wr.heap[b]? = some (.cells cur 26 fr)) (hq : ∃ ra rc, w'.heap[R]? = some (.cells #[.int .i64 (q).Kind, .int .i64 (q).Node, .int .i64 (q).State, .int .i64 (q).Count, .slice ra (q).Ts.length rc, .int .i64 (q).L.X, .int .i64 (q).L.Y, .int .i64 (q).L.T] 26) ∧ TsO w' ra rc q.Ts) : Ps w B0 S n R A a ca l q c0 c1 c2 c3 v out w' := by
  obtain ⟨⟨w0, at_, s1, s2, s3, s4⟩, ⟨ra, rc, r1, r2⟩, h1, h2, h3, h4, h5, h6, h7⟩ := h
  have hbb : ∀ k, some b = some k → ∃ cur fr, wr.heap[k]? = some (.cells cur 26 fr) := fun k e => by cases e; exact hbr
  exact ⟨⟨w0, at_, s1, s2, Ext.of_grown s3 hg (fun k e => by cases e; omega), s4⟩, hq, heap_grown2 hg h1 (fun k e => by cases e; exact hbA), row_grown h2 hg (by decide) hbb, row_grown h3 hg (by decide) hbb, h4, h5, h6, h7⟩
/-- a store into the counts -/
theorem Ps.count {e0 e1 e2 e3 : Int} (h : Ps w B0 S n R A a ca l r c0 c1 c2 c3 v out wr) (hg : wr.grownBy w' (some A)) (hA : w'.heap[A]? = some (.cells #[.int .i64 e0, .int .i64 e1, .int .i64 e2, .int .i64 e3] 37)) : Ps w B0 S n R A a ca l r e0 e1 e2 e3 v out w' := by
  obtain ⟨⟨w0, at_, s1, s2, s3, s4⟩, ⟨ra, rc, r1, r2⟩, h1, h2, h3, h4, h5, h6, h7⟩ := h
  have hbb : ∀ k, some A = some k → ∃ cur fr, wr.heap[k]? = some (.cells cur 37 fr) := fun k e => by cases e; exact ⟨_, _, h1⟩
  exact ⟨⟨w0, at_, s1, s2, Ext.of_grown s3 hg (fun k e => by cases e; omega), s4⟩, ⟨ra, rc, heap_grown2 hg r1 (fun k e => by cases e; exact fun x => h6 x.symm), r2.grown hg (by decide) (by decide) hbb⟩, hA, row_grown h2 hg (by decide) hbb, row_grown h3 hg (by decide) hbb, h4, h5, h6, h7⟩
/-- gestures are appended -/
theorem Ps.app {v' : Value} {gs : List Ges} (h : Ps w B0 S n R A a ca l r c0 c1 c2 c3 v out wr) (hg : wr.grownBy w' v.ownBlock) (ho : w'.ownsRow B0 49 10 v' (out.length + gs.length) (out.flatMap gesL ++ gs.flatMap gesL)) : Ps w B0 S n R A a ca l r c0 c1 c2 c3 v' (out ++ gs) w' := by
  obtain ⟨⟨w0, at_, s1, s2, s3, s4⟩, ⟨ra, rc, r1, r2⟩, h1, h2, h3, h4, h5, h6, h7⟩ := h
  have hbb := row_block h2
  exact ⟨⟨w0, at_, s1, s2, Ext.of_grown s3 hg (fun k e => by rw [s1]; exact (h2.lt k e).1), s4⟩, ⟨ra, rc, heap_grown2 hg r1 (own_other h2 r1 (by decide)), r2.grown hg (by decide) (by decide) hbb⟩, heap_grown2 hg h1 (own_other h2 h1 (by decide)), by simpa using ho, row_grown h3 hg (by decide) hbb, h4, h5, h6, h7⟩
theorem Ps.bump0 (h : Ps w B0 S n R A a ca l r c0 c1 c2 c3 v out wr) (x : Int) : Ps w B0 S n R A a ca l r x c1 c2 c3 v out (wr.setCell ⟨A, 0, none⟩ (.int .i64 x)) := by
  refine h.count (grown_put _ _ _ _) ?_
  have h1 := setCell_heap (i := 0) (v := .int .i64 x) h.asked
  simp only [List.setIfInBounds_toArray, List.set_cons_zero, List.set_cons_succ] at h1
  exact h1
theorem Ps.bump1 (h : Ps w B0 S n R A a ca l r c0 c1 c2 c3 v out wr) (x : Int) : Ps w B0 S n R A a ca l r c0 x c2 c3 v out (wr.setCell ⟨A, 1, none⟩ (.int .i64 x)) := by
  refine h.count (grown_put _ _ _ _) ?_
  have h1 := setCell_heap (i := 1) (v := .int .i64 x) h.asked
  simp only [List.setIfInBounds_toArray, List.set_cons_zero, List.set_cons_succ] at h1
  exact h1
theorem Ps.bump2 (h : Ps w B0 S n R A a ca l r c0 c1 c2 c3 v out wr) (x : Int) : Ps w B0 S n R A a ca l r c0 c1 x c3 v out (wr.setCell ⟨A, 2, none⟩ (.int .i64 x)) := by
  refine h.count (grown_put _ _ _ _) ?_
  have h1 := setCell_heap (i := 2) (v := .int .i64 x) h.asked
  simp only [List.setIfInBounds_toArray, List.set_cons_zero, List.set_cons_succ] at h1
  exact h1
theorem Ps.bump3 (h : Ps w B0 S n R A a ca l r c0 c1 c2 c3 v out wr) (x : Int) : Ps w B0 S n R A a ca l r c0 c1 c2 x v out (wr.setCell ⟨A, 3, none⟩ (.int .i64 x)) := by
  refine h.count (grown_put _ _ _ _) ?_
  have h1 := setCell_heap (i := 3) (v := .int .i64 x) h.asked
  simp only [List.setIfInBounds_toArray, List.set_cons_zero, List.set_cons_succ] at h1
  exact h1
theorem Ps.base (h : Ps w B0 S n R A a ca l r c0 c1 c2 c3 v out wr) : B0 ≤ wr.heap.size := by
  obtain ⟨⟨w0, at_, s1, s2, s3, s4⟩, _⟩ := h
  have := s3.size
  omega
theorem Ps.ev (h : Ps w B0 S n R A a ca l r c0 c1 c2 c3 v out wr) {i : Nat} {e : Ev} (hi : l[i]? = some e) : ∃ b, a = some ⟨b, 0, none⟩ ∧ EvAt wr b (i * 6) e := by
  obtain ⟨a', c', hv, hl⟩ := evs_of_row h.evs
  simp only [Value.slice.injEq] at hv
  obtain ⟨rfl, _, rfl⟩ := hv
  rcases hl with rfl | ⟨b, rfl, hl, _⟩
  · cases hi
  · exact ⟨b, rfl, Nat.zero_add (i * 6) ▸ hl i e hi⟩
end
theorem ps_start {w w2 W w3 : World} {S n R at_ : Nat} {k : Int} {d1 : Grow} {v : Value} {l : List Ev} (hE : Ext w w2) (hS : w.heap.size ≤ S) (hs : SrcAt w2 S n at_) (hR : w2.heap.size + d1.size = R)
    (hW : W = ((w2.ext d1).alloc (.cells #[.int .i64 k, .int .i64 7, .int .i64 0, .int .i64 0, .slice none 0 0, .int .i64 0, .int .i64 0, .int .i64 0] 26)).alloc (.cells #[.int .i64 0, .int .i64 0, .int .i64 0, .int .i64 0] 37))
    (hp : St W S n w3 v l) : ∃ a ca, v = .slice a l.length ca ∧ Ps w w2.heap.size S n R (R + 1) a ca l (newR k 7) 0 0 0 0 (.slice none 0 0) [] w3 := by
  have h0 : Ps w w2.heap.size S n R (R + 1) none 0 [] (newR k 7) 0 0 0 0 (.slice none 0 0) [] W := by
    subst hW
    refine ⟨⟨w2, at_, rfl, hE, ?_, hs⟩, ⟨none, 0, heap_alloc1 (heap_new _ _ (by simp [← hR])), .inl rfl⟩, heap_new _ _ (by simp [← hR]), World.ownsRow_nil _ _ _ _, World.ownsRow_nil _ _ _ _, by omega, by omega, by omega, hS⟩
    (repeat (first | exact Ext.refl _ | assumption | refine Ext.alloc ?_ _ | refine Ext.ext ?_ _ | refine Ext.drew ?_))
  have h1 := h0.draw hp.d
  obtain ⟨a, c, rfl, _⟩ := evs_of_row hp.row
  refine ⟨a, c, rfl, { h1 with evs := ownsRow_base hp.row ?_ }⟩
  subst hW
  simp; omega
theorem gen_at3 {W : World} {p : World → Prop} (h : ∀ W', W' = W → p W') : p W := h W rfl
theorem pinv_start (k : Int) : PInv k (newR k 7) 0 0 0 false [] := by
  refine ⟨rfl, rfl, by simp [newR], fun _ _ => rfl, .inl rfl, .inl rfl, .inl rfl, by simp [newR], by simp, fun _ => .inl rfl, fun _ => by simp [newR], fun _ h => by simp [newR] at h, fun _ _ _ => rfl, fun _ => form_nil⟩
end Go.Proofs.Ytendgmnbnnkpnaa.G
