/- The reference's arena: Check, refused and Step in plain terms are the program's. -/
import Derived.Test.YtcnmljpabmgieaaAr24
namespace Go.Proofs.Ytcnmljpabmgieaa.R
def good0 (a : Arn) : Bool := decide (0 ≤ a.Members) && decide (a.Members ≤ 24) && asc a.Left a.Members && asc a.Holds a.Members
def good1 (a : Arn) : Bool := a.Eager == -1 || (has a.Left a.Eager && a.Open)
def good2 (a : Arn) : Bool := a.Winner == -1 || (decide (0 ≤ a.Winner) && decide (a.Winner < a.Members) && a.Done)
def good3 (a : Arn) : Bool := !a.Done || (!a.Open && !a.Swept && decide (a.Left.length = 0) && decide (a.Holds.length = 0))
def good4 (a : Arn) : Bool := a.Open || a.Done || decide (2 ≤ a.Left.length)
def good5 (a : Arn) : Bool := !a.Swept || (!a.Open && decide (0 < a.Holds.length))
def good (a : Arn) : Bool := good0 a && a.Holds.all (has a.Left) && good1 a && good2 a && good3 a && good4 a && good5 a
theorem good_iff (a : Arn) : good a = true ↔ Valid a := by
  unfold good good0 good1 good2 good3 good4 good5
  simp only [Bool.and_eq_true, Bool.or_eq_true, Bool.not_eq_true', decide_eq_true_eq, beq_iff_eq, asc_iff, List.all_eq_true, has_iff]
  constructor
  · rintro ⟨⟨⟨⟨⟨⟨⟨⟨⟨m0, m1⟩, l1, l2⟩, h1, _⟩, hh⟩, g1⟩, g2⟩, g3⟩, g4⟩, g5⟩
    refine ⟨m0, m1, l1, h1, l2, hh, fun h => g1.resolve_left h, fun h => ⟨(g2.resolve_left h).1, (g2.resolve_left h).2⟩, ?_, ?_, ?_⟩
    · intro hD
      rcases g3 with g | ⟨⟨⟨g, g'⟩, gl⟩, gh⟩
      · rw [hD] at g; cases g
      · exact ⟨g, g', List.length_eq_zero_iff.1 gl, List.length_eq_zero_iff.1 gh⟩
    · intro hO hD
      rcases g4 with (g | g) | g
      · rw [hO] at g; cases g
      · rw [hD] at g; cases g
      · exact g
    · intro hS
      rcases g5 with g | ⟨g, gh⟩
      · rw [hS] at g; cases g
      · exact ⟨g, fun h => by rw [h] at gh; cases gh⟩
  · rintro ⟨m0, m1, l1, h1, l2, hh, e, wn, d, t, s⟩
    refine ⟨⟨⟨⟨⟨⟨⟨⟨⟨m0, m1⟩, l1, l2⟩, h1, fun x hx => l2 x (hh x hx)⟩, hh⟩, ?_⟩, ?_⟩, ?_⟩, ?_⟩, ?_⟩
    · by_cases h : a.Eager = -1
      · exact .inl h
      · exact .inr (e h)
    · by_cases h : a.Winner = -1
      · exact .inl h
      · exact .inr (wn h)
    · rcases hD : a.Done with _ | _
      · exact .inl rfl
      · obtain ⟨d1, d2, d3, d4⟩ := d hD
        exact .inr ⟨⟨⟨d1, d2⟩, by rw [d3]; rfl⟩, by rw [d4]; rfl⟩
    · rcases hO : a.Open with _ | _
      · rcases hD : a.Done with _ | _
        · exact .inr (t hO hD)
        · exact .inl (.inr rfl)
      · exact .inl (.inl rfl)
    · rcases hS : a.Swept with _ | _
      · exact .inl rfl
      · obtain ⟨s1, s2⟩ := s hS
        exact .inr ⟨s1, List.length_pos_iff.2 s2⟩
theorem check_val2 (a : Arn) : check a = 0 ∨ check a = 12 := by
  unfold check
  split
  · exact .inr rfl
  split
  · exact .inr rfl
  split
  · exact .inr rfl
  split
  · exact .inr rfl
  · exact .inl rfl
theorem rcheck_eq (a : Arn) : (if good a then (0 : Int) else 12) = check a := by
  by_cases h : good a = true
  · rw [if_pos h, (check_zero a).2 ((good_iff a).1 h)]
  · rw [if_neg h]
    rcases check_val2 a with hc | hc
    · exact absurd ((good_iff a).2 ((check_zero a).1 hc)) h
    · exact hc.symm
def rref (a : Arn) (e : AEv) : Int :=
  if decide (e.Kind < 1) || decide (6 < e.Kind) then 9
  else if a.Done then 12
  else if (e.Kind == 2 || e.Kind == 3 || e.Kind == 4) && !has a.Left e.Member then 7
  else if e.Kind == 5 && !has a.Holds e.Member then 7
  else if (e.Kind == 1 && !a.Open) || (e.Kind == 6 && a.Open) then 10 else 0
theorem rref_eq (a : Arn) (e : AEv) (h : check a = 0) : rref a e = refuse a e := by
  unfold rref refuse
  rw [h]
  simp only [beq_self_eq_true, Bool.not_true, Bool.false_eq_true, if_false]
  split
  · rfl
  rename_i hk
  simp only [Bool.or_eq_true, decide_eq_true_eq, not_or] at hk
  split
  · rfl
  rcases (show e.Kind = 1 ∨ e.Kind = 2 ∨ e.Kind = 3 ∨ e.Kind = 4 ∨ e.Kind = 5 ∨ e.Kind = 6 by omega) with k | k | k | k | k | k
  all_goals
    rw [k]
    simp
    try (cases a.Open <;> simp)
    try (cases has a.Left e.Member <;> simp)
    try (cases has a.Holds e.Member <;> simp)
def ract (a : Arn) (e : AEv) : Arn × List Vd :=
  if e.Kind = 1 then
    (if 0 ≤ a.Eager then decideA { a with Open := false } a.Eager
     else if a.Left.length = 0 then ({ a with Open := false, Done := true }, [])
     else if a.Left.length = 1 then decideA { a with Open := false } (a.Left.headD 0) else ({ a with Open := false }, []))
  else if e.Kind = 2 then (if a.Open then (if a.Eager < 0 then ({ a with Eager := e.Member }, []) else (a, [])) else decideA a e.Member)
  else if e.Kind = 3 then
    (let b : Arn := { a with Left := without a.Left e.Member, Holds := without a.Holds e.Member, Eager := if a.Eager = e.Member then -1 else a.Eager }
     if !a.Open && (decide (b.Left.length = 1) || (a.Swept && decide (b.Holds.length = 0))) then ((decideA b (b.Left.headD 0)).1, ⟨e.Member, false⟩ :: (decideA b (b.Left.headD 0)).2) else (b, [⟨e.Member, false⟩]))
  else if e.Kind = 4 then ({ a with Holds := withL a.Holds e.Member }, [])
  else if e.Kind = 5 then
    (if a.Swept && decide ((without a.Holds e.Member).length = 0) then decideA { a with Holds := without a.Holds e.Member } (a.Left.headD 0) else ({ a with Holds := without a.Holds e.Member }, []))
  else (if a.Holds.length = 0 then decideA a (a.Left.headD 0) else ({ a with Swept := true }, []))
theorem ract_eq (a : Arn) (e : AEv) (h : refuse a e = 0) : ract a e = act a e := by
  obtain ⟨hv, hd, hk1, hk2, h234, h5, h1, h6⟩ := refuse_zero h
  obtain ⟨m0, m1, l1, r2, l2, hh, he, wn, d, t, s⟩ := hv
  have heag : a.Eager = -1 ∨ 0 ≤ a.Eager := by
    by_cases hx : a.Eager = -1
    · exact .inl hx
    · exact .inr (l2 _ (he hx).1).1
  have hw1 : a.Winner = -1 := by
    by_cases hx : a.Winner = -1
    · exact hx
    · have := (wn hx).2
      rw [hd] at this
      cases this
  unfold ract act
  by_cases k1 : e.Kind = 1
  · rw [if_pos k1, if_pos k1, closed_eq]
    have hO := h1 k1
    rcases heag with hx | hx
    · rw [if_neg (by omega), if_pos hx]
      by_cases l0 : a.Left.length = 0
      · rw [if_pos l0, if_pos l0]
        have hL := List.length_eq_zero_iff.1 l0
        have hH : a.Holds = [] := by
          rcases hq : a.Holds with _ | ⟨y, l⟩
          · rfl
          · have := hh y (by rw [hq]; simp)
            rw [hL] at this
            cases this
        have hS : a.Swept = false := by
          rcases hq : a.Swept with _ | _
          · rfl
          · exact absurd hH (s hq).2
        unfold decideA
        obtain ⟨A, L, c, dd, ee, f, g, hhh⟩ := a
        simp only at hL hH hS hw1 hx
        subst hL hH hS hw1 hx
        rfl
      · rw [if_neg l0, if_neg l0]
    · rw [if_pos hx, if_neg (by omega)]
  rw [if_neg k1, if_neg k1]
  by_cases k2 : e.Kind = 2
  · rw [if_pos k2, if_pos k2]
    rcases a.Open with _ | _
    · rfl
    · simp only [if_true]
      rcases heag with hx | hx
      · rw [if_pos (by omega), if_pos hx]
      · rw [if_neg (by omega), if_neg (by omega)]
  rw [if_neg k2, if_neg k2]
  by_cases k3 : e.Kind = 3
  · rw [if_pos k3, if_pos k3]
    unfold quit settle
    simp only
    rcases hO : a.Open with _ | _
    · simp only [Bool.not_false, Bool.true_and, Bool.false_eq_true, if_false, Bool.or_eq_true, decide_eq_true_eq]
      by_cases q1 : (without a.Left e.Member).length = 1
      · rw [if_pos (.inl q1), if_pos q1]
      · rw [if_neg q1]
        by_cases q2 : (a.Swept && decide ((without a.Holds e.Member).length = 0)) = true
        · rw [if_pos (.inr q2), if_pos q2]
        · rw [if_neg (by rintro (h | h); exact q1 h; exact q2 h), if_neg q2]
    · simp
  rw [if_neg k3, if_neg k3]
  by_cases k4 : e.Kind = 4
  · rw [if_pos k4, if_pos k4, withL_eq r2]
    split <;> rfl
  rw [if_neg k4, if_neg k4]
  by_cases k5 : e.Kind = 5
  · rw [if_pos k5, if_pos k5]
    rfl
  · rw [if_neg k5, if_neg k5]
    unfold settle
    simp only [Bool.true_and, decide_eq_true_eq]
    split <;> rfl
theorem rstep_eq (a : Arn) (e : AEv) : (if good a then (if rref a e == 0 then ((ract a e).1, (ract a e).2, (0 : Int)) else (.zero, [], rref a e)) else (.zero, [], 12)) = step a e := by
  unfold step
  by_cases hg : good a = true
  · have hc := (check_zero a).2 ((good_iff a).1 hg)
    rw [if_pos hg, rref_eq a e hc]
    by_cases hr : refuse a e = 0
    · rw [hr, ract_eq a e hr]
      rfl
    · have : (refuse a e == 0) = false := by simpa using hr
      rw [this]
      rfl
  · rw [if_neg hg]
    have hc : check a = 12 := by rw [← rcheck_eq, if_neg hg]
    have hr : refuse a e = 12 := by
      unfold refuse
      rw [hc]
      rfl
    rw [hr]
    rfl
end Go.Proofs.Ytcnmljpabmgieaa.R
