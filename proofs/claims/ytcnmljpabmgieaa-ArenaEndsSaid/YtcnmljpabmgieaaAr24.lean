/- The reference's arena: plain facts. -/
import Derived.Test.YtcnmljpabmgieaaAr22
namespace Go.Proofs.Ytcnmljpabmgieaa.R
/-- ascending, with elements from 0 to n - 1 -/
def asc (l : List Int) (n : Int) : Bool := rising l && l.all fun x => decide (0 ≤ x) && decide (x < n)
theorem asc_iff (l : List Int) (n : Int) : asc l n = true ↔ l.Pairwise (· < ·) ∧ ∀ x, x ∈ l → 0 ≤ x ∧ x < n := by
  unfold asc
  rw [Bool.and_eq_true, rising_iff, List.all_eq_true]
  simp only [Bool.and_eq_true, decide_eq_true_eq]
theorem asc_take {l : List Int} {n : Int} (k : Nat) (h : asc l n = true) : asc (l.take k) n = true := by
  rw [asc_iff] at h ⊢
  exact ⟨h.1.sublist (List.take_sublist _ _), fun x hx => h.2 x (List.mem_of_mem_take hx)⟩
theorem asc_zero {l : List Int} {n : Int} {x : Int} (hx : l[0]? = some x) : asc (l.take 1) n = (decide (0 ≤ x) && decide (x < n)) := by
  rw [List.take_add_one, hx]
  simp [asc, rising]
theorem asc_succ {l : List Int} {n : Int} {k : Nat} {x y : Int} (hy : l[k]? = some y) (hx : l[k + 1]? = some x) (h : asc (l.take (k + 1)) n = true) :
    asc (l.take (k + 1 + 1)) n = (decide (0 ≤ x) && decide (x < n) && decide (y < x)) := by
  rw [Bool.eq_iff_iff, asc_iff, Bool.and_eq_true, Bool.and_eq_true, decide_eq_true_eq, decide_eq_true_eq, decide_eq_true_eq]
  rw [asc_iff] at h
  have ht : l.take (k + 1 + 1) = l.take (k + 1) ++ [x] := by rw [List.take_add_one, hx]; rfl
  have hym : y ∈ l.take (k + 1) := by
    refine List.mem_iff_getElem?.2 ⟨k, ?_⟩
    rw [List.getElem?_take_of_lt (by omega)]
    exact hy
  rw [ht, List.pairwise_append]
  constructor
  · rintro ⟨⟨h1, _, h2⟩, h3⟩
    exact ⟨h3 x (by simp), h2 y hym x (by simp)⟩
  · rintro ⟨⟨h1, h2⟩, h3⟩
    refine ⟨⟨h.1, by simp, ?_⟩, ?_⟩
    · intro a ha b hb
      obtain rfl : b = x := by simpa using hb
      -- a is at or before y
      obtain ⟨i, hi⟩ := List.mem_iff_getElem?.1 ha
      have hik : i < k + 1 := by
        have := (List.getElem?_eq_some_iff.1 hi).1
        simp at this
        omega
      by_cases hik2 : i = k
      · subst hik2
        rw [List.getElem?_take_of_lt hik, hy] at hi
        simp only [Option.some.injEq] at hi
        omega
      · have hyk : (l.take (k + 1))[k]? = some y := by rw [List.getElem?_take_of_lt (by omega)]; exact hy
        obtain ⟨i1, i2⟩ := List.getElem?_eq_some_iff.1 hi
        obtain ⟨j1, j2⟩ := List.getElem?_eq_some_iff.1 hyk
        have := List.pairwise_iff_getElem.1 h.1 i k i1 j1 (by omega)
        omega
    · intro a ha
      rcases List.mem_append.1 ha with ha | ha
      · exact h.2 a ha
      · obtain rfl : a = x := by simpa using ha
        exact ⟨h1, h2⟩
theorem asc_bad {l : List Int} {n : Int} (k : Nat) (h : asc (l.take k) n = false) : asc l n = false := by
  rcases hb : asc l n with _ | _
  · rfl
  · rw [asc_take k hb] at h
    cases h
/-- 'with': one element, and the list so far -/
def wstep (n : Int) (s : List Int × Bool) (x : Int) : List Int × Bool :=
  let s1 := if decide (n ≤ x) && !s.2 then (s.1 ++ [n], true) else s
  if x == n then s1 else (s1.1 ++ [x], s1.2)
def wfold (n : Int) (l : List Int) : List Int × Bool := l.foldl (wstep n) ([], false)
def withL (l : List Int) (n : Int) : List Int := if (wfold n l).2 then (wfold n l).1 else (wfold n l).1 ++ [n]
theorem wfold_snoc (n : Int) {l : List Int} {k : Nat} {x : Int} (h : l[k]? = some x) : wfold n (l.take (k + 1)) = wstep n (wfold n (l.take k)) x := by
  rw [List.take_add_one, h]
  simp [wfold]
theorem wstep_len (n : Int) (s : List Int × Bool) (x : Int) : (wstep n s x).1.length ≤ s.1.length + 2 := by
  unfold wstep
  simp only
  split <;> split <;> simp
theorem wfold_len (n : Int) (l : List Int) (k : Nat) : (wfold n (l.take k)).1.length ≤ 2 * k := by
  induction k with
  | zero => simp [wfold]
  | succ k ih =>
    by_cases hk : k < l.length
    · obtain ⟨x, hx⟩ : ∃ x, l[k]? = some x := ⟨_, List.getElem?_eq_getElem hk⟩
      rw [wfold_snoc n hx]
      have := wstep_len n (wfold n (l.take k)) x
      omega
    · rw [List.take_of_length_le (by omega)]
      rw [List.take_of_length_le (by omega)] at ih
      omega
theorem wfold_inv (n : Int) : ∀ (l : List Int), l.Pairwise (· < ·) → ((wfold n l).2 = false ∧ (wfold n l).1 = l ∧ (∀ x, x ∈ l → x < n)) ∨ ((wfold n l).2 = true ∧ (wfold n l).1.Pairwise (· < ·) ∧ (∀ x, x ∈ (wfold n l).1 ↔ x ∈ l ∨ x = n) ∧ ∃ x, x ∈ l ∧ n ≤ x) := by
  intro l
  induction h : l.length generalizing l with
  | zero =>
    intro _
    obtain rfl := List.length_eq_zero_iff.1 h
    exact .inl ⟨rfl, rfl, fun x hx => absurd hx (by simp)⟩
  | succ k ih =>
    intro hp
    have hk : l[k]? = some (l[k]'(by omega)) := List.getElem?_eq_getElem (by omega)
    obtain ⟨x, hx⟩ : ∃ x, x = l[k]'(by omega) := ⟨_, rfl⟩
    rw [← hx] at hk
    have hs := wfold_snoc n hk
    rw [List.take_of_length_le (by omega)] at hs
    have hl : l = l.take k ++ [x] := by
      have : l.take (k + 1) = l.take k ++ [x] := by rw [List.take_add_one, hk]; rfl
      rwa [List.take_of_length_le (by omega)] at this
    obtain ⟨m, hm⟩ : ∃ m, m = l.take k := ⟨_, rfl⟩
    rw [← hm] at hs hl
    have hml : m.length = k := by rw [hm]; simp; omega
    clear hm hk hx
    subst hl
    rw [List.pairwise_append] at hp
    obtain ⟨hp1, _, hp2⟩ := hp
    have hp2' : ∀ a, a ∈ m → a < x := fun a ha => hp2 a ha x (by simp)
    rw [hs]
    rcases ih m hml hp1 with ⟨i1, i2, i3⟩ | ⟨i1, i2, i3, i4⟩
    · unfold wstep
      simp only [i1, i2, Bool.not_false, Bool.and_true, decide_eq_true_eq]
      by_cases hnx : n ≤ x
      · rw [if_pos hnx]
        by_cases he : x = n
        · subst he
          simp only [beq_self_eq_true, if_true]
          refine .inr ⟨by trivial, ?_, ?_, x, by simp, hnx⟩
          · rw [List.pairwise_append]
            exact ⟨hp1, by simp, hp2⟩
          · intro y
            simp
        · have he2 : (x == n) = false := by simpa using he
          rw [he2]
          simp only [Bool.false_eq_true, if_false]
          refine .inr ⟨by trivial, ?_, ?_, x, by simp, hnx⟩
          · rw [List.append_assoc, List.pairwise_append]
            refine ⟨hp1, ?_, ?_⟩
            · simp
              omega
            · intro a ha b hb
              simp at hb
              have := i3 a ha
              have := hp2' a ha
              rcases hb with rfl | rfl <;> omega
          · intro y
            simp
            constructor
            · rintro (h | h | h)
              · exact .inl (.inl h)
              · exact .inr h
              · exact .inl (.inr h)
            · rintro ((h | h) | h)
              · exact .inl h
              · exact .inr (.inr h)
              · exact .inr (.inl h)
      · rw [if_neg hnx]
        have he2 : (x == n) = false := by simp; omega
        rw [he2]
        simp only [Bool.false_eq_true, if_false, i1, i2]
        refine .inl ⟨by trivial, by trivial, ?_⟩
        intro y hy
        rcases List.mem_append.1 hy with hy | hy
        · exact i3 y hy
        · obtain rfl : y = x := by simpa using hy
          omega
    · obtain ⟨z, hz, hnz⟩ := i4
      have hzx := hp2' z hz
      have he2 : (x == n) = false := by simp; omega
      unfold wstep
      simp only [i1, Bool.not_true, Bool.and_false, Bool.false_eq_true, if_false, he2]
      refine .inr ⟨by trivial, ?_, ?_, z, by simp [hz], hnz⟩
      · rw [List.pairwise_append]
        refine ⟨i2, by simp, ?_⟩
        intro a ha b hb
        obtain rfl : b = x := by simpa using hb
        rcases (i3 a).1 ha with h | h
        · exact hp2' a h
        · omega
      · intro y
        rw [List.mem_append, i3 y]
        simp
        constructor
        · rintro ((h | h) | h)
          · exact .inl (.inl h)
          · exact .inr h
          · exact .inl (.inr h)
        · rintro ((h | h) | h)
          · exact .inl (.inl h)
          · exact .inr h
          · exact .inl (.inr h)
theorem up_ext : ∀ (l m : List Int), l.Pairwise (· < ·) → m.Pairwise (· < ·) → (∀ x, x ∈ l ↔ x ∈ m) → l = m
  | [], [], _, _, _ => rfl
  | [], y :: m, _, _, h => absurd ((h y).2 (by simp)) (by simp)
  | x :: l, [], _, _, h => absurd ((h x).1 (by simp)) (by simp)
  | x :: l, y :: m, hl, hm, h => by
    rw [List.pairwise_cons] at hl hm
    have hxy : x = y := by
      rcases List.mem_cons.1 ((h x).1 (by simp)) with e | e
      · exact e
      · rcases List.mem_cons.1 ((h y).2 (by simp)) with e2 | e2
        · exact e2.symm
        · have := hm.1 x e
          have := hl.1 y e2
          omega
    subst hxy
    congr 1
    refine up_ext l m hl.2 hm.2 (fun z => ?_)
    have hz := h z
    simp only [List.mem_cons] at hz
    constructor
    · intro hzl
      rcases hz.1 (.inr hzl) with e | e
      · have := hl.1 z hzl
        omega
      · exact e
    · intro hzm
      rcases hz.2 (.inr hzm) with e | e
      · have := hm.1 z hzm
        omega
      · exact e
theorem withL_eq {l : List Int} {n : Int} (h : l.Pairwise (· < ·)) : withL l n = if has l n then l else sorted (l ++ [n]) := by
  have key : (withL l n).Pairwise (· < ·) ∧ ∀ x, x ∈ withL l n ↔ x ∈ l ∨ x = n := by
    unfold withL
    rcases wfold_inv n l h with ⟨i1, i2, i3⟩ | ⟨i1, i2, i3, i4⟩
    · rw [i1, i2]
      simp only [Bool.false_eq_true, if_false]
      refine ⟨?_, fun x => by simp⟩
      rw [List.pairwise_append]
      refine ⟨h, by simp, ?_⟩
      intro a ha b hb
      obtain rfl : b = n := by simpa using hb
      exact i3 a ha
    · rw [i1]
      exact ⟨i2, i3⟩
  rcases hh : has l n with _ | _
  · rw [has_false] at hh
    simp only [Bool.false_eq_true, if_false]
    refine up_ext _ _ key.1 (sorted_rising ?_) ?_
    · rw [List.nodup_append]
      refine ⟨pairwise_nodup h, by simp, ?_⟩
      intro x hx y hy
      obtain rfl : y = n := by simpa using hy
      rintro rfl
      exact hh hx
    · intro x
      rw [key.2, mem_sorted]
      simp
  · rw [has_iff] at hh
    simp only [if_true]
    refine up_ext _ _ key.1 h (fun x => ?_)
    rw [key.2]
    constructor
    · rintro (h | rfl)
      · exact h
      · exact hh
    · exact .inl
end Go.Proofs.Ytcnmljpabmgieaa.R
