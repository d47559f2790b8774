/- The arena: what a valid arena is, and what a step leaves. No program in sight. -/
import Derived.Test.YtcnmljpabmgieaaAr0
namespace Go.Proofs.Ytcnmljpabmgieaa.R
theorem rising_iff : ∀ l : List Int, rising l = true ↔ l.Pairwise (· < ·)
  | [] => by simp [rising]
  | [x] => by simp [rising]
  | x :: y :: l => by
    have ih := rising_iff (y :: l)
    rw [List.pairwise_cons]
    simp only [rising, Bool.and_eq_true, decide_eq_true_eq]
    rw [ih]
    constructor
    · rintro ⟨h1, h2⟩
      refine ⟨?_, h2⟩
      intro z hz
      rcases List.mem_cons.1 hz with rfl | hz
      · exact h1
      · have := (List.pairwise_cons.1 h2).1 z hz
        omega
    · rintro ⟨h1, h2⟩
      exact ⟨h1 y (by simp), h2⟩
theorem has_iff (l : List Int) (m : Int) : has l m = true ↔ m ∈ l := by
  unfold has
  rw [List.any_eq_true]
  constructor
  · rintro ⟨x, hx, h⟩
    obtain rfl : m = x := by simpa using h
    exact hx
  · intro h
    exact ⟨m, h, by simp⟩
structure Valid (a : Arn) : Prop where
  m0 : 0 ≤ a.Members
  m1 : a.Members ≤ 24
  left : a.Left.Pairwise (· < ·)
  holds : a.Holds.Pairwise (· < ·)
  inl : ∀ x, x ∈ a.Left → 0 ≤ x ∧ x < a.Members
  inh : ∀ x, x ∈ a.Holds → x ∈ a.Left
  eager : a.Eager ≠ -1 → a.Eager ∈ a.Left ∧ a.Open = true
  winner : a.Winner ≠ -1 → (0 ≤ a.Winner ∧ a.Winner < a.Members) ∧ a.Done = true
  done : a.Done = true → a.Open = false ∧ a.Swept = false ∧ a.Left = [] ∧ a.Holds = []
  two : a.Open = false → a.Done = false → 2 ≤ a.Left.length
  swept : a.Swept = true → a.Open = false ∧ a.Holds ≠ []
theorem check_zero (a : Arn) : check a = 0 ↔ Valid a := by
  unfold check bad
  constructor
  · intro h
    split at h
    · cases h
    split at h
    · cases h
    split at h
    · cases h
    rename_i h1 h2 h3
    have h4 := h
    simp only [Bool.or_eq_true, not_or, Bool.not_eq_true', Bool.not_eq_false, decide_eq_true_eq, Int.not_lt] at h1
    obtain ⟨⟨⟨m0, m1⟩, r1⟩, r2⟩ := h1
    simp only [Bool.not_eq_true', Bool.not_eq_false, List.all_eq_true, member, Bool.and_eq_true, decide_eq_true_eq] at h2
    simp only [Bool.not_eq_true', Bool.not_eq_false, List.all_eq_true, has_iff] at h3
    rcases he : (!(a.Eager == -1) && (!has a.Left a.Eager || !a.Open)) with _ | _
    rotate_left
    · rw [he] at h4; simp at h4
    rcases hw : (!(a.Winner == -1) && (!member a a.Winner || !a.Done)) with _ | _
    rotate_left
    · rw [he, hw] at h4; simp at h4
    rcases hd : (a.Done && (a.Open || a.Swept || decide (0 < a.Left.length) || decide (0 < a.Holds.length))) with _ | _
    rotate_left
    · rw [he, hw, hd] at h4; simp at h4
    rcases ht : (!a.Open && !a.Done && decide (a.Left.length < 2)) with _ | _
    rotate_left
    · rw [he, hw, hd, ht] at h4; simp at h4
    rw [he, hw, hd, ht] at h4
    refine ⟨m0, m1, (rising_iff _).1 r1, (rising_iff _).1 r2, h2, h3, ?_, ?_, ?_, ?_, ?_⟩
    · intro hne
      simp only [Bool.and_eq_false_iff, Bool.not_eq_false', beq_iff_eq, Bool.or_eq_false_iff, has_iff] at he
      rcases he with he | he
      · exact absurd he hne
      · exact he
    · intro hne
      simp only [Bool.and_eq_false_iff, Bool.not_eq_false', beq_iff_eq, Bool.or_eq_false_iff, member, Bool.and_eq_true, decide_eq_true_eq] at hw
      rcases hw with hw | hw
      · exact absurd hw hne
      · exact hw
    · intro hD
      simp only [hD, Bool.true_and, Bool.or_eq_false_iff, decide_eq_false_iff_not, Nat.not_lt, Nat.le_zero_eq, List.length_eq_zero_iff] at hd
      exact ⟨hd.1.1.1, hd.1.1.2, hd.1.2, hd.2⟩
    · intro hO hD
      simp only [hO, hD, Bool.not_false, Bool.true_and, decide_eq_false_iff_not] at ht
      omega
    · intro hS
      simp only [hS, Bool.true_and, Bool.false_eq_true, if_false] at h4
      split at h4
      · cases h4
      rename_i h5
      simp only [Bool.or_eq_true, decide_eq_true_eq, not_or, Bool.not_eq_true] at h5
      exact ⟨h5.1, fun h => h5.2 (by rw [h]; rfl)⟩
  · rintro ⟨m0, m1, r1, r2, h2, h3, he, hw, hd, ht, hs⟩
    have c1 : (decide (a.Members < 0) || decide (24 < a.Members) || !rising a.Left || !rising a.Holds) = false := by
      rw [(rising_iff _).2 r1, (rising_iff _).2 r2]
      simp
      omega
    have c2 : a.Left.all (member a) = true := by
      simp only [List.all_eq_true, member, Bool.and_eq_true, decide_eq_true_eq]
      exact h2
    have c3 : a.Holds.all (has a.Left) = true := by
      simp only [List.all_eq_true, has_iff]
      exact h3
    have d1 : (!(a.Eager == -1) && (!has a.Left a.Eager || !a.Open)) = false := by
      simp only [Bool.and_eq_false_iff, Bool.not_eq_false', beq_iff_eq, Bool.or_eq_false_iff, has_iff]
      by_cases h : a.Eager = -1
      · exact .inl h
      · exact .inr (he h)
    have d2 : (!(a.Winner == -1) && (!member a a.Winner || !a.Done)) = false := by
      simp only [Bool.and_eq_false_iff, Bool.not_eq_false', beq_iff_eq, Bool.or_eq_false_iff, member, Bool.and_eq_true, decide_eq_true_eq]
      by_cases h : a.Winner = -1
      · exact .inl h
      · exact .inr (hw h)
    have d3 : (a.Done && (a.Open || a.Swept || decide (0 < a.Left.length) || decide (0 < a.Holds.length))) = false := by
      cases hD : a.Done
      · rfl
      · obtain ⟨x1, x2, x3, x4⟩ := hd hD
        rw [x1, x2, x3, x4]
        rfl
    have d4 : (!a.Open && !a.Done && decide (a.Left.length < 2)) = false := by
      cases hO : a.Open
      · cases hD : a.Done
        · have := ht hO hD
          simp
          omega
        · simp
      · simp
    have d5 : (a.Swept && (a.Open || decide (a.Holds.length = 0))) = false := by
      cases hS : a.Swept
      · rfl
      · obtain ⟨x1, x2⟩ := hs hS
        rw [x1]
        simpa using x2
    rw [c1, c2, c3, d1, d2, d3, d4, d5]
    rfl
theorem newA_valid (n : Int) (h0 : 0 ≤ n) (h1 : n ≤ 24) : Valid (newA n).1 := by
  unfold newA
  rw [if_neg (by omega)]
  refine ⟨h0, h1, ?_, List.Pairwise.nil, ?_, fun x h => absurd h (by simp), fun h => absurd rfl h, fun h => absurd rfl h, fun h => (by cases h), fun h => (by cases h), fun h => (by cases h)⟩
  · rw [List.pairwise_map]
    exact List.pairwise_lt_range.imp (fun h => by simpa using h)
  · intro x hx
    simp only [List.mem_map, List.mem_range] at hx
    obtain ⟨i, hi, rfl⟩ := hx
    simp only [Int.ofNat_eq_natCast]
    omega
theorem mem_without {l : List Int} {m x : Int} : x ∈ without l m ↔ x ∈ l ∧ x ≠ m := by
  unfold without
  simp
theorem without_rising {l : List Int} (m : Int) (h : l.Pairwise (· < ·)) : (without l m).Pairwise (· < ·) := h.filter _
theorem wo_len {l : List Int} {m : Int} (h : l.Pairwise (· < ·)) (hm : m ∈ l) : (without l m).length + 1 = l.length := by
  induction l with
  | nil => simp at hm
  | cons x l ih =>
    rw [List.pairwise_cons] at h
    unfold without at ih ⊢
    by_cases hx : x = m
    · subst hx
      have : l.filter (fun y => !(y == x)) = l := by
        rw [List.filter_eq_self]
        intro y hy
        have := h.1 y hy
        simp
        omega
      simp [this]
    · rcases List.mem_cons.1 hm with rfl | hm
      · exact absurd rfl hx
      · have := ih h.2 hm
        simp [hx, this]
theorem mem_sorted {l : List Int} {x : Int} : x ∈ sorted l ↔ x ∈ l := by
  unfold sorted
  exact (List.mergeSort_perm l _).mem_iff
theorem sorted_rising {l : List Int} (h : l.Nodup) : (sorted l).Pairwise (· < ·) := by
  have h1 : (sorted l).Pairwise (fun a b => decide (a ≤ b) = true) := List.pairwise_mergeSort (by intro a b c; simp; omega) (by intro a b; simp; omega) l
  have h2 : (sorted l).Nodup := (List.mergeSort_perm l _).nodup_iff.2 h
  have h3 := h1.and h2
  refine h3.imp ?_
  rintro a b ⟨h1, h2⟩
  simp at h1
  omega
theorem pairwise_nodup {l : List Int} (h : l.Pairwise (· < ·)) : l.Nodup := h.imp (fun h => by omega)
theorem refuse_zero {a : Arn} {e : AEv} (h : refuse a e = 0) : Valid a ∧ a.Done = false ∧ 1 ≤ e.Kind ∧ e.Kind ≤ 6 ∧
    (e.Kind = 2 ∨ e.Kind = 3 ∨ e.Kind = 4 → e.Member ∈ a.Left) ∧ (e.Kind = 5 → e.Member ∈ a.Holds) ∧ (e.Kind = 1 → a.Open = true) ∧ (e.Kind = 6 → a.Open = false) := by
  unfold refuse at h
  split at h
  · rename_i hc
    rw [h] at hc
    simp at hc
  rename_i hc
  simp at hc
  have hv := (check_zero a).1 hc
  split at h
  · cases h
  rename_i hk
  simp only [Bool.or_eq_true, decide_eq_true_eq, not_or] at hk
  split at h
  · cases h
  rename_i hd
  refine ⟨hv, by simpa using hd, by omega, by omega, ?_⟩
  by_cases h234 : e.Kind = 2 ∨ e.Kind = 3 ∨ e.Kind = 4
  · rw [if_pos h234] at h
    split at h
    · rename_i hh
      exact ⟨fun _ => (has_iff _ _).1 hh, fun h5 => by omega, fun h5 => by omega, fun h5 => by omega⟩
    · cases h
  rw [if_neg h234] at h
  by_cases h5 : e.Kind = 5
  · rw [if_pos h5] at h
    split at h
    · rename_i hh
      exact ⟨fun h5 => by omega, fun _ => (has_iff _ _).1 hh, fun h5 => by omega, fun h5 => by omega⟩
    · cases h
  rw [if_neg h5] at h
  by_cases h1 : e.Kind = 1
  · rw [if_pos h1] at h
    split at h
    · rename_i hh
      exact ⟨fun h5 => by omega, fun h5 => by omega, fun _ => hh, fun h5 => by omega⟩
    · cases h
  rw [if_neg h1] at h
  split at h
  · cases h
  · rename_i hh
    exact ⟨fun h5 => by omega, fun h5 => by omega, fun h5 => by omega, fun _ => by simpa using hh⟩
/-- what a step that is not refused leaves -/
structure Left (a : Arn) (b : Arn) (v : List Vd) : Prop where
  valid : Valid b
  members : b.Members = a.Members
  nodup : (v.map Vd.Member).Nodup
  old : ∀ x, x ∈ v → x.Member ∈ a.Left
  left : ∀ m, m ∈ b.Left ↔ m ∈ a.Left ∧ m ∉ v.map Vd.Member
  won : ∀ x, x ∈ v → x.Won = (x.Member == b.Winner)
  who : b.Winner ≠ -1 → b.Winner ∈ v.map Vd.Member
  len : b.Left.length ≤ a.Left.length
theorem decide_left {a : Arn} {m : Int} (hm0 : 0 ≤ a.Members) (hm1 : a.Members ≤ 24) (hp : a.Left.Pairwise (· < ·)) (hi : ∀ x, x ∈ a.Left → 0 ≤ x ∧ x < a.Members) (hm : m = -1 ∨ m ∈ a.Left) : Left a (decideA a m).1 (decideA a m).2 := by
  unfold decideA
  have hmap : (a.Left.map fun x => (⟨x, x == m⟩ : Vd)).map Vd.Member = a.Left := by
    rw [List.map_map]
    exact List.map_id' _
  refine ⟨⟨hm0, hm1, List.Pairwise.nil, List.Pairwise.nil, fun x h => absurd h (by simp), fun x h => absurd h (by simp), fun h => absurd rfl h, fun h => ⟨hi _ (hm.resolve_left h), rfl⟩, fun _ => ⟨rfl, rfl, rfl, rfl⟩, fun _ h => (by cases h), fun h => (by cases h)⟩, rfl, ?_, ?_, ?_, ?_, ?_, ?_⟩
  · rw [hmap]
    exact pairwise_nodup hp
  · intro x hx
    simp only [List.mem_map] at hx
    obtain ⟨y, hy, rfl⟩ := hx
    exact hy
  · intro m
    rw [hmap]
    simp
  · intro x hx
    simp only [List.mem_map] at hx
    obtain ⟨y, hy, rfl⟩ := hx
    rfl
  · intro h
    rw [hmap]
    exact hm.resolve_left h
  · simp
theorem Left.same {a b : Arn} (hv : Valid b) (hm : b.Members = a.Members) (hl : b.Left = a.Left) (hw : b.Winner = -1) : Left a b [] :=
  ⟨hv, hm, List.nodup_nil, fun x h => absurd h (by simp), fun m => by rw [hl]; simp, fun x h => absurd h (by simp), fun h => absurd hw h, by rw [hl]; exact Nat.le_refl _⟩
theorem closed_eq (a : Arn) : closed a = if a.Eager = -1 then (if a.Left.length = 0 then decideA { a with Open := false } (-1) else if a.Left.length = 1 then decideA { a with Open := false } (a.Left.headD 0) else ({ a with Open := false }, [])) else decideA { a with Open := false } a.Eager := by
  obtain ⟨A, L, c, d, e, f, g, h⟩ := a
  unfold closed
  rcases L with _ | ⟨x, _ | ⟨y, l⟩⟩ <;> rfl
theorem step_left {a : Arn} {e : AEv} (h : refuse a e = 0) : Left a (act a e).1 (act a e).2 := by
  obtain ⟨hv, hd, hk1, hk2, h234, h5, h1, h6⟩ := refuse_zero h
  obtain ⟨m0, m1, r1, r2, h2, h3, he, hw, hdn, ht, hs⟩ := hv
  have hw1 : a.Winner = -1 := by
    by_cases hx : a.Winner = -1
    · exact hx
    · have := (hw hx).2
      rw [hd] at this
      cases this
  have hnd : ∀ (b : Arn), b.Winner = -1 → b.Winner ≠ -1 → ((0 ≤ b.Winner ∧ b.Winner < b.Members) ∧ b.Done = true) := fun b hb hx => absurd hb hx
  have hswe : ∀ {b : Arn}, b.Open = false → (b.Holds = [] → b.Swept = false) → (b.Swept = true → b.Open = false ∧ b.Holds ≠ []) := fun ho hb hsw => ⟨ho, fun hh => by rw [hb hh] at hsw; cases hsw⟩
  unfold act
  by_cases k1 : e.Kind = 1
  · rw [if_pos k1]
    have ho := h1 k1
    rw [closed_eq]
    by_cases he1 : a.Eager = -1
    · rw [if_pos he1]
      by_cases l0 : a.Left.length = 0
      · rw [if_pos l0]
        have := decide_left (a := { a with Open := false }) (m := -1) m0 m1 r1 h2 (.inl rfl)
        exact ⟨this.valid, this.members, this.nodup, this.old, this.left, this.won, this.who, this.len⟩
      rw [if_neg l0]
      by_cases l1 : a.Left.length = 1
      · rw [if_pos l1]
        have hin : a.Left.headD 0 ∈ a.Left := by
          rcases hL : a.Left with _ | ⟨y, l⟩
          · rw [hL] at l1
            cases l1
          · simp
        have := decide_left (a := { a with Open := false }) (m := a.Left.headD 0) m0 m1 r1 h2 (.inr hin)
        exact ⟨this.valid, this.members, this.nodup, this.old, this.left, this.won, this.who, this.len⟩
      · rw [if_neg l1]
        refine Left.same ⟨m0, m1, r1, r2, h2, h3, fun hx => absurd he1 hx, fun hx => absurd hw1 hx, ?_, ?_, ?_⟩ rfl rfl hw1
        · intro hD
          simp only at hD
          rw [hd] at hD
          cases hD
        · intro _ _
          simp only
          omega
        · intro hS
          have := (hs hS).1
          rw [ho] at this
          cases this
    · rw [if_neg he1]
      have := decide_left (a := { a with Open := false }) (m := a.Eager) m0 m1 r1 h2 (.inr (he he1).1)
      exact ⟨this.valid, this.members, this.nodup, this.old, this.left, this.won, this.who, this.len⟩
  rw [if_neg k1]
  by_cases k2 : e.Kind = 2
  · rw [if_pos k2]
    have hm := h234 (.inl k2)
    cases ho : a.Open
    · rw [if_neg (by decide)]
      exact decide_left m0 m1 r1 h2 (.inr hm)
    · rw [if_pos rfl]
      by_cases he1 : a.Eager = -1
      · rw [if_pos he1]
        refine Left.same ⟨m0, m1, r1, r2, h2, h3, fun _ => ⟨hm, rfl⟩, hw, ?_, fun h => (by cases h), ?_⟩ rfl rfl hw1
        · intro hD
          simp only at hD
          rw [hd] at hD
          cases hD
        · intro hS
          have := (hs hS).1
          rw [ho] at this
          cases this
      · rw [if_neg he1]
        exact Left.same ⟨m0, m1, r1, r2, h2, h3, he, hw, hdn, ht, hs⟩ rfl rfl hw1
  rw [if_neg k2]
  by_cases k3 : e.Kind = 3
  · rw [if_pos k3]
    have hm := h234 (.inr (.inl k3))
    have hm0 := (h2 _ hm).1
    have hlen := wo_len r1 hm
    have inh' : ∀ x, x ∈ without a.Holds e.Member → x ∈ without a.Left e.Member := fun x hx => mem_without.2 ⟨h3 x (mem_without.1 hx).1, (mem_without.1 hx).2⟩
    unfold quit
    simp only
    cases ho : a.Open
    · rw [if_neg (by decide)]
      have h2L := ht ho hd
      have heag : a.Eager = -1 := by
        by_cases hx : a.Eager = -1
        · exact hx
        · have := (he hx).2
          rw [ho] at this
          cases this
      have hb : ∀ (m' : Int), m' = (without a.Left e.Member).headD 0 → (2 ≤ a.Left.length) → Left a (decideA { a with Open := false, Left := without a.Left e.Member, Holds := without a.Holds e.Member, Eager := if a.Eager = e.Member then -1 else a.Eager } m').1 (⟨e.Member, false⟩ :: (decideA { a with Open := false, Left := without a.Left e.Member, Holds := without a.Holds e.Member, Eager := if a.Eager = e.Member then -1 else a.Eager } m').2) := by
        intro m' hm' h2L
        have hin : m' ∈ without a.Left e.Member := by
          rcases hW : without a.Left e.Member with _ | ⟨y, l⟩
          · rw [hW] at hlen
            simp at hlen
            omega
          · rw [hm', hW]
            simp
        have hD := decide_left (a := { a with Open := false, Left := without a.Left e.Member, Holds := without a.Holds e.Member, Eager := if a.Eager = e.Member then -1 else a.Eager }) (m := m') m0 m1 (without_rising _ r1) (fun x hx => h2 x (mem_without.1 hx).1) (.inr hin)
        have hwin : (decideA { a with Open := false, Left := without a.Left e.Member, Holds := without a.Holds e.Member, Eager := if a.Eager = e.Member then -1 else a.Eager } m').1.Winner = m' := rfl
        refine ⟨hD.valid, hD.members, ?_, ?_, ?_, ?_, ?_, ?_⟩
        · rw [List.map_cons, List.nodup_cons]
          refine ⟨?_, hD.nodup⟩
          intro hx
          obtain ⟨y, hy, hye⟩ := List.mem_map.1 hx
          have := hD.old y hy
          simp only at this
          exact (mem_without.1 this).2 (by simpa using hye)
        · intro x hx
          rcases List.mem_cons.1 hx with rfl | hx
          · exact hm
          · exact (mem_without.1 (hD.old x hx)).1
        · intro m
          rw [hD.left m, List.map_cons, List.mem_cons]
          simp only [mem_without]
          constructor
          · rintro ⟨⟨h1, h2⟩, h3⟩
            exact ⟨h1, fun h => h.elim h2 h3⟩
          · rintro ⟨h1, h2⟩
            exact ⟨⟨h1, fun h => h2 (.inl h)⟩, fun h => h2 (.inr h)⟩
        · intro x hx
          rcases List.mem_cons.1 hx with rfl | hx
          · simp only [hwin]
            have := (mem_without.1 hin).2
            have hne : ¬ e.Member = m' := fun h => this h.symm
            simp [hne]
          · exact hD.won x hx
        · intro hx
          rw [List.map_cons]
          exact List.mem_cons_of_mem _ (hD.who hx)
        · have := hD.len
          simp only at this
          omega
      by_cases hl1 : (without a.Left e.Member).length = 1
      · rw [if_pos hl1]
        exact hb _ rfl h2L
      · rw [if_neg hl1]
        unfold settle
        simp only
        split
        · exact hb _ rfl h2L
        · rename_i hset
          refine ⟨⟨m0, m1, without_rising _ r1, without_rising _ r2, fun x hx => h2 x (mem_without.1 hx).1, inh', ?_, fun hx => absurd hw1 hx, ?_, ?_, ?_⟩, rfl, by simp, ?_, ?_, ?_, fun hx => absurd hw1 hx, ?_⟩
          · intro hx
            simp only [heag] at hx
            split at hx
            · exact absurd rfl hx
            · exact absurd rfl hx
          · intro hD
            simp only at hD
            rw [hd] at hD
            cases hD
          · intro _ _
            simp only
            omega
          · intro hS
            simp only at hS
            refine ⟨rfl, fun hh => ?_⟩
            simp only at hh
            rw [hS, hh] at hset
            exact hset rfl
          · intro x hx
            simp only [List.mem_singleton] at hx
            subst hx
            exact hm
          · intro m
            simp [mem_without]
          · intro x hx
            simp only [List.mem_singleton] at hx
            subst hx
            simp only [hw1]
            have : ¬ e.Member = -1 := by omega
            simp [this]
          · simp only
            omega
    · rw [if_pos rfl]
      refine ⟨⟨m0, m1, without_rising _ r1, without_rising _ r2, fun x hx => h2 x (mem_without.1 hx).1, inh', ?_, fun hx => absurd hw1 hx, ?_, ?_, ?_⟩, rfl, by simp, ?_, ?_, ?_, fun hx => absurd hw1 hx, ?_⟩
      · intro hx
        simp only at hx ⊢
        split at hx
        · exact absurd rfl hx
        · rename_i hne
          rw [if_neg hne]
          refine ⟨mem_without.2 ⟨(he hx).1, hne⟩, ?_⟩
          first | rfl | trivial
      · intro hD
        simp only at hD
        rw [hd] at hD
        cases hD
      · intro hO
        cases hO
      · intro hS
        have := (hs hS).1
        rw [ho] at this
        cases this
      · intro x hx
        simp only [List.mem_singleton] at hx
        subst hx
        exact hm
      · intro m
        simp [mem_without]
      · intro x hx
        simp only [List.mem_singleton] at hx
        subst hx
        simp only [hw1]
        have : ¬ e.Member = -1 := by omega
        simp [this]
      · simp only
        omega
  rw [if_neg k3]
  by_cases k4 : e.Kind = 4
  · rw [if_pos k4]
    have hm := h234 (.inr (.inr k4))
    cases hh : has a.Holds e.Member
    · rw [if_neg (by decide)]
      have hnot : e.Member ∉ a.Holds := fun h => by rw [(has_iff _ _).2 h] at hh; cases hh
      refine Left.same ⟨m0, m1, r1, ?_, h2, ?_, he, hw, ?_, ht, ?_⟩ rfl rfl hw1
      · refine sorted_rising ?_
        rw [List.nodup_append]
        refine ⟨pairwise_nodup r2, by simp, ?_⟩
        intro x hx y hy
        simp only [List.mem_singleton] at hy
        subst hy
        rintro rfl
        exact hnot hx
      · intro x hx
        simp only [mem_sorted, List.mem_append, List.mem_singleton] at hx
        rcases hx with hx | rfl
        · exact h3 x hx
        · exact hm
      · intro hD
        simp only at hD
        rw [hd] at hD
        cases hD
      · intro hS
        refine ⟨(hs hS).1, fun hx => ?_⟩
        have : e.Member ∈ sorted (a.Holds ++ [e.Member]) := by simp [mem_sorted]
        simp only at hx
        rw [hx] at this
        cases this
    · rw [if_pos rfl]
      exact Left.same ⟨m0, m1, r1, r2, h2, h3, he, hw, hdn, ht, hs⟩ rfl rfl hw1
  rw [if_neg k4]
  have hset : ∀ (b : Arn), b.Members = a.Members → b.Left = a.Left → b.Winner = a.Winner → b.Open = a.Open → b.Eager = a.Eager → b.Done = a.Done → (b.Swept = true → b.Open = false) → b.Holds.Pairwise (· < ·) → (∀ x, x ∈ b.Holds → x ∈ a.Left) → Left a (settle b).1 (settle b).2 := by
    intro b e1 e2 e3 e4 e5 e6 hso hp hi
    unfold settle
    split
    · rename_i hc
      simp only [Bool.and_eq_true, decide_eq_true_eq] at hc
      have hO := hso hc.1
      have h2L := ht (by rw [← e4]; exact hO) hd
      have := decide_left (a := b) (m := b.Left.headD 0) (by rw [e1]; exact m0) (by rw [e1]; exact m1) (by rw [e2]; exact r1) (by rw [e2, e1]; exact h2) (.inr (by
        rw [e2]
        rcases hL : a.Left with _ | ⟨y, l⟩
        · rw [hL] at h2L
          simp at h2L
        · simp))
      refine ⟨this.valid, this.members.trans e1, this.nodup, ?_, ?_, this.won, this.who, ?_⟩
      · rw [← e2]; exact this.old
      · rw [← e2]; exact this.left
      · rw [← e2]; exact this.len
    · rename_i hc
      refine Left.same ⟨by rw [e1]; exact m0, by rw [e1]; exact m1, by rw [e2]; exact r1, hp, by rw [e1, e2]; exact h2, by rw [e2]; exact hi, by rw [e5, e2, e4]; exact he, by rw [e3]; exact fun hx => absurd hw1 hx, ?_, by rw [e4, e6, e2]; exact ht, ?_⟩ e1 e2 (by rw [e3]; exact hw1)
      · rw [e6, hd]
        intro h
        cases h
      · intro hS
        refine ⟨hso hS, fun hh => hc ?_⟩
        rw [hS, hh]
        rfl
  by_cases k5 : e.Kind = 5
  · rw [if_pos k5]
    exact hset _ rfl rfl rfl rfl rfl rfl (fun h => (hs h).1) (without_rising _ r2) (fun x hx => h3 x (mem_without.1 hx).1)
  · rw [if_neg k5]
    exact hset _ rfl rfl rfl rfl rfl rfl (fun _ => h6 (by omega)) r2 h3
end Go.Proofs.Ytcnmljpabmgieaa.R
