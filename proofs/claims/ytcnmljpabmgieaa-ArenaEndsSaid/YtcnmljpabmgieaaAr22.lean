/- ArenaVerdicts: plain facts. -/
import Derived.Test.YtcnmljpabmgieaaAr19
namespace Go.Proofs.Ytcnmljpabmgieaa.R
/-- how many verdicts each member has: 0 for those that the list holds, 1 for the rest -/
def gotL (n : Nat) (p : Int → Bool) : List Int := (List.range n).map fun m : Nat => if p (m : Int) then 0 else 1
theorem gotL_len (n : Nat) (p : Int → Bool) : (gotL n p).length = n := by simp [gotL]
theorem gotL_get (n : Nat) (p : Int → Bool) (m : Nat) (h : m < n) : (gotL n p)[m]? = some (if p m then 0 else 1) := by simp [gotL, h]
theorem gotL_set (n : Nat) (p q : Int → Bool) (m : Nat) (h : m < n) (hp : q m = false) (ho : ∀ i : Nat, i ≠ m → q i = p i) : (gotL n p).set m 1 = gotL n q := by
  apply List.ext_getElem?
  intro i
  by_cases hi : i < n
  · rw [gotL_get n q i hi]
    by_cases hm : m = i
    · subst hm
      rw [List.getElem?_set_self (by simpa [gotL] using h), hp]
      rfl
    · rw [List.getElem?_set_ne hm, gotL_get n p i hi, ho i (fun e => hm e.symm)]
  · rw [List.getElem?_eq_none (by simp [gotL]; omega), List.getElem?_eq_none (by simp [gotL]; omega)]
theorem gotL_congr (n : Nat) (p q : Int → Bool) (h : ∀ i : Nat, i < n → p i = q i) : gotL n p = gotL n q := by
  unfold gotL
  apply List.map_congr_left
  intro i hi
  rw [h i (List.mem_range.1 hi)]
/-- has no verdict after k of the verdicts v -/
def free (a : Arn) (v : List Vd) (k : Nat) (m : Int) : Bool := has a.Left m && !has ((v.take k).map Vd.Member) m
def winsK (b : Arn) (v : List Vd) (k : Nat) : Int := if has ((v.take k).map Vd.Member) b.Winner then 1 else 0
theorem has_false (l : List Int) (m : Int) : has l m = false ↔ m ∉ l := by
  rw [← Bool.not_eq_true, has_iff]
theorem take_snoc {v : List Vd} {k : Nat} {x : Vd} (h : v[k]? = some x) : (v.take (k + 1)).map Vd.Member = (v.take k).map Vd.Member ++ [x.Member] := by
  rw [List.take_add_one, h]
  simp
theorem nodup_take {v : List Vd} (hn : (v.map Vd.Member).Nodup) {k : Nat} {x : Vd} (h : v[k]? = some x) : x.Member ∉ (v.take k).map Vd.Member := by
  have h1 : v.map Vd.Member = (v.take k).map Vd.Member ++ (v.drop k).map Vd.Member := by rw [← List.map_append, List.take_append_drop]
  rw [h1, List.nodup_append] at hn
  intro hm
  refine hn.2.2 _ hm x.Member ?_ rfl
  refine List.mem_map_of_mem (List.mem_iff_getElem?.2 ⟨0, ?_⟩)
  rw [List.getElem?_drop]
  exact h
theorem free_one {a b : Arn} {v : List Vd} (h : Left a b v) (ha : Valid a) {k : Nat} {x : Vd} (hx : v[k]? = some x) :
    0 ≤ x.Member ∧ x.Member < a.Members ∧ free a v k x.Member = true ∧ free a v (k + 1) x.Member = false ∧ (∀ i : Int, i ≠ x.Member → free a v (k + 1) i = free a v k i) ∧
    (x.Won = true → b.Winner = x.Member ∧ winsK b v k = 0 ∧ winsK b v (k + 1) = 1) ∧ (x.Won = false → winsK b v (k + 1) = winsK b v k) := by
  have hm := h.old x (List.mem_iff_getElem?.2 ⟨k, hx⟩)
  have hb := ha.inl _ hm
  have hnt := nodup_take h.nodup hx
  have hw := h.won x (List.mem_iff_getElem?.2 ⟨k, hx⟩)
  refine ⟨hb.1, hb.2, ?_, ?_, ?_, ?_, ?_⟩
  · unfold free
    rw [(has_iff _ _).2 hm, (has_false _ _).2 hnt]
    rfl
  · unfold free
    rw [take_snoc hx, (has_iff ((v.take k).map Vd.Member ++ [x.Member]) x.Member).2 (by simp)]
    simp
  · intro i hi
    unfold free
    rw [take_snoc hx]
    congr 2
    rw [Bool.eq_iff_iff, has_iff, has_iff]
    simp [hi]
  · intro hwon
    rw [hwon] at hw
    have hw' : x.Member = b.Winner := by simpa using hw.symm
    refine ⟨hw'.symm, ?_, ?_⟩
    · unfold winsK
      rw [← hw', (has_false _ _).2 hnt]
      rfl
    · unfold winsK
      rw [← hw', take_snoc hx, (has_iff ((v.take k).map Vd.Member ++ [x.Member]) x.Member).2 (by simp)]
      rfl
  · intro hwon
    rw [hwon] at hw
    have hw' : ¬ x.Member = b.Winner := by simpa using hw.symm
    unfold winsK
    rw [take_snoc hx]
    have : has ((v.take k).map Vd.Member ++ [x.Member]) b.Winner = has ((v.take k).map Vd.Member) b.Winner := by
      rw [Bool.eq_iff_iff, has_iff, has_iff]
      rw [List.mem_append, List.mem_singleton]
      exact ⟨fun h => h.elim id (fun e => absurd e.symm hw'), .inl⟩
    rw [this]
/-- between the steps: no verdict for those that are left, one for the rest; one has won if the arena has a winner -/
def leftP (a : Arn) (m : Int) : Bool := has a.Left m
def winsA (a : Arn) : Int := if a.Winner = -1 then 0 else 1
theorem free_zero (a : Arn) (v : List Vd) (m : Int) : free a v 0 m = leftP a m := by simp [free, leftP, has]
theorem free_all {a b : Arn} {v : List Vd} (h : Left a b v) (m : Int) : free a v v.length m = leftP b m := by
  unfold free leftP
  rw [List.take_length, Bool.eq_iff_iff, has_iff, h.left m, Bool.and_eq_true, has_iff, Bool.not_eq_true', has_false]
theorem wins_zero (b : Arn) (v : List Vd) : winsK b v 0 = 0 := by simp [winsK, has]
theorem wins_all {a b : Arn} {v : List Vd} (h : Left a b v) (ha : Valid a) : winsK b v v.length = winsA b := by
  unfold winsK winsA
  rw [List.take_length]
  by_cases hw : b.Winner = -1
  · rw [if_pos hw, hw]
    have : has (v.map Vd.Member) (-1) = false := by
      rw [has_false]
      intro hm
      obtain ⟨x, hx, he⟩ := List.mem_map.1 hm
      have := (ha.inl _ (h.old x hx)).1
      omega
    rw [this]
    rfl
  · rw [if_neg hw, (has_iff _ _).2 (h.who hw)]
    rfl
theorem winsA_bound (a : Arn) : 0 ≤ winsA a ∧ winsA a ≤ 1 := by
  unfold winsA
  split <;> omega
theorem winsA_eq {a : Arn} (ha : Valid a) : (winsA a == 1) = decide (0 ≤ a.Winner) := by
  unfold winsA
  by_cases hw : a.Winner = -1
  · rw [if_pos hw, hw]
    rfl
  · rw [if_neg hw]
    have := (ha.winner hw).1.1
    simp [this]
theorem done_got {a : Arn} (ha : Valid a) (hd : a.Done = true) (n m : Nat) (h : m < n) : (gotL n (leftP a))[m]? = some 1 := by
  rw [gotL_get n _ m h]
  have : leftP a m = false := by
    unfold leftP
    rw [(ha.done hd).2.2.1]
    rfl
  rw [this]
  rfl
theorem start_got (n : Nat) (h : n ≤ 24) : gotL n (leftP (newA n).1) = List.replicate n 0 := by
  apply List.ext_getElem?
  intro i
  by_cases hi : i < n
  · rw [gotL_get n _ i hi, List.getElem?_replicate_of_lt hi]
    have : leftP (newA n).1 i = true := by
      unfold leftP newA
      rw [if_neg (by omega), has_iff]
      simp only [Int.toNat_natCast, List.mem_map, List.mem_range]
      exact ⟨i, hi, rfl⟩
    rw [this]
    rfl
  · rw [List.getElem?_eq_none (by simp [gotL]; omega), List.getElem?_eq_none (by simp; omega)]
theorem start_wins (n : Int) (h : 0 ≤ n) (h2 : n ≤ 24) : winsA (newA n).1 = 0 := by
  unfold newA
  rw [if_neg (by omega)]
  rfl
theorem wins_open {a : Arn} {e : AEv} (h : refuse a e = 0) : winsA a = 0 := by
  obtain ⟨hv, hd, _⟩ := refuse_zero h
  unfold winsA
  by_cases hw : a.Winner = -1
  · rw [if_pos hw]
  · have := (hv.winner hw).2
    rw [hd] at this
    cases this
/-- a step of a valid arena: refused, or what it leaves -/
theorem step_cases (a : Arn) (e : AEv) : ((step a e).2.2 ≠ 0 ∧ (step a e).1 = .zero ∧ (step a e).2.1 = []) ∨ (refuse a e = 0 ∧ (step a e).2.2 = 0 ∧ Left a (step a e).1 (step a e).2.1) := by
  unfold step
  by_cases h : refuse a e = 0
  · refine .inr ⟨h, ?_⟩
    rw [h]
    exact ⟨rfl, step_left h⟩
  · refine .inl ?_
    have : (!refuse a e == 0) = true := by simpa using h
    rw [if_pos this]
    exact ⟨h, rfl, rfl⟩
theorem nodup_le : ∀ (l m : List Int), l.Nodup → (∀ x, x ∈ l → x ∈ m) → l.length ≤ m.length
  | [], m, _, _ => Nat.zero_le _
  | x :: l, m, hn, h => by
    rw [List.nodup_cons] at hn
    have hx := h x (by simp)
    have := nodup_le l (m.erase x) hn.2 (fun y hy => by
      have hne : y ≠ x := fun e => hn.1 (e ▸ hy)
      exact (List.mem_erase_of_ne hne).2 (h y (by simp [hy])))
    rw [List.length_erase_of_mem hx] at this
    have := List.length_pos_of_mem hx
    simp only [List.length_cons]
    omega
theorem left_len {a : Arn} (h : Valid a) : a.Left.length ≤ 24 := by
  have := up_len a.Left 0 a.Members h.left h.inl
  have := h.m1
  omega
theorem holds_len {a : Arn} (h : Valid a) : a.Holds.length ≤ 24 := by
  have := up_len a.Holds 0 a.Members h.holds (fun x hx => h.inl x (h.inh x hx))
  have := h.m1
  omega
theorem vd_len {a b : Arn} {v : List Vd} (h : Left a b v) (ha : Valid a) : v.length ≤ 24 := by
  have h1 : (v.map Vd.Member).length ≤ a.Left.length := by
    have h2 := h.nodup
    have h3 : ∀ x, x ∈ v.map Vd.Member → x ∈ a.Left := by
      intro x hx
      obtain ⟨y, hy, rfl⟩ := List.mem_map.1 hx
      exact h.old y hy
    exact nodup_le _ _ h2 h3
  rw [List.length_map] at h1
  have := left_len ha
  omega
end Go.Proofs.Ytcnmljpabmgieaa.R
