/- The reference's arena: without, with, EqualInts. -/
import Derived.Test.YtcnmljpabmgieaaAr26
import Derived.WalkKit
import Derived.WalkSpells
import Derived.WalkLawsBesides
import Derived.Deep.QuietTactic
import Derived.BigQuiet
import Derived.BigRegion
import Derived.Lib.Hide
import Derived.Deep.RegionWith
set_option linter.unusedSimpArgs false
set_option linter.unusedVariables false
namespace Go.Proofs.Ytcnmljpabmgieaa.R
open Go.RowKit
theorem mapI_snoc (l : List Int) (x : Int) : (l ++ [x]).map (Value.int .i64) = l.map (Value.int .i64) ++ [.int .i64 x] := by simp
theorem without_snocW (l : List Int) (m : Int) (j : Nat) (x : Int) (hx : l[j]? = some x) (hq : (x == m) = false) : (without (l.take (j + 1)) m).map (Value.int .i64) = (without (l.take j) m).map (Value.int .i64) ++ [.int .i64 x] := by
  rw [without_snoc l m j x hx, hq]
  simp
set_option maxHeartbeats 2000000 in
theorem rWithout_ok (l : List Int) (m : Int) (a : Option Addr) (cap : Nat) (w : World) (hl : l.length ≤ 1000000) (h : RepI w a l) :
    Calls Try.prog 43 #[.slice a l.length cap, .int .i64 m] w fun e w' => ∃ a' c', e = .returned (.slice a' (without l m).length c') ∧ Ext w w' ∧ OI w.heap.size w' a' c' (without l m) := by
  obtain ⟨n, hn⟩ : ∃ n, n = l.length := ⟨_, rfl⟩
  rw [← hn] at hl ⊢
  replace hn := Lib.hid hn
  replace h := Lib.hid h
  obtain ⟨Z, hZ⟩ : ∃ Z, Z = without l m := ⟨_, rfl⟩
  rw [← hZ]
  replace hZ := Lib.hid hZ
  have hw0 : Hid (without (l.take 0) m = []) := Lib.hid (by simp [without])
  go_enter Try.func43, Try.ntmps43
  go_wp2
  go_loopg [5, 6] n (fun g v5 v6 wr => ∃ (j q : Nat) (ta : Option Addr) (tc : Nat), v5 = .slice ta q tc ∧ v6 = .int .i64 j ∧ j ≤ n ∧ g = n - j ∧ q ≤ j ∧ Hid (q = (without (l.take j) m).length) ∧ Hid (Ext w wr) ∧ Hid (wr.ownsRow w.heap.size 3 1 (.slice ta q tc) q ((without (l.take j) m).map (Value.int .i64))))
  case atStart => exact ⟨0, 0, none, 0, rfl, rfl, Nat.zero_le _, rfl, Nat.zero_le _, Lib.hid (by rw [hw0.out]; rfl), Lib.hid (Ext.refl _), Lib.hid (by rw [hw0.out]; exact World.ownsRow_nil _ _ _ _)⟩
  case round =>
    obtain ⟨j, q, ta, tc, rfl, rfl, hj, hgj, hqj, hq, he, hro⟩ := hrel
    replace hgj := Lib.hid hgj
    by_cases hlj : j < n
    · obtain ⟨y, hy⟩ : ∃ y, l[j]? = some y := ⟨_, List.getElem?_eq_getElem (by have := hn.out; omega)⟩
      obtain ⟨b2, off2, rfl, hi2⟩ : ∃ b off, a = some ⟨b, off, none⟩ ∧ IntsAt wr b off l := by
        rcases h.out.ext he.out with h | h
        · rw [h] at hy; cases hy
        · exact h
      have c0 := hi2 j y hy
      have hbl2 := World.block_lt_of_cell? wr _ c0
      simp only at hbl2
      have hsz : Hid (w.heap.size ≤ wr.heap.size) := Lib.hid he.out.size
      clear hi2
      rcases hyi : (y == m) with _ | _
      · have htk := Lib.hid (without_snocW l m j y hy hyi)
        have htl : Hid (q + 1 = (without (l.take (j + 1)) m).length) := Lib.hid (by have := congrArg List.length htk.out; simp only [List.length_map, List.length_append, List.length_cons, List.length_nil] at this; rw [this, hq.out])
        clear hy
        go_wp2_with (at_builtin; refine wpList_append_row _ _ _ 22 3 _ 1 8 infoI Try.underlying22 rfl (by decide) w.heap.size _ q _ (ownsRow_ext hro.out (by (repeat (first | exact Ext.refl _ | assumption | refine Ext.alloc ?_ _ | refine Ext.ext ?_ _ | refine Ext.drew ?_)))) ⟨wr.heap.size, 0, none⟩ 1 1 [.int .i64 y] (by decide) rfl (cells_at2 (heap_alloc_new _ _) rfl) (by simp [Value.oneCell']) (by unfold maxLen; omega) (by omega) (Nat.le_trans hsz.out (by simp)) rfl rfl rfl rfl ?_; intro g2 c2 w2 hown hg2; (have he2 := Lib.hid (Ext.of_grown (he.out.trans (by (repeat (first | exact Ext.refl _ | assumption | refine Ext.alloc ?_ _ | refine Ext.ext ?_ _ | refine Ext.drew ?_)))) hg2 (fun k hk => by have := (hro.out.lt k hk).1; simpa using this))); (have hr2 := Lib.hid (by rw [← htk.out] at hown; exact hown)); clear hown hg2 hro he)
        go_roundg (n - (j + 1))
        case measure => have := hgj.out; omega
        case rel => exact ⟨j + 1, _, _, _, rfl, by go_num, by omega, rfl, by omega, htl, he2, hr2⟩
      · have htk := without_snoc l m j y hy
        rw [hyi] at htk
        simp only [if_true, List.append_nil] at htk
        replace htk := Lib.hid htk
        clear hy
        go_wp2
        go_roundg (n - (j + 1))
        case measure => have := hgj.out; omega
        case rel => exact ⟨j + 1, q, ta, tc, rfl, by go_num, by omega, rfl, by omega, Lib.hid (by rw [htk.out, hq.out]), he, Lib.hid (by rw [htk.out]; exact hro.out)⟩
    · obtain rfl : j = n := by omega
      have htk : l.take j = l := List.take_of_length_le (by have := hn.out; omega)
      rw [htk, ← hZ.out] at hq hro
      have hqZ := hq.out
      clear htk hq
      subst hqZ
      go_wp2
      go_ret
      exact ⟨ta, tc, rfl, he.out, hro.out⟩
theorem withL_fin (l : List Int) (m : Int) (p : Bool) (h : (wfold m l).2 = p) : withL l m = if p then (wfold m l).1 else (wfold m l).1 ++ [m] := by
  unfold withL
  rw [h]
set_option maxHeartbeats 4000000 in
theorem rWith_ok (l : List Int) (m : Int) (a : Option Addr) (cap : Nat) (w : World) (hl : l.length ≤ 1000) (h : RepI w a l) :
    Calls Try.prog 44 #[.slice a l.length cap, .int .i64 m] w fun e w' => ∃ a' c', e = .returned (.slice a' (withL l m).length c') ∧ Ext w w' ∧ OI w.heap.size w' a' c' (withL l m) := by
  obtain ⟨n, hn⟩ : ∃ n, n = l.length := ⟨_, rfl⟩
  rw [← hn] at hl ⊢
  replace hn := Lib.hid hn
  replace h := Lib.hid h
  obtain ⟨Z, hZ⟩ : ∃ Z, Z = withL l m := ⟨_, rfl⟩
  rw [← hZ]
  replace hZ := Lib.hid hZ
  go_enter Try.func44, Try.ntmps44
  go_wp2
  go_loopg [5, 6, 7] n (fun g v5 v6 v7 wr => ∃ (j q : Nat) (p : Bool) (L : List Int) (ta : Option Addr) (tc : Nat), v5 = .slice ta q tc ∧ v6 = .bool p ∧ v7 = .int .i64 j ∧ j ≤ n ∧ g = n - j ∧ q ≤ 2 * j ∧ Hid (wfold m (l.take j) = (L, p)) ∧ Hid (q = L.length) ∧ Hid (Ext w wr) ∧ Hid (wr.ownsRow w.heap.size 3 1 (.slice ta q tc) q (L.map (Value.int .i64))))
  case atStart => exact ⟨0, 0, false, [], none, 0, rfl, rfl, rfl, Nat.zero_le _, rfl, Nat.zero_le _, Lib.hid (by simp [wfold]), Lib.hid rfl, Lib.hid (Ext.refl _), Lib.hid (World.ownsRow_nil _ _ _ _)⟩
  case round =>
    obtain ⟨j, q, p, L, ta, tc, rfl, rfl, rfl, hj, hgj, hqj, hL, hq, he, hro⟩ := hrel
    replace hgj := Lib.hid hgj
    by_cases hlj : j < n
    · obtain ⟨y, hy⟩ : ∃ y, l[j]? = some y := ⟨_, List.getElem?_eq_getElem (by have := hn.out; omega)⟩
      have hsn := wfold_snoc m hy
      rw [hL.out] at hsn
      have hql := wfold_len m l (j + 1)
      rw [hsn] at hql
      unfold wstep at hsn hql
      simp only at hsn hql
      obtain ⟨b2, off2, rfl, hi2⟩ : ∃ b off, a = some ⟨b, off, none⟩ ∧ IntsAt wr b off l := by
        rcases h.out.ext he.out with h | h
        · rw [h] at hy; cases hy
        · exact h
      have c0 := hi2 j y hy
      have hbl2 := World.block_lt_of_cell? wr _ c0
      simp only at hbl2
      have hsz : Hid (w.heap.size ≤ wr.heap.size) := Lib.hid he.out.size
      clear hi2 hL
      by_cases hc : (decide (m ≤ y) && !p) = true
      · rw [hc] at hsn hql
        simp only [Bool.and_eq_true, Bool.not_eq_true', decide_eq_true_eq] at hc
        obtain ⟨hmy, rfl⟩ := hc
        have d1 : decide (m ≤ y) = true := decide_eq_true hmy
        have heq1 := Lib.hid (mapI_snoc L m)
        simp only [if_true] at hsn hql
        replace hy := Lib.hid hy
        go_upto_region 8 with (at_builtin; refine wpList_append_row _ _ _ 22 3 _ 1 8 infoI Try.underlying22 rfl (by decide) w.heap.size _ q _ (ownsRow_ext hro.out (by (repeat (first | exact Ext.refl _ | assumption | refine Ext.alloc ?_ _ | refine Ext.ext ?_ _ | refine Ext.drew ?_)))) ⟨wr.heap.size, 0, none⟩ 1 1 [.int .i64 m] (by decide) rfl (cells_at2 (heap_alloc_new _ _) rfl) (by simp [Value.oneCell']) (by unfold maxLen; omega) (by omega) (Nat.le_trans hsz.out (by simp)) rfl rfl rfl rfl ?_; intro g3 c3 w3 hown hg2; (have he3 := Lib.hid (Ext.of_grown (he.out.trans (by (repeat (first | exact Ext.refl _ | assumption | refine Ext.alloc ?_ _ | refine Ext.ext ?_ _ | refine Ext.drew ?_)))) hg2 (fun k hk => by have := (hro.out.lt k hk).1; simpa using this))); (have hr3 := Lib.hid (by rw [← heq1.out] at hown; exact hown)); clear hown hg2 hro he)
        obtain ⟨b3, off3, hb3, hi3⟩ := (h.out.ext he3.out).resolve_left (by intro h; have := hy.out; rw [h] at this; cases this)
        obtain ⟨rfl, rfl⟩ : b2 = b3 ∧ off2 = off3 := by simpa using hb3
        have c1 := hi3 j y hy.out
        have hbl3 := World.block_lt_of_cell? w3 _ c1
        simp only at hbl3
        have hsz3 : Hid (w.heap.size ≤ w3.heap.size) := Lib.hid he3.out.size
        clear hi3 hb3 c0 hbl2 hsz heq1
        rcases hym : (y == m) with _ | _
        · rw [hym] at hsn hql
          simp only [Bool.false_eq_true, if_false] at hsn hql
          replace hsn := Lib.hid hsn
          have heq2 := Lib.hid (mapI_snoc (L ++ [m]) y)
          simp only [List.length_append, List.length_cons, List.length_nil] at hql
          go_wp2_with (at_builtin; refine wpList_append_row _ _ _ 22 3 _ 1 8 infoI Try.underlying22 rfl (by decide) w.heap.size _ (q + 1) _ (ownsRow_ext hr3.out (by (repeat (first | exact Ext.refl _ | assumption | refine Ext.alloc ?_ _ | refine Ext.ext ?_ _ | refine Ext.drew ?_)))) ⟨w3.heap.size, 0, none⟩ 1 1 [.int .i64 y] (by decide) rfl (cells_at2 (heap_alloc_new _ _) rfl) (by simp [Value.oneCell']) (by unfold maxLen; omega) (by omega) (Nat.le_trans hsz3.out (by simp)) rfl rfl rfl rfl ?_; intro g4 c4 w4 hown hg2; (have he4 := Lib.hid (Ext.of_grown (he3.out.trans (by (repeat (first | exact Ext.refl _ | assumption | refine Ext.alloc ?_ _ | refine Ext.ext ?_ _ | refine Ext.drew ?_)))) hg2 (fun k hk => by have := (hr3.out.lt k hk).1; simpa using this))); (have hr4 := Lib.hid (by rw [← heq2.out] at hown; exact hown)); clear hown hg2 hr3 he3)
          go_roundg (n - (j + 1))
          case measure => have := hgj.out; omega
          case rel => exact ⟨j + 1, q + 1 + 1, true, L ++ [m] ++ [y], _, _, rfl, rfl, by go_num, by omega, rfl, by omega, hsn, Lib.hid (by simp [hq.out]), he4, hr4⟩
        · rw [hym] at hsn hql
          simp only [if_true] at hsn hql
          replace hsn := Lib.hid hsn
          simp only [List.length_append, List.length_cons, List.length_nil] at hql
          go_wp2
          go_roundg (n - (j + 1))
          case measure => have := hgj.out; omega
          case rel => exact ⟨j + 1, q + 1, true, L ++ [m], _, _, rfl, rfl, by go_num, by omega, rfl, by omega, hsn, Lib.hid (by simp [hq.out]), he3, hr3⟩
      · have hc' : (decide (m ≤ y) && !p) = false := by simpa using hc
        rw [hc'] at hsn hql
        simp only [Bool.false_eq_true, if_false] at hsn hql
        have hd : decide (m ≤ y) = false ∨ (decide (m ≤ y) = true ∧ p = true) := by
          rcases hd : decide (m ≤ y) with _ | _
          · exact .inl rfl
          · rw [hd] at hc'
            exact .inr ⟨rfl, by simpa using hc'⟩
        clear hc hc' hy
        have heq2 := Lib.hid (mapI_snoc L y)
        rcases hym : (y == m) with _ | _
        · rw [hym] at hsn hql
          simp only [Bool.false_eq_true, if_false] at hsn hql
          replace hsn := Lib.hid hsn
          simp only [List.length_append, List.length_cons, List.length_nil] at hql
          rcases hd with hd | ⟨hd, rfl⟩
          all_goals
            go_wp2_with (at_builtin; refine wpList_append_row _ _ _ 22 3 _ 1 8 infoI Try.underlying22 rfl (by decide) w.heap.size _ q _ (ownsRow_ext hro.out (by (repeat (first | exact Ext.refl _ | assumption | refine Ext.alloc ?_ _ | refine Ext.ext ?_ _ | refine Ext.drew ?_)))) ⟨wr.heap.size, 0, none⟩ 1 1 [.int .i64 y] (by decide) rfl (cells_at2 (heap_alloc_new _ _) rfl) (by simp [Value.oneCell']) (by unfold maxLen; omega) (by omega) (Nat.le_trans hsz.out (by simp)) rfl rfl rfl rfl ?_; intro g4 c4 w4 hown hg2; (have he4 := Lib.hid (Ext.of_grown (he.out.trans (by (repeat (first | exact Ext.refl _ | assumption | refine Ext.alloc ?_ _ | refine Ext.ext ?_ _ | refine Ext.drew ?_)))) hg2 (fun k hk => by have := (hro.out.lt k hk).1; simpa using this))); (have hr4 := Lib.hid (by rw [← heq2.out] at hown; exact hown)); clear hown hg2 hro he)
            go_roundg (n - (j + 1))
            case measure => have := hgj.out; omega
            case rel => exact ⟨j + 1, q + 1, _, L ++ [y], _, _, rfl, rfl, by go_num, by omega, rfl, by have := hq.out; omega, hsn, Lib.hid (by simp [hq.out]), he4, hr4⟩
        · rw [hym] at hsn hql
          simp only [if_true] at hsn hql
          replace hsn := Lib.hid hsn
          rcases hd with hd | ⟨hd, rfl⟩
          all_goals
            go_wp2
            go_roundg (n - (j + 1))
            case measure => have := hgj.out; omega
            case rel => exact ⟨j + 1, q, _, L, _, _, rfl, rfl, by go_num, by omega, rfl, by have := hq.out; omega, hsn, hq, he, hro⟩
    · obtain rfl : j = n := by omega
      have htk : l.take j = l := List.take_of_length_le (by have := hn.out; omega)
      rw [htk] at hL
      have hf := withL_fin l m p (by rw [hL.out])
      rw [← hZ.out, hL.out] at hf
      simp only at hf
      have hsz : Hid (w.heap.size ≤ wr.heap.size) := Lib.hid he.out.size
      rcases p with _ | _
      · simp only [Bool.false_eq_true, if_false] at hf
        have heq2 : Hid (Z.map (Value.int .i64) = L.map (Value.int .i64) ++ [.int .i64 m]) := Lib.hid (by rw [hf]; exact mapI_snoc L m)
        have hZl : Hid (Z.length = q + 1) := Lib.hid (by rw [hf, hq.out]; simp)
        clear hf
        go_wp2_with (at_builtin; refine wpList_append_row _ _ _ 22 3 _ 1 8 infoI Try.underlying22 rfl (by decide) w.heap.size _ q _ (ownsRow_ext hro.out (by (repeat (first | exact Ext.refl _ | assumption | refine Ext.alloc ?_ _ | refine Ext.ext ?_ _ | refine Ext.drew ?_)))) ⟨wr.heap.size, 0, none⟩ 1 1 [.int .i64 m] (by decide) rfl (cells_at2 (heap_alloc_new _ _) rfl) (by simp [Value.oneCell']) (by unfold maxLen; omega) (by omega) (Nat.le_trans hsz.out (by simp)) rfl rfl rfl rfl ?_; intro g4 c4 w4 hown hg2; (have he4 := Lib.hid (Ext.of_grown (he.out.trans (by (repeat (first | exact Ext.refl _ | assumption | refine Ext.alloc ?_ _ | refine Ext.ext ?_ _ | refine Ext.drew ?_)))) hg2 (fun k hk => by have := (hro.out.lt k hk).1; simpa using this))); (have hr4 := Lib.hid (by rw [← heq2.out] at hown; exact hown)); clear hown hg2 hro he)
        go_ret
        exact ⟨some ⟨g4, 0, none⟩, c4, by rw [hZl.out]; rfl, he4.out, by unfold OI; rw [hZl.out]; exact hr4.out⟩
      · simp only [if_true] at hf
        have hq' : Hid (Z.length = q) := Lib.hid (by rw [hf, hq.out])
        have hr4 : Hid (wr.ownsRow w.heap.size 3 1 (.slice ta q tc) q (Z.map (Value.int .i64))) := Lib.hid (by rw [hf]; exact hro.out)
        clear hf hro
        go_wp2
        go_ret
        exact ⟨ta, tc, by rw [hq'.out]; rfl, he.out, by unfold OI; rw [hq'.out]; exact hr4.out⟩
theorem ints_eq_take {l r : List Int} (hl : l.length = r.length) {k : Nat} (h : l.take k = r.take k) {x y : Int} (hx : l[k]? = some x) (hy : r[k]? = some y) : (x = y → l.take (k + 1) = r.take (k + 1)) ∧ (x ≠ y → l ≠ r) := by
  refine ⟨fun e => ?_, fun hne e => ?_⟩
  · rw [List.take_add_one, List.take_add_one, h, hx, hy, e]
  · subst e
    rw [hx] at hy
    exact hne (Option.some.inj hy)
set_option maxHeartbeats 2000000 in
theorem rEqInts_ok (l r : List Int) (a b : Option Addr) (ca cb : Nat) (w : World) (hl : l.length ≤ 1000000) (hl2 : r.length ≤ 1000000) (h : RepI w a l) (h2 : RepI w b r) :
    Calls Try.prog 25 #[.slice a l.length ca, .slice b r.length cb] w fun e w' => e = .returned (.bool (decide (l = r))) ∧ Ext w w' := by
  obtain ⟨n, hn⟩ : ∃ n, n = l.length := ⟨_, rfl⟩
  obtain ⟨m, hm⟩ : ∃ m, m = r.length := ⟨_, rfl⟩
  rw [← hn] at hl ⊢
  rw [← hm] at hl2 ⊢
  by_cases hnm : n = m
  · subst hnm
    replace hn := Lib.hid hn
    replace hm := Lib.hid hm
    replace h := Lib.hid h
    replace h2 := Lib.hid h2
    obtain ⟨Z, hZ⟩ : ∃ Z, Z = decide (l = r) := ⟨_, rfl⟩
    rw [← hZ]
    replace hZ := Lib.hid hZ
    go_enter Try.func25, Try.ntmps25
    go_wp2
    go_loopg [5] n (fun g v5 wr => ∃ k : Nat, v5 = .int .i64 k ∧ k ≤ n ∧ g = n - k ∧ Hid (Ext w wr) ∧ Hid (l.take k = r.take k))
    case atStart => exact ⟨0, rfl, Nat.zero_le _, rfl, Lib.hid (Ext.refl _), Lib.hid (by simp)⟩
    case round =>
      obtain ⟨k, rfl, hk, hg, he, ht⟩ := hrel
      replace hg := Lib.hid hg
      by_cases hlt : k < n
      · obtain ⟨x, hx⟩ : ∃ x, l[k]? = some x := ⟨_, List.getElem?_eq_getElem (hn.out ▸ hlt)⟩
        obtain ⟨y, hy⟩ : ∃ y, r[k]? = some y := ⟨_, List.getElem?_eq_getElem (hm.out ▸ hlt)⟩
        obtain ⟨b1, o1, rfl, hi1⟩ := (h.out.ext he.out).resolve_left (by intro h; rw [h] at hx; cases hx)
        obtain ⟨b2, o2, rfl, hi2⟩ := (h2.out.ext he.out).resolve_left (by intro h; rw [h] at hy; cases hy)
        have c0 := hi1 k x hx
        have c1 := hi2 k y hy
        have hbl := World.block_lt_of_cell? wr _ c0
        have hbl2 := World.block_lt_of_cell? wr _ c1
        simp only at hbl hbl2
        have key := ints_eq_take (by rw [← hn.out, ← hm.out]) ht.out hx hy
        replace key := Lib.hid key
        clear hi1 hi2 hx hy
        rcases hq : (x == y) with _ | _
        · have hne : x ≠ y := by simpa using hq
          have hf : Z = false := by rw [hZ.out]; exact decide_eq_false (key.out.2 hne)
          clear hne
          replace hf := Lib.hid hf
          go_wp2
          (refine wp_region_ext (by kernel_rfl) (by kernel_rfl) ?_; (repeat (go_big_quiet_step ((fail)))); refine wpQuiet_nil ?_; intro _ hwq; obtain ⟨dq, hwq⟩ := hwq; subst hwq)
          go_wp2
          go_ret
          exact ⟨by rw [hf.out]; rfl, he.out.ext _⟩
        · have hne : x = y := by simpa using hq
          have hnx := Lib.hid (key.out.1 hne)
          clear hne
          go_wp2
          (refine wp_region_ext (by kernel_rfl) (by kernel_rfl) ?_; (repeat (go_big_quiet_step ((fail)))); refine wpQuiet_nil ?_; intro _ hwq; obtain ⟨dq, hwq⟩ := hwq; subst hwq)
          go_wp2
          go_roundg (n - (k + 1))
          case measure => have := hg.out; omega
          case rel => exact ⟨k + 1, by go_num, by omega, rfl, Lib.hid (he.out.ext _), hnx⟩
      · obtain rfl : k = n := by omega
        have hf : Z = true := by
          rw [hZ.out]
          have := ht.out
          rw [List.take_of_length_le (by have := hn.out; omega), List.take_of_length_le (by have := hm.out; omega)] at this
          exact decide_eq_true this
        replace hf := Lib.hid hf
        go_wp2
        go_ret
        exact ⟨by rw [hf.out]; rfl, he.out⟩
  · have hf : decide (l = r) = false := decide_eq_false (fun e => hnm (by rw [hn, hm, e]))
    rw [hf]
    have hq : ((n : Int) == (m : Int)) = false := by simp; omega
    clear hn hm h h2 hf
    go_enter Try.func25, Try.ntmps25
    go_wp2
    go_ret
    exact ⟨rfl, by (repeat (first | exact Ext.refl _ | assumption | refine Ext.alloc ?_ _ | refine Ext.ext ?_ _ | refine Ext.drew ?_))⟩
end Go.Proofs.Ytcnmljpabmgieaa.R
