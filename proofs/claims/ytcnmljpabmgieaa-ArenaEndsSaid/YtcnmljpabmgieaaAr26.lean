/- The reference's arena: Has, ascending, without, with, EqualInts. -/
import Derived.Test.YtcnmljpabmgieaaAr13
import Derived.Test.YtcnmljpabmgieaaAr25
import Derived.WalkKit
import Derived.WalkSpells
import Derived.WalkLawsBesides
import Derived.Deep.QuietTactic
import Derived.BigQuiet
import Derived.BigRegion
import Derived.Lib.Hide
import Derived.Deep.RegionWith
set_option linter.unusedSimpArgs false
set_option linter.unusedVariables false
namespace Go.Proofs.Ytcnmljpabmgieaa.R
open Go.RowKit
set_option maxHeartbeats 1000000 in
theorem rHas_ok (l : List Int) (m : Int) (a : Option Addr) (cap : Nat) (w : World) (hl : l.length ≤ 1000000) (h : RepI w a l) :
    Calls Try.prog 31 #[.slice a l.length cap, .int .i64 m] w fun e w' => e = .returned (.bool (has l m)) ∧ w' = w := by
  obtain ⟨n, hn⟩ : ∃ n, n = l.length := ⟨_, rfl⟩
  rw [← hn] at hl ⊢
  replace hn := Lib.hid hn
  replace h := Lib.hid h
  go_enter Try.func31, Try.ntmps31
  go_wp2
  go_loopg [5] n (fun g v5 wr => ∃ k : Nat, v5 = .int .i64 k ∧ k ≤ n ∧ g = n - k ∧ Hid (wr = w) ∧ Hid ((l.take k).any (fun x => m == x) = false))
  case atStart => exact ⟨0, rfl, Nat.zero_le _, rfl, Lib.hid rfl, Lib.hid (by simp)⟩
  case round =>
    obtain ⟨k, rfl, hk, hg, hw, ht⟩ := hrel
    obtain rfl := hw.out
    replace hg := Lib.hid hg
    by_cases hlt : k < n
    · obtain ⟨x, hx⟩ : ∃ x, l[k]? = some x := ⟨_, List.getElem?_eq_getElem (hn.out ▸ hlt)⟩
      have htk := Lib.hid (has_take l m k (hn.out ▸ hlt) ht.out x hx)
      obtain ⟨b, off, rfl, hi⟩ : ∃ b off, a = some ⟨b, off, none⟩ ∧ IntsAt wr b off l := by
        rcases h.out with h | h
        · rw [h] at hx; cases hx
        · exact h
      have c0 := hi k x hx
      have hbl := World.block_lt_of_cell? wr _ c0
      simp only at hbl
      clear hi hx hw
      have hmx : (x == m) = (m == x) := by rw [Bool.eq_iff_iff, beq_iff_eq, beq_iff_eq]; exact eq_comm
      rcases hq : (m == x) with _ | _
      · rw [hq] at hmx
        go_wp2
        go_roundg (n - (k + 1))
        case measure => have := hg.out; omega
        case rel => exact ⟨k + 1, by go_num, by omega, rfl, Lib.hid rfl, Lib.hid (by rw [htk.out, hq])⟩
      · rw [hq] at hmx
        go_wp2
        go_ret
        refine ⟨?_, rfl⟩
        have : has (l.take (k + 1)) m = true := by rw [has, htk.out, hq]
        have h2 : has l m = true := by
          unfold has at this ⊢
          rw [List.any_eq_true] at this
          obtain ⟨y, hy, hm⟩ := this
          exact List.any_eq_true.2 ⟨y, List.mem_of_mem_take hy, hm⟩
        rw [h2]
        rfl
    · obtain rfl : k = n := by omega
      go_wp2
      go_ret
      refine ⟨?_, rfl⟩
      have := ht.out
      rw [hn.out, List.take_length] at this
      rw [has, this]
      rfl
set_option maxHeartbeats 1000000 in
theorem rAsc_ok (l : List Int) (m : Int) (a : Option Addr) (cap : Nat) (w : World) (hl : l.length ≤ 1000000) (h : RepI w a l) :
    Calls Try.prog 30 #[.slice a l.length cap, .int .i64 m] w fun e w' => e = .returned (.bool (asc l m)) ∧ Ext w w' := by
  obtain ⟨n, hn⟩ : ∃ n, n = l.length := ⟨_, rfl⟩
  rw [← hn] at hl ⊢
  replace hn := Lib.hid hn
  replace h := Lib.hid h
  go_enter Try.func30, Try.ntmps30
  go_wp2
  go_loopg [5] n (fun g v5 wr => ∃ k : Nat, v5 = .int .i64 k ∧ k ≤ n ∧ g = n - k ∧ Hid (Ext w wr) ∧ Hid (asc (l.take k) m = true))
  case atStart => exact ⟨0, rfl, Nat.zero_le _, rfl, Lib.hid (Ext.refl _), Lib.hid (by simp [asc, rising])⟩
  case round =>
    obtain ⟨k, rfl, hk, hg, he, ht⟩ := hrel
    replace hg := Lib.hid hg
    by_cases hlt : k < n
    · obtain ⟨x, hx⟩ : ∃ x, l[k]? = some x := ⟨_, List.getElem?_eq_getElem (hn.out ▸ hlt)⟩
      obtain ⟨b, off, rfl, hi⟩ : ∃ b off, a = some ⟨b, off, none⟩ ∧ IntsAt wr b off l := by
        rcases h.out.ext he.out with h | h
        · rw [h] at hx; cases hx
        · exact h
      have c0 := hi k x hx
      have hbl := World.block_lt_of_cell? wr _ c0
      simp only at hbl
      -- what the round finds
      have key : ∃ t : Bool, asc (l.take (k + 1)) m = !t ∧ ((decide (0 < (k : Int)) = false ∧ decide (0 < k) = false ∧ t = (decide (x < 0) || decide (m ≤ x))) ∨ ∃ y, 0 < k ∧ wr.cell? ⟨b, off + (k - 1), none⟩ = some (.int .i64 y) ∧ t = (decide (x < 0) || decide (m ≤ x) || decide (x ≤ y))) := by
        rcases k with _ | k
        · refine ⟨_, ?_, .inl ⟨rfl, rfl, rfl⟩⟩
          rw [asc_zero hx, Bool.eq_iff_iff]
          simp <;> omega
        · obtain ⟨y, hy⟩ : ∃ y, l[k]? = some y := ⟨_, List.getElem?_eq_getElem (by have := hn.out; omega)⟩
          refine ⟨_, ?_, .inr ⟨y, by omega, hi k y hy, rfl⟩⟩
          rw [asc_succ hy hx ht.out, Bool.eq_iff_iff]
          simp <;> omega
      obtain ⟨t, hta, hc⟩ := key
      replace hta := Lib.hid hta
      clear hi hx
      have fin : Hid (t = true → asc l m = false) := Lib.hid fun e => asc_bad (k + 1) (by rw [hta.out, e]; rfl)
      rcases hc with ⟨hz1, hz2, hc⟩ | ⟨y, hk0, c1, hc⟩
      · rcases h1 : decide (x < 0) with _ | _
        · rcases h2 : decide (m ≤ x) with _ | _
          · rw [h1, h2] at hc
            subst hc
            go_wp2
            (refine wp_region_ext (by kernel_rfl) (by kernel_rfl) ?_; (repeat (go_big_quiet_step ((fail)))); refine wpQuiet_nil ?_; intro _ hwq; obtain ⟨dq, hwq⟩ := hwq; subst hwq)
            go_wp2
            go_roundg (n - (k + 1))
            case measure => have := hg.out; omega
            case rel => exact ⟨k + 1, by go_num, by omega, rfl, Lib.hid (he.out.ext _), Lib.hid (by rw [hta.out]; rfl)⟩
          · rw [h1, h2] at hc
            subst hc
            go_wp2
            (refine wp_region_ext (by kernel_rfl) (by kernel_rfl) ?_; (repeat (go_big_quiet_step ((fail)))); refine wpQuiet_nil ?_; intro _ hwq; obtain ⟨dq, hwq⟩ := hwq; subst hwq)
            go_wp2
            go_ret
            exact ⟨by rw [fin.out rfl]; rfl, he.out.ext _⟩
        · rw [h1] at hc
          subst hc
          go_wp2
          (refine wp_region_ext (by kernel_rfl) (by kernel_rfl) ?_; (repeat (go_big_quiet_step ((fail)))); refine wpQuiet_nil ?_; intro _ hwq; obtain ⟨dq, hwq⟩ := hwq; subst hwq)
          go_wp2
          go_ret
          exact ⟨by rw [fin.out rfl]; rfl, he.out.ext _⟩
      · obtain ⟨j, rfl⟩ : ∃ j, k = j + 1 := ⟨k - 1, by omega⟩
        have ek : off + (j + 1 - 1) = off + j := by omega
        rw [ek] at c1
        have hk1 : decide (0 < ((j + 1 : Nat) : Int)) = true := decide_eq_true (by omega)
        have hk2 : decide (0 < (j : Int) + 1) = true := decide_eq_true (by omega)
        rcases h1 : decide (x < 0) with _ | _
        · rcases h2 : decide (m ≤ x) with _ | _
          · rcases h3 : decide (x ≤ y) with _ | _
            · rw [h1, h2, h3] at hc
              subst hc
              go_wp2
              (refine wp_region_ext (by kernel_rfl) (by kernel_rfl) ?_; (repeat (go_big_quiet_step ((fail)))); refine wpQuiet_nil ?_; intro _ hwq; obtain ⟨dq, hwq⟩ := hwq; subst hwq)
              go_wp2
              go_roundg (n - (j + 1 + 1))
              case measure => have := hg.out; omega
              case rel => exact ⟨j + 1 + 1, by go_num, by omega, rfl, Lib.hid (he.out.ext _), Lib.hid (by rw [hta.out]; rfl)⟩
            · rw [h1, h2, h3] at hc
              subst hc
              go_wp2
              (refine wp_region_ext (by kernel_rfl) (by kernel_rfl) ?_; (repeat (go_big_quiet_step ((fail)))); refine wpQuiet_nil ?_; intro _ hwq; obtain ⟨dq, hwq⟩ := hwq; subst hwq)
              go_wp2
              go_ret
              exact ⟨by rw [fin.out rfl]; rfl, he.out.ext _⟩
          · rw [h1, h2] at hc
            subst hc
            go_wp2
            (refine wp_region_ext (by kernel_rfl) (by kernel_rfl) ?_; (repeat (go_big_quiet_step ((fail)))); refine wpQuiet_nil ?_; intro _ hwq; obtain ⟨dq, hwq⟩ := hwq; subst hwq)
            go_wp2
            go_ret
            exact ⟨by rw [fin.out rfl]; rfl, he.out.ext _⟩
        · rw [h1] at hc
          subst hc
          go_wp2
          (refine wp_region_ext (by kernel_rfl) (by kernel_rfl) ?_; (repeat (go_big_quiet_step ((fail)))); refine wpQuiet_nil ?_; intro _ hwq; obtain ⟨dq, hwq⟩ := hwq; subst hwq)
          go_wp2
          go_ret
          exact ⟨by rw [fin.out rfl]; rfl, he.out.ext _⟩
    · obtain rfl : k = n := by omega
      go_wp2
      go_ret
      refine ⟨?_, he.out⟩
      have := ht.out
      rw [hn.out, List.take_length] at this
      rw [this]
      rfl
end Go.Proofs.Ytcnmljpabmgieaa.R
