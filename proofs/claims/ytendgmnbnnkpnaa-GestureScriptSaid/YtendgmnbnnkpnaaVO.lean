/- The reference: Feed agrees with the model; what a recogniser without an event holds. The reference: EqualGestures. -/
import Derived.Test.YtendgmnbnnkpnaaVG
import Derived.Test.YtendgmnbnnkpnaaVH
import Derived.Test.YtendgmnbnnkpnaaVI
import Derived.Test.YtendgmnbnnkpnaaVJ
import Derived.Test.YtendgmnbnnkpnaaVM
import Derived.Test.YtendgmnbnnkpnaaVN
import Derived.Test.YtendgmnbnnkpnaaUQ
import Derived.Test.YtendgmnbnnkpnaaUS
import Derived.WalkKit
import Derived.WalkSpells
import Derived.WalkLawsBesides
import Derived.Deep.QuietTactic
import Derived.BigQuiet
import Derived.BigRegion
import Derived.Lib.Hide
import Derived.Deep.RegionWith
set_option linter.unusedSimpArgs false
set_option linter.unusedVariables false
namespace Go.Proofs.Ytendgmnbnnkpnaa.G
open Go.RowKit
theorem follow_one (t : Tch) (s : Smp) : follow [t] 0 s = [⟨t.ID, t.F, more t.S s⟩] := rfl
theorem follow_two0 (t u : Tch) (s : Smp) : follow [t, u] 0 s = [⟨t.ID, t.F, more t.S s⟩, u] := rfl
theorem follow_two1 (t u : Tch) (s : Smp) : follow [t, u] 1 s = [t, ⟨u.ID, u.F, more u.S s⟩] := rfl
section
variable (r : Rec) (h : ROk r) (hi : Idle r) (e : Ev) (hv : valid e = true) (hd : deaf r = false) (a : Option Addr) (cap : Nat) (w : World) (hr : TsO w a cap r.Ts)
include h hi hv hd hr
theorem r_move (i : Nat) (hf : find r.Ts e.ID = some i) (he : e.Kind = 2 ∨ e.Kind = 3) (hp : placed (smp e) = true) (hla : r.Kind ≤ 2 → ∀ t, r.Ts = [t] → ¬ 300 < e.Time - t.F.T) (hlo : r.Kind = 3 → ∀ t, r.Ts = [t] → e.Time - t.F.T < 500) :
    Calls Try.prog 50 #[.agg #[.int .i64 (r).Kind, .int .i64 (r).Node, .int .i64 (r).State, .int .i64 (r).Count, .slice a (r).Ts.length cap, .int .i64 (r).L.X, .int .i64 (r).L.Y, .int .i64 (r).L.T], .agg #[.int .i64 (e).Kind, .int .i64 (e).ID, .int .i64 (e).X, .int .i64 (e).Y, .int .i64 (e).Time, .int .i64 (e).Wheel]] w (RO (moved { r with Ts := follow r.Ts i (smp e) } e) w) := by
  have h2 := follow_ok (i := i) h hp
  have hk := h.kind
  have h0 : r.Ts ≠ [] → r.State ≠ 0 := fun hn h0 => hn (hi h0)
  rcases h.shape with hs | ⟨t, hs, h1⟩ | ⟨t, u, hs, h1, hu, h7⟩
  · rw [hs] at hf; simp [find] at hf
  · obtain ⟨t', ht', hid⟩ := find_some hf
    rw [hs] at ht'
    have hi0 : i = 0 := by have := (List.getElem?_eq_some_iff.1 ht').1; simpa using this
    subst hi0
    obtain rfl : t = t' := by simpa using ht'
    rw [hs, follow_one] at h2 ⊢
    by_cases hc : cont r.Kind = true
    · have hm : moved { r with Ts := [⟨t.ID, t.F, more t.S (smp e)⟩] } e = slide { r with Ts := [⟨t.ID, t.F, more t.S (smp e)⟩] } e := by
        have : 4 ≤ r.Kind ∧ r.Kind ≤ 7 := by simpa [cont, btw] using hc
        rw [moved, if_neg (show ¬ r.Kind ≤ 3 by omega), if_neg (show ¬ r.Kind = 8 by omega)]
      rw [hm]
      have hl := fun a' c' w' (hT : TsO w' a' c' [⟨t.ID, t.F, more t.S (smp e)⟩]) => r_follow { r with Ts := [⟨t.ID, t.F, more t.S (smp e)⟩] } h2 hc (by simp) (h0 (by rw [hs]; simp)) e he a' c' w' hT
      have := r_feedA1lo r h t hs h1
      rcases Nat.lt_or_ge t.S.length 8 with hlen | hlen
      · have := r_feedA1lo r h t hs h1 hlen hc e hv hd he hid a cap w hr _ hl
        rw [hs] at this; exact this
      · have := r_feedA1hi r h t hs h1 hlen hc e hv hd he hid a cap w hr _ hl
        rw [hs] at this; exact this
    · have hc' : cont r.Kind = false := by simpa using hc
      have hk4 : r.Kind = 1 ∨ r.Kind = 2 ∨ r.Kind = 3 ∨ r.Kind = 8 := by simp [cont, btw] at hc; omega
      have key : ∀ q, (∀ a' c' w', TsO w' a' c' [⟨t.ID, t.F, more t.S (smp e)⟩] → Calls Try.prog 80 #[.agg #[.int .i64 r.Kind, .int .i64 r.Node, .int .i64 r.State, .int .i64 r.Count, .slice a' 1 c', .int .i64 r.L.X, .int .i64 r.L.Y, .int .i64 r.L.T], .int .i64 e.Kind, .agg #[.int .i64 e.X, .int .i64 e.Y, .int .i64 e.Time]] w' (RO q w')) → Calls Try.prog 50 #[.agg #[.int .i64 r.Kind, .int .i64 r.Node, .int .i64 r.State, .int .i64 r.Count, .slice a [t].length cap, .int .i64 r.L.X, .int .i64 r.L.Y, .int .i64 r.L.T], .agg #[.int .i64 (e).Kind, .int .i64 (e).ID, .int .i64 (e).X, .int .i64 (e).Y, .int .i64 (e).Time, .int .i64 (e).Wheel]] w (RO q w) := by
        intro q hl
        rcases Nat.lt_or_ge t.S.length 8 with hlen | hlen
        · have := r_feedB1lo r h t hs h1 e hlen hc' hk4 (fun h => hla h t hs) (fun h => hlo h t hs) hv hd he hid a cap w hr q hl
          rw [hs] at this; exact this
        · have := r_feedB1hi r h t hs h1 e hlen hc' hk4 (fun h => hla h t hs) (fun h => hlo h t hs) hv hd he hid a cap w hr q hl
          rw [hs] at this; exact this
      have hT2 : TOk ⟨t.ID, t.F, more t.S (smp e)⟩ := h2.ts _ (by simp)
      by_cases h8 : r.Kind = 8
      · have hm : moved { r with Ts := [⟨t.ID, t.F, more t.S (smp e)⟩] } e = throw_ { r with Ts := [⟨t.ID, t.F, more t.S (smp e)⟩] } e := by
          rw [moved, if_neg (show ¬ r.Kind ≤ 3 by omega), if_pos h8]
        rw [hm]
        exact key _ fun a' c' w' hT => r_still8 { r with Ts := [⟨t.ID, t.F, more t.S (smp e)⟩] } h2 _ rfl hT2 h8 e he hp a' c' w' hT
      · have hm : moved { r with Ts := [⟨t.ID, t.F, more t.S (smp e)⟩] } e = still { r with Ts := [⟨t.ID, t.F, more t.S (smp e)⟩] } e := by
          rw [moved, if_pos (show r.Kind ≤ 3 by omega)]
        rw [hm]
        exact key _ fun a' c' w' hT => r_still3 { r with Ts := [⟨t.ID, t.F, more t.S (smp e)⟩] } h2 _ rfl hT2 (show r.Kind = 1 ∨ r.Kind = 2 ∨ r.Kind = 3 by omega) e he hp a' c' w' hT
  · have hc : cont r.Kind = true := by rw [h7]; rfl
    have hm : ∀ ts, moved { r with Ts := ts } e = slide { r with Ts := ts } e := fun ts => by
      rw [moved, if_neg (show ¬ r.Kind ≤ 3 by omega), if_neg (show ¬ r.Kind = 8 by omega)]
    rw [hm]
    have hst := h0 (by rw [hs]; simp)
    by_cases hid : t.ID = e.ID
    · have hi0 : i = 0 := by rw [hs] at hf; simp [find, List.findIdx?_cons, hid] at hf; exact hf.symm
      subst hi0
      rw [hs, follow_two0] at h2 ⊢
      have hl := fun a' c' w' (hT : TsO w' a' c' [⟨t.ID, t.F, more t.S (smp e)⟩, u]) => r_follow { r with Ts := [⟨t.ID, t.F, more t.S (smp e)⟩, u] } h2 hc (by simp) hst e he a' c' w' hT
      rcases Nat.lt_or_ge t.S.length 8 with hlen | hlen
      · have := r_feedA2alo r h t u hs h1 hu h7 hlen hc e hv hd he hid a cap w hr _ hl
        rw [hs] at this; exact this
      · have := r_feedA2ahi r h t u hs h1 hu h7 hlen hc e hv hd he hid a cap w hr _ hl
        rw [hs] at this; exact this
    · have hi1 : i = 1 ∧ u.ID = e.ID := by
        rw [hs] at hf
        by_cases hid2 : u.ID = e.ID
        · simp [find, List.findIdx?_cons, hid, hid2] at hf; exact ⟨hf.symm, hid2⟩
        · simp [find, List.findIdx?_cons, hid, hid2] at hf
      obtain ⟨rfl, hid2⟩ := hi1
      rw [hs, follow_two1] at h2 ⊢
      have hl := fun a' c' w' (hT : TsO w' a' c' [t, ⟨u.ID, u.F, more u.S (smp e)⟩]) => r_follow { r with Ts := [t, ⟨u.ID, u.F, more u.S (smp e)⟩] } h2 hc (by simp) hst e he a' c' w' hT
      rcases Nat.lt_or_ge u.S.length 8 with hlen | hlen
      · have := r_feedA2blo r h t u hs h1 hu h7 hlen hc e hv hd he hid hid2 a cap w hr _ hl
        rw [hs] at this; exact this
      · have := r_feedA2bhi r h t u hs h1 hu h7 hlen hc e hv hd he hid hid2 a cap w hr _ hl
        rw [hs] at this; exact this
theorem r_process (hla : r.Kind ≤ 2 → rlate r e.Time = false) (hlo : r.Kind = 3 → ∀ t, r.Ts = [t] → e.Time - t.F.T < 500) :
    Calls Try.prog 50 #[.agg #[.int .i64 (r).Kind, .int .i64 (r).Node, .int .i64 (r).State, .int .i64 (r).Count, .slice a (r).Ts.length cap, .int .i64 (r).L.X, .int .i64 (r).L.Y, .int .i64 (r).L.T], .agg #[.int .i64 (e).Kind, .int .i64 (e).ID, .int .i64 (e).X, .int .i64 (e).Y, .int .i64 (e).Time, .int .i64 (e).Wheel]] w (RO (process r e) w) := by
  have hT : 0 ≤ e.Time ∧ e.Time ≤ 1099511627776 := by
    by_cases h5 : e.Kind = 5
    · simpa [valid, h5, btw] using hv
    · simp [valid, h5, placed, btw] at hv; omega
  have hco := inTime h hr.rep hla hlo
  by_cases h5 : e.Kind = 5
  · rw [show process r e = (r, 0, []) by simp [process, h5]]
    exact r_feed_tick r h e hv hd hT a cap w hr hco h5
  have hp : placed (smp e) = true := by
    simp only [valid, if_neg h5, Bool.and_eq_true] at hv; exact hv.2
  have hek : 1 ≤ e.Kind ∧ e.Kind ≤ 5 := by simp [valid, h5, btw] at hv; omega
  by_cases h1 : e.Kind = 1
  · have := r_feed_down r h e hv hd hT a cap w hr hco h1 hp
    have hq : process r e = downQ r e := by
      cases hf : find r.Ts e.ID <;> simp [process, downQ, h5, h1, hf]
    rw [hq]; exact this
  cases hf : find r.Ts e.ID with
  | none =>
    rw [show process r e = (r, 0, []) by simp [process, h5, h1, hf]]
    exact r_feed_none r h e hv hd hT a cap w hr hco h5 h1 (by simp [fi, hf])
  | some i =>
    by_cases h4 : e.Kind = 4
    · rw [show process r e = (if r.State = 3 then ((abort r).1, 0, (abort r).2) else fail r) by simp [process, h5, h1, hf, h4]]
      exact r_feed_cancel r h e hv hd hT a cap w hr hco h4 i (by simp [fi, hf])
    · rw [show process r e = moved { r with Ts := follow r.Ts i (smp e) } e by simp only [process, if_neg h5, hf, if_neg h1, if_neg h4, moved]]
      refine r_move r h hi e hv hd a cap w hr i hf (by omega) hp (fun hk t ht => ?_) hlo
      have := hla hk
      simp only [rlate, ht] at this
      simpa using this
end
theorem r_feed (r : Rec) (h : ROk r) (hi : Idle r) (e : Ev) (a : Option Addr) (cap : Nat) (w : World) (hr : TsO w a cap r.Ts) :
    Calls Try.prog 50 #[.agg #[.int .i64 (r).Kind, .int .i64 (r).Node, .int .i64 (r).State, .int .i64 (r).Count, .slice a (r).Ts.length cap, .int .i64 (r).L.X, .int .i64 (r).L.Y, .int .i64 (r).L.T], .agg #[.int .i64 (e).Kind, .int .i64 (e).ID, .int .i64 (e).X, .int .i64 (e).Y, .int .i64 (e).Time, .int .i64 (e).Wheel]] w (RO (feed r e) w) := by
  by_cases hq : (!valid e || deaf r) = true
  · rw [show feed r e = (r, 0, []) by rw [feed, if_pos hq]]
    exact r_feed_deaf r e hq a cap w hr
  have hvd : valid e = true ∧ deaf r = false := by simpa using hq
  obtain ⟨hv, hd⟩ := hvd
  have hT : 0 ≤ e.Time ∧ e.Time ≤ 1099511627776 := by
    by_cases h5 : e.Kind = 5
    · simpa [valid, h5, btw] using hv
    · simp [valid, h5, placed, btw] at hv; omega
  have hk := h.kind
  by_cases h2 : r.Kind ≤ 2
  · have hfe : feed r e = if rlate r e.Time then fail r else process r e := by
      rw [feed, if_neg hq, if_pos h2]
      rcases hs : r.Ts with _ | ⟨t, l⟩
      · simp [rlate, hs]
      · simp [rlate, hs]
    rw [hfe]
    by_cases hl : rlate r e.Time = true
    · rw [if_pos hl]
      exact r_feed_late r h e hv hd (by omega) hT hl a cap w hr
    · rw [if_neg hl]
      exact r_process r h hi e hv hd a cap w hr (fun _ => by simpa using hl) (fun h => by omega)
  by_cases h3 : r.Kind = 3
  · rcases h.shape with hs | ⟨t, hs, h1⟩ | ⟨t, u, hs, h1, hu, h7⟩
    · rw [show feed r e = process r e by rw [feed, if_neg hq, if_neg h2, if_pos h3, hs]]
      exact r_process r h hi e hv hd a cap w hr (fun h => by omega) (fun _ t ht => by rw [hs] at ht; cases ht)
    · rw [show feed r e = if e.Time - t.F.T < 500 then process r e else succeed r ⟨t.F.X, t.F.Y, e.Time⟩ 1 by rw [feed, if_neg hq, if_neg h2, if_pos h3, hs]]
      by_cases hl : e.Time - t.F.T < 500
      · rw [if_pos hl]
        exact r_process r h hi e hv hd a cap w hr (fun h => by omega) (fun _ t' ht => by rw [hs] at ht; cases ht; exact hl)
      · rw [if_neg hl]
        exact r_feed_long r h t hs h1 e hv hd h3 hT (by omega) a cap w hr
    · omega
  · rw [show feed r e = process r e by rw [feed, if_neg hq, if_neg h2, if_neg h3]]
    exact r_process r h hi e hv hd a cap w hr (fun h => by omega) (fun h => absurd h h3)
end Go.Proofs.Ytendgmnbnnkpnaa.G
namespace Go.Proofs.Ytendgmnbnnkpnaa.G
open Go.RowKit
theorem RepG.lt {w : World} {b off : Nat} {gs : List Ges} (hne : gs ≠ []) (h : ∀ i g, gs[i]? = some g → GesAt w b (off + i * 10) g) : b < w.heap.size := by
  rcases gs with _ | ⟨g, l⟩
  · exact absurd rfl hne
  · exact World.block_lt_of_cell? w ⟨b, off + 0 * 10 + 0, none⟩ (h 0 g rfl 0 _ rfl)
theorem ges_cells {w : World} {b o : Nat} {g : Ges} (h : GesAt w b o g) : w.cell? ⟨b, o, none⟩ = some (.int .i64 g.Kind) ∧ w.cell? ⟨b, o + 1, none⟩ = some (.int .i64 g.Node) ∧ w.cell? ⟨b, o + 2, none⟩ = some (.int .i64 g.Phase) ∧ w.cell? ⟨b, o + 3, none⟩ = some (.int .i64 g.X) ∧ w.cell? ⟨b, o + 4, none⟩ = some (.int .i64 g.Y) ∧ w.cell? ⟨b, o + 5, none⟩ = some (.int .i64 g.DX) ∧ w.cell? ⟨b, o + 6, none⟩ = some (.int .i64 g.DY) ∧ w.cell? ⟨b, o + 7, none⟩ = some (.int .i64 g.Scale) ∧ w.cell? ⟨b, o + 8, none⟩ = some (.int .i64 g.VX) ∧ w.cell? ⟨b, o + 9, none⟩ = some (.int .i64 g.VY) :=
  ⟨h 0 _ rfl, h 1 _ rfl, h 2 _ rfl, h 3 _ rfl, h 4 _ rfl, h 5 _ rfl, h 6 _ rfl, h 7 _ rfl, h 8 _ rfl, h 9 _ rfl⟩
set_option maxRecDepth 100000 in
set_option maxHeartbeats 4000000 in
theorem r_equalG (gs : List Ges) (hn : gs.length ≤ 2) (v v' : Value) (w : World) (h : RepG w v gs) (h' : RepG w v' gs) :
    Calls Try.prog 49 #[v, v'] w fun e w' => e = .returned (.bool true) ∧ Ext w w' := by
  by_cases hne : gs = []
  · rcases h with ⟨_, a, c, rfl⟩ | ⟨b, off, c, rfl, h⟩
    · rcases h' with ⟨_, a', c', rfl⟩ | ⟨b', off', c', rfl, h'⟩
      · clear hn hne
        go_enter Try.func49, Try.ntmps49
        go_wp2
        refine wp_loop_rounds 1 ?_
        rw [rounds_succ]
        go_wp2
        go_ret
        exact ⟨rfl, Ext.refl _⟩
      · have hl : gs.length = 0 := by rw [hne]; rfl
        rw [hl]
        clear hn hne hl h'
        go_enter Try.func49, Try.ntmps49
        go_wp2
        refine wp_loop_rounds 1 ?_
        rw [rounds_succ]
        go_wp2
        go_ret
        exact ⟨rfl, Ext.refl _⟩
    · rcases h' with ⟨_, a', c', rfl⟩ | ⟨b', off', c', rfl, h'⟩
      all_goals
        have hl : gs.length = 0 := by rw [hne]; rfl
        rw [hl]
        clear hn hne hl h
        go_enter Try.func49, Try.ntmps49
        go_wp2
        refine wp_loop_rounds 1 ?_
        rw [rounds_succ]
        go_wp2
        go_ret
        exact ⟨rfl, Ext.refl _⟩
  rcases h with ⟨h0, _⟩ | ⟨b, off, c, rfl, h⟩
  · exact absurd h0 hne
  rcases h' with ⟨h0, _⟩ | ⟨b', off', c', rfl, h'⟩
  · exact absurd h0 hne
  have hb := RepG.lt hne h
  have hb' := RepG.lt hne h'
  obtain ⟨n, hnd⟩ : ∃ n, n = gs.length := ⟨_, rfl⟩
  rw [← hnd] at hn ⊢
  replace hnd := Lib.hid hnd
  replace h := Lib.hid h
  replace h' := Lib.hid h'
  clear hne
  go_enter Try.func49, Try.ntmps49
  go_wp2
  go_loopw [5] (fun i wr => ∃ k : Nat, k ≤ n ∧ i = .int .i64 k ∧ Ext w wr) (fun i _ => n - (intOf i).toNat)
  case atStart => exact ⟨0, Nat.zero_le _, rfl, Ext.refl _⟩
  case round =>
    obtain ⟨k, hk, rfl, ⟨d, rfl⟩⟩ := hrel
    by_cases hlt : k < n
    · obtain ⟨g, hg⟩ : ∃ g, gs[k]? = some g := ⟨_, List.getElem?_eq_getElem (hnd.out ▸ hlt)⟩
      obtain ⟨p0, p1, p2, p3, p4, p5, p6, p7, p8, p9⟩ := ges_cells (h.out k g hg)
      obtain ⟨q0, q1, q2, q3, q4, q5, q6, q7, q8, q9⟩ := ges_cells (h'.out k g hg)
      clear hg
      go_wp2
      (refine wp_region_ext (by kernel_rfl) (by kernel_rfl) ?_; (repeat (go_big_quiet_step ((fail)))); refine wpQuiet_nil ?_; intro _ hwq; obtain ⟨dq, hwq⟩ := hwq; subst hwq)
      go_wp2
      go_roundw
      case rel => exact ⟨k + 1, by omega, by go_num, by (repeat (first | exact Ext.refl _ | assumption | refine Ext.alloc ?_ _ | refine Ext.ext ?_ _ | refine Ext.drew ?_))⟩
      case measure => simp [intOf]; omega
    · obtain rfl : k = n := by omega
      go_wp2
      go_ret
      exact ⟨rfl, by (repeat (first | exact Ext.refl _ | assumption | refine Ext.alloc ?_ _ | refine Ext.ext ?_ _ | refine Ext.drew ?_))⟩
end Go.Proofs.Ytendgmnbnnkpnaa.G
