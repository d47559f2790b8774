/- cancel, process. process. Feed. The recognisers' functions as the laws call them. -/
import Derived.Test.YtendgmnbnnkpnaaUO
import Derived.WalkKit
import Derived.WalkSpells
import Derived.WalkLawsBesides
import Derived.Deep.QuietTactic
import Derived.BigQuiet
import Derived.BigRegion
import Derived.Lib.Hide
import Derived.Deep.RegionWith
set_option linter.unusedSimpArgs false
set_option linter.unusedVariables false
namespace Go.Proofs.Ytendgmnbnnkpnaa.G
open Go.RowKit
/-- the machine at the end of a call -/
def MachE (w0 w : World) (M : Nat) (r : Rec) (e : Ev) (ask : Int) (gs : List Ges) : Prop :=
  ∃ a c o, Ext w0 w ∧ w.heap[M]? = some (.cells #[.int .i64 (r).Kind, .int .i64 (r).Node, .int .i64 (r).State, .int .i64 (r).Count, .slice a (r).Ts.length c, .int .i64 (r).L.X, .int .i64 (r).L.Y, .int .i64 (r).L.T, .int .i64 (e).Kind, .int .i64 (e).ID, .int .i64 (e).X, .int .i64 (e).Y, .int .i64 (e).Time, .int .i64 (e).Wheel, .int .i64 ask, o] 82) ∧ (r.Ts = [] ∨ OwnR w w0.heap.size (.slice a r.Ts.length c) r.Ts) ∧ OwnG w w0.heap.size o gs
theorem Mach.fin {w0 w : World} {M : Nat} {r : Rec} {e : Ev} {ask : Int} {gs : List Ges} (h : Mach w0 w M r e ask gs) : MachE w0 w M r e ask gs := by
  obtain ⟨d1, a, c, o, rfl, he, ht, hg⟩ := h
  exact ⟨a, c, o, Ext.trans (by (repeat (first | exact Ext.refl _ | assumption | refine Ext.alloc ?_ _ | refine Ext.ext ?_ _ | refine Ext.drew ?_))) he, heap_at w0 d1 _ he, .inr ht, hg⟩
theorem MachE.ext {w0 w w' : World} {M : Nat} {r : Rec} {e : Ev} {ask : Int} {gs : List Ges} (h : MachE w0 w M r e ask gs) (he : Ext w w') : MachE w0 w' M r e ask gs := by
  obtain ⟨a, c, o, h1, h2, h3, h4⟩ := h
  exact ⟨a, c, o, h1.trans he, heap_some_ext h2 he, h3.imp id (·.ext he), h4.ext he⟩
theorem OwnG.form {w : World} {B : Nat} {v : Value} {gs : List Ges} (h : OwnG w B v gs) : ∃ a n c, v = .slice a n c := by
  rcases h.1.2 with ⟨rfl, _⟩ | ⟨g, cap, cur, rfl, _⟩ <;> exact ⟨_, _, _, rfl⟩
def cancelR (r : Rec) : Rec × Int × List Ges := if r.State = 3 then ((abort r).1, 0, (abort r).2) else fail r
set_option maxHeartbeats 2000000 in
theorem cancel_m (w0 w : World) (M : Nat) (r : Rec) (e : Ev) (hr : ROk r) (h : Mach w0 w M r e 0 []) :
    Calls Try.prog 59 #[.pointer (some ⟨M, 0, none⟩)] w fun x w' => x = .returned (.tuple #[]) ∧ MachE w0 w' M (cancelR r).1 e (cancelR r).2.1 (cancelR r).2.2 := by
  have hmm := Lib.hid h
  obtain ⟨D1, a, c, o, rfl, ⟨D2, rfl⟩, ht, hg⟩ := h
  obtain rfl := hg.2 rfl
  by_cases h3 : r.State = 3
  · have hw : cancelR r = ((abort r).1, 0, (abort r).2) := by simp only [cancelR, if_pos h3]
    rw [hw]
    have hnil : (abort r).1.Ts = [] := by unfold abort; split <;> rfl
    have hrz : ∀ (w' : World), Ext (((w0.ext D1).alloc (.cells #[.int .i64 (r).Kind, .int .i64 (r).Node, .int .i64 (r).State, .int .i64 (r).Count, .slice a (r).Ts.length c, .int .i64 (r).L.X, .int .i64 (r).L.Y, .int .i64 (r).L.T, .int .i64 (e).Kind, .int .i64 (e).ID, .int .i64 (e).X, .int .i64 (e).Y, .int .i64 (e).Time, .int .i64 (e).Wheel, .int .i64 0, .slice none 0 0] 82)).ext D2) w' → RepT w' a r.Ts := fun w' he => (ht.rep).ext he
    have hab := fun w h => abort_r r hr a c w h
    simp only [recC] at hab
    obtain ⟨q, hq⟩ : ∃ q, q = abort r := ⟨_, rfl⟩
    rw [← hq] at hab hnil ⊢
    replace hab := Lib.hid hab
    replace hrz := Lib.hid hrz
    have b3 : (r.State == 3) = true := by simp [h3]
    clear hw ht hg h3 hq hmm hr
    go_enter Try.func59, Try.ntmps59
    go_wp2_with fail
    refine (hab.out _ (hrz.out _ (by (repeat (first | exact Ext.refl _ | assumption | refine Ext.alloc ?_ _ | refine Ext.ext ?_ _ | refine Ext.drew ?_))))).mono ?_
    rintro x w1 ⟨a', c', v, rfl, ⟨da, rfl⟩, hrt, hog⟩
    replace hog := Lib.hid hog
    replace hnil := Lib.hid hnil
    clear hrt
    obtain ⟨va, vn, vc, rfl⟩ := hog.out.form
    go_wp2
    (first | (refine bodyPost_end (results_none rfl _ _ _) rfl ?_) | (refine bodyPost_ret (results_none rfl _ _ _) rfl ?_))
    refine ⟨rfl, a', c', .slice va vn vc, ?_, ?_, .inl hnil.out, ?_⟩
    · (repeat (first | exact Ext.refl _ | assumption | refine Ext.alloc ?_ _ | refine Ext.ext ?_ _ | refine Ext.drew ?_))
    · exact heap_at w0 D1 _ (by (repeat (first | exact Ext.refl _ | assumption | refine Ext.alloc ?_ _ | refine Ext.ext ?_ _ | refine Ext.drew ?_)))
    · refine ⟨ownsRow_base (ownsRow_like (S := fun k => k = w0.heap.size + D1.size) (ownsRow_ext hog.out.1 (Ext.refl _)) (by (repeat (first | exact Like.refl _ _ | refine Like.ext ?_ _ | refine Like.alloc ?_ _ | refine Like.swap ?_ (by simp <;> omega) _ _))) ?_) (by simp <;> omega), hog.out.2⟩
      intro b hb hs
      have := (hog.out.1.lt b hb).1
      simp at this
      omega
  · have hw : cancelR r = fail r := by simp only [cancelR, if_neg h3]
    rw [hw]
    have b3 : (r.State == 3) = false := by simp [h3]
    clear hw ht hg h3 hr
    go_enter Try.func59, Try.ntmps59
    go_wp2_with fail
    refine (fail_m w0 _ _ r e [] (hmm.out.ext (by (repeat (first | exact Ext.refl _ | assumption | refine Ext.alloc ?_ _ | refine Ext.ext ?_ _ | refine Ext.drew ?_))))).mono ?_
    rintro x w1 ⟨rfl, hm2⟩
    replace hm2 := Lib.hid hm2.fin
    go_wp2
    (first | (refine bodyPost_end (results_none rfl _ _ _) rfl ?_) | (refine bodyPost_ret (results_none rfl _ _ _) rfl ?_))
    exact ⟨rfl, hm2.out⟩
theorem find_some {ts : List Tch} {id : Int} {i : Nat} (h : find ts id = some i) : ∃ t, ts[i]? = some t ∧ t.ID = id := by
  obtain ⟨hi, h1, _⟩ := List.findIdx?_eq_some_iff_getElem.1 h
  exact ⟨ts[i], List.getElem?_eq_getElem hi, by simpa using h1⟩
theorem follow_len (ts : List Tch) (i : Nat) (s : Smp) : (follow ts i s).length = ts.length := by
  unfold follow
  split
  · rfl
  · simp
theorem more_ok {l : List Smp} {s : Smp} (h : ∀ s, s ∈ l → placed s = true) (hs : placed s = true) : more l s ≠ [] ∧ (more l s).length ≤ 8 ∧ ∀ x, x ∈ more l s → placed x = true := by
  refine ⟨?_, ?_, ?_⟩
  · rw [← List.length_pos_iff]; simp [more]; omega
  · simp [more]; omega
  · intro x hx
    have := List.mem_of_mem_drop hx
    rcases List.mem_append.1 this with h1 | h1
    · exact h x h1
    · obtain rfl : x = s := by simpa using h1
      exact hs
theorem follow_ok {r : Rec} {i : Nat} {s : Smp} (h : ROk r) (hs : placed s = true) : ROk { r with Ts := follow r.Ts i s } := by
  refine ⟨h.kind, h.node, h.state, h.count, h.last, ?_, ?_, ?_, ?_⟩
  · simp only [follow_len]; exact h.len
  · intro t ht
    simp only [follow] at ht
    split at ht
    · exact h.ts t ht
    · rename_i t' ht'
      have hmem : t' ∈ r.Ts := List.mem_of_getElem? ht'
      rcases List.mem_or_eq_of_mem_set ht with h1 | rfl
      · exact h.ts t h1
      · have h2 := h.ts t' hmem
        have h3 := more_ok h2.s hs
        exact ⟨h2.f, h2.id, h3.1, h3.2.1, h3.2.2⟩
  · intro h4
    have := h.over h4
    simp only [follow, this]; rfl
  · intro hc hst
    simp only [follow_len]
    exact h.sure hc hst
end Go.Proofs.Ytendgmnbnnkpnaa.G
namespace Go.Proofs.Ytendgmnbnnkpnaa.G
open Go.RowKit
theorem find_none_idx {r : Rec} {e : Ev} (h : find r.Ts e.ID = none) : idx r e = -1 := by
  simp only [idx, h]; split <;> rfl
theorem find_some_idx {r : Rec} {e : Ev} {i : Nat} (h5 : ¬ e.Kind = 5) (h : find r.Ts e.ID = some i) : idx r e = (i : Int) := by
  simp only [idx, if_neg h5, h]
set_option maxRecDepth 100000 in
set_option maxHeartbeats 2000000 in
theorem process_idle (w0 w : World) (M : Nat) (r : Rec) (e : Ev) (hr : ROk r) (hi : e.Kind = 5 ∨ (find r.Ts e.ID = none ∧ ¬ e.Kind = 1) ∨ (∃ i, find r.Ts e.ID = some i ∧ e.Kind = 1)) (h : MachS w0 w M r e) :
    Calls Try.prog 36 #[.pointer (some ⟨M, 0, none⟩)] w fun x w' => x = .returned (.tuple #[]) ∧ MachE w0 w' M (process r e).1 e (process r e).2.1 (process r e).2.2 := by
  have htc := fun w (h : Mach w0 w M r e 0 []) => touch_m w0 w M r e 0 [] hr h
  have hw : process r e = (r, 0, []) := by
    rcases hi with h | ⟨h1, h2⟩ | ⟨i, h1, h2⟩
    · simp [process, h]
    · simp only [process, h1, if_neg h2]; split <;> rfl
    · simp [process, h1, h2]
  rw [hw]
  have hmm := Lib.hid (h.weak hr)
  obtain ⟨a, c, o, hM, hc, _⟩ := (h.weak hr).read
  have c8 : w.cell? ⟨M, 8, none⟩ = some (.int .i64 e.Kind) := hc 8 _ rfl
  clear hw hc h
  by_cases h5 : e.Kind = 5
  · have b5 : (e.Kind == 5) = true := by simp [h5]
    clear hi hr h5
    replace htc := Lib.hid htc
    go_enter Try.func36, Try.ntmps36
    go_wp2_with fail
    refine (htc.out _ (hmm.out.ext (by (repeat (first | exact Ext.refl _ | assumption | refine Ext.alloc ?_ _ | refine Ext.ext ?_ _ | refine Ext.drew ?_))))).mono ?_
    rintro x w1 ⟨rfl, d, rfl⟩
    go_wp2
    (first | (refine bodyPost_end (results_none rfl _ _ _) rfl ?_) | (refine bodyPost_ret (results_none rfl _ _ _) rfl ?_))
    refine ⟨rfl, hmm.out.fin.ext ?_⟩
    (repeat (first | exact Ext.refl _ | assumption | refine Ext.alloc ?_ _ | refine Ext.ext ?_ _ | refine Ext.drew ?_))
  · have b5 : (e.Kind == 5) = false := by simp [h5]
    rcases hi with h | ⟨h1, h2⟩ | ⟨i, h1, h2⟩
    · exact absurd h h5
    · have b1 : (e.Kind == 1) = false := by simp [h2]
      rw [find_none_idx h1] at htc
      clear hr h1 h2 h5
      replace htc := Lib.hid htc
      go_enter Try.func36, Try.ntmps36
      go_wp2_with fail
      refine (htc.out _ (hmm.out.ext (by (repeat (first | exact Ext.refl _ | assumption | refine Ext.alloc ?_ _ | refine Ext.ext ?_ _ | refine Ext.drew ?_))))).mono ?_
      rintro x w1 ⟨rfl, d, rfl⟩
      go_wp2
      (first | (refine bodyPost_end (results_none rfl _ _ _) rfl ?_) | (refine bodyPost_ret (results_none rfl _ _ _) rfl ?_))
      refine ⟨rfl, hmm.out.fin.ext ?_⟩
      (repeat (first | exact Ext.refl _ | assumption | refine Ext.alloc ?_ _ | refine Ext.ext ?_ _ | refine Ext.drew ?_))
    · have b1 : (e.Kind == 1) = true := by simp [h2]
      rw [find_some_idx h5 h1] at htc
      clear hr h1 h2 h5
      replace htc := Lib.hid htc
      go_enter Try.func36, Try.ntmps36
      go_wp2_with fail
      refine (htc.out _ (hmm.out.ext (by (repeat (first | exact Ext.refl _ | assumption | refine Ext.alloc ?_ _ | refine Ext.ext ?_ _ | refine Ext.drew ?_))))).mono ?_
      rintro x w1 ⟨rfl, d, rfl⟩
      go_wp2
      (first | (refine bodyPost_end (results_none rfl _ _ _) rfl ?_) | (refine bodyPost_ret (results_none rfl _ _ _) rfl ?_))
      refine ⟨rfl, hmm.out.fin.ext ?_⟩
      (repeat (first | exact Ext.refl _ | assumption | refine Ext.alloc ?_ _ | refine Ext.ext ?_ _ | refine Ext.drew ?_))
set_option maxRecDepth 100000 in
set_option maxHeartbeats 2000000 in
theorem process_down (w0 w : World) (M : Nat) (r : Rec) (e : Ev) (hr : ROk r) (hp : placed (smp e) = true) (h1 : find r.Ts e.ID = none) (h2 : e.Kind = 1) (h : MachS w0 w M r e) :
    Calls Try.prog 36 #[.pointer (some ⟨M, 0, none⟩)] w fun x w' => x = .returned (.tuple #[]) ∧ MachE w0 w' M (process r e).1 e (process r e).2.1 (process r e).2.2 := by
  have htc := fun w (h : Mach w0 w M r e 0 []) => touch_m w0 w M r e 0 [] hr h
  rw [find_none_idx h1] at htc
  have hw : process r e = down r e := by simp [process, h1, h2]
  rw [hw]
  have hmm := Lib.hid (h.weak hr)
  have hms := Lib.hid h
  have hdn := Lib.hid fun w h => down_m w0 w M r e hr hp h
  obtain ⟨a, c, o, hM, hc, _⟩ := (h.weak hr).read
  have c8 : w.cell? ⟨M, 8, none⟩ = some (.int .i64 e.Kind) := hc 8 _ rfl
  have b5 : (e.Kind == 5) = false := by simp [h2]
  have b1 : (e.Kind == 1) = true := by simp [h2]
  clear hw hc h h1 h2 hr hp
  replace htc := Lib.hid htc
  go_enter Try.func36, Try.ntmps36
  go_wp2_with fail
  refine (htc.out _ (hmm.out.ext (by (repeat (first | exact Ext.refl _ | assumption | refine Ext.alloc ?_ _ | refine Ext.ext ?_ _ | refine Ext.drew ?_))))).mono ?_
  rintro x w1 ⟨rfl, d, rfl⟩
  go_wp2_with fail
  refine (hdn.out _ (hms.out.ext (by (repeat (first | exact Ext.refl _ | assumption | refine Ext.alloc ?_ _ | refine Ext.ext ?_ _ | refine Ext.drew ?_))))).mono ?_
  rintro x w1 ⟨rfl, hm2⟩
  replace hm2 := Lib.hid hm2.fin
  go_wp2
  (first | (refine bodyPost_end (results_none rfl _ _ _) rfl ?_) | (refine bodyPost_ret (results_none rfl _ _ _) rfl ?_))
  exact ⟨rfl, hm2.out⟩
set_option maxRecDepth 100000 in
set_option maxHeartbeats 2000000 in
theorem process_cancel (w0 w : World) (M : Nat) (r : Rec) (e : Ev) (i : Nat) (hr : ROk r) (h1 : find r.Ts e.ID = some i) (h2 : e.Kind = 4) (h : MachS w0 w M r e) :
    Calls Try.prog 36 #[.pointer (some ⟨M, 0, none⟩)] w fun x w' => x = .returned (.tuple #[]) ∧ MachE w0 w' M (process r e).1 e (process r e).2.1 (process r e).2.2 := by
  have htc := fun w (h : Mach w0 w M r e 0 []) => touch_m w0 w M r e 0 [] hr h
  rw [find_some_idx (by omega) h1] at htc
  have hw : process r e = cancelR r := by simp [process, h1, h2, cancelR]
  rw [hw]
  have hmm := Lib.hid (h.weak hr)
  have hdn := Lib.hid fun w h => cancel_m w0 w M r e hr h
  obtain ⟨a, c, o, hM, hc, _⟩ := (h.weak hr).read
  have c8 : w.cell? ⟨M, 8, none⟩ = some (.int .i64 e.Kind) := hc 8 _ rfl
  have b5 : (e.Kind == 5) = false := by simp [h2]
  have b1 : (e.Kind == 1) = false := by simp [h2]
  have b4 : (e.Kind == 4) = true := by simp [h2]
  have bi : decide ((i : Int) < 0) = false := by simp
  clear hw hc h h1 h2 hr
  replace htc := Lib.hid htc
  go_enter Try.func36, Try.ntmps36
  go_wp2_with fail
  refine (htc.out _ (hmm.out.ext (by (repeat (first | exact Ext.refl _ | assumption | refine Ext.alloc ?_ _ | refine Ext.ext ?_ _ | refine Ext.drew ?_))))).mono ?_
  rintro x w1 ⟨rfl, d, rfl⟩
  go_wp2_with fail
  refine (hdn.out _ (hmm.out.ext (by (repeat (first | exact Ext.refl _ | assumption | refine Ext.alloc ?_ _ | refine Ext.ext ?_ _ | refine Ext.drew ?_))))).mono ?_
  rintro x w1 ⟨rfl, hm2⟩
  replace hm2 := Lib.hid hm2
  go_wp2
  (first | (refine bodyPost_end (results_none rfl _ _ _) rfl ?_) | (refine bodyPost_ret (results_none rfl _ _ _) rfl ?_))
  exact ⟨rfl, hm2.out⟩
/-- what follows upon the new sample -/
def moved (r : Rec) (e : Ev) : Rec × Int × List Ges := if r.Kind ≤ 3 then still r e else if r.Kind = 8 then throw_ r e else slide r e
set_option maxRecDepth 100000 in
set_option maxHeartbeats 2000000 in
theorem process_move (w0 w : World) (M : Nat) (r : Rec) (e : Ev) (i : Nat) (hr : ROk r) (hp : placed (smp e) = true) (h1 : find r.Ts e.ID = some i) (h2 : e.Kind = 2 ∨ e.Kind = 3) (h : MachS w0 w M r e) :
    Calls Try.prog 36 #[.pointer (some ⟨M, 0, none⟩)] w fun x w' => x = .returned (.tuple #[]) ∧ MachE w0 w' M (process r e).1 e (process r e).2.1 (process r e).2.2 := by
  have htc := fun w (h : Mach w0 w M r e 0 []) => touch_m w0 w M r e 0 [] hr h
  rw [find_some_idx (by omega) h1] at htc
  obtain ⟨t, hti, hid⟩ := find_some h1
  have hf := Lib.hid fun w h => follow_m w0 w M r e i t hr hti h
  have hr2 := follow_ok (i := i) hr hp
  obtain ⟨r2, hr2d⟩ : ∃ r2 : Rec, r2 = { r with Ts := follow r.Ts i (smp e) } := ⟨_, rfl⟩
  have hw : process r e = moved r2 e := by
    have a5 : ¬ e.Kind = 5 := by omega
    have a1 : ¬ e.Kind = 1 := by omega
    have a4 : ¬ e.Kind = 4 := by omega
    rw [hr2d]
    simp only [process, h1, if_neg a5, if_neg a1, if_neg a4, moved]
  rw [hw]
  have hk : r2.Kind = r.Kind := by rw [hr2d]
  have hfl : r2.Ts[i]? = some ⟨t.ID, t.F, more t.S (smp e)⟩ := by
    have hi := (List.getElem?_eq_some_iff.1 hti).1
    rw [hr2d]
    simp only [follow, hti]
    simp [hi]
  rw [← hr2d] at hf hr2
  have hmm := Lib.hid (h.weak hr)
  have hms := Lib.hid h
  have b5 : (e.Kind == 5) = false := by simp; omega
  have b1 : (e.Kind == 1) = false := by simp; omega
  have b4 : (e.Kind == 4) = false := by simp; omega
  have bi : decide ((i : Int) < 0) = false := by simp
  have k2 := hr2.kind
  have hone : (r2.Kind ≤ 3 ∨ r2.Kind = 8) → i = 0 ∧ ∃ t, r2.Ts = [t] ∧ t.ID = e.ID := by
    intro hk3
    rcases hr2.shape with hs | ⟨t', hs, _⟩ | ⟨t', u', hs, _, _, h7⟩
    · rw [hs] at hfl; cases hfl
    · have hi0 : i = 0 := by rw [hs] at hfl; have := (List.getElem?_eq_some_iff.1 hfl).1; simpa using this
      subst hi0
      rw [hs] at hfl
      refine ⟨rfl, t', hs, ?_⟩
      simp only [List.getElem?_cons_zero, Option.some.injEq] at hfl
      rw [hfl]; exact hid
    · omega
  have hne : r2.Ts ≠ [] := fun h0 => by rw [h0] at hfl; cases hfl
  obtain ⟨a, c, o, hM, hc, _⟩ := (h.weak hr).read
  have c8 : w.cell? ⟨M, 8, none⟩ = some (.int .i64 e.Kind) := hc 8 _ rfl
  replace hr2d := Lib.hid hr2d
  replace htc := Lib.hid htc
  clear hw hc h h1 hr hti hid hfl hk
  by_cases hk3 : r2.Kind ≤ 3
  · obtain ⟨rfl, t', hs, hid⟩ := hone (.inl hk3)
    have hst := Lib.hid fun w h => still_m w0 w M r2 e t' hr2 hk3 hs hid hp h2 h
    have hw : moved r2 e = still r2 e := by simp only [moved, if_pos hk3]
    rw [hw]
    have e13 : (r2.Kind == 1) = true ∨ (r2.Kind == 1) = false ∧ (r2.Kind == 2) = true ∨ (r2.Kind == 1) = false ∧ (r2.Kind == 2) = false ∧ (r2.Kind == 3) = true := by
      simp only [beq_iff_eq, beq_eq_false_iff_ne]; omega
    clear hw hone hne hr2 k2 hk3 h2 hs
    rcases e13 with e1 | ⟨e1, e2⟩ | ⟨e1, e2, e3⟩
    all_goals
      go_enter Try.func36, Try.ntmps36
      go_wp2_with fail
      refine (htc.out _ (hmm.out.ext (by (repeat (first | exact Ext.refl _ | assumption | refine Ext.alloc ?_ _ | refine Ext.ext ?_ _ | refine Ext.drew ?_))))).mono ?_
      rintro x w1 ⟨rfl, d, rfl⟩
      go_wp2_with fail
      refine (hf.out _ (hms.out.ext (by (repeat (first | exact Ext.refl _ | assumption | refine Ext.alloc ?_ _ | refine Ext.ext ?_ _ | refine Ext.drew ?_))))).mono ?_
      rintro x w1 ⟨rfl, hm2⟩
      obtain ⟨a2, cc2, o2, hM2, hc2, _⟩ := hm2.read
      have k0 : w1.cell? ⟨M, 0, none⟩ = some (.int .i64 r2.Kind) := hc2 0 _ rfl
      have k8 : w1.cell? ⟨M, 8, none⟩ = some (.int .i64 e.Kind) := hc2 8 _ rfl
      replace hm2 := Lib.hid hm2
      clear hc2
      go_wp2_with fail
      refine (hst.out _ (hm2.out.ext (by (repeat (first | exact Ext.refl _ | assumption | refine Ext.alloc ?_ _ | refine Ext.ext ?_ _ | refine Ext.drew ?_))))).mono ?_
      rintro x w2 ⟨rfl, hm3⟩
      replace hm3 := Lib.hid hm3.fin
      go_wp2
      (first | (refine bodyPost_end (results_none rfl _ _ _) rfl ?_) | (refine bodyPost_ret (results_none rfl _ _ _) rfl ?_))
      exact ⟨rfl, hm3.out⟩
  · by_cases hk8 : r2.Kind = 8
    · obtain ⟨rfl, t', hs, hid⟩ := hone (.inr hk8)
      have hst := Lib.hid fun w h => throw_m w0 w M r2 e t' hr2 hs hp h2 h
      have hw : moved r2 e = throw_ r2 e := by simp only [moved, if_neg hk3, if_pos hk8]
      rw [hw]
      have e1 : (r2.Kind == 1) = false := by simp; omega
      have e2 : (r2.Kind == 2) = false := by simp; omega
      have e3 : (r2.Kind == 3) = false := by simp; omega
      have e8 : (r2.Kind == 8) = true := by simp [hk8]
      clear hw hone hne hr2 k2 hk3 h2 hs hk8
      go_enter Try.func36, Try.ntmps36
      go_wp2_with fail
      refine (htc.out _ (hmm.out.ext (by (repeat (first | exact Ext.refl _ | assumption | refine Ext.alloc ?_ _ | refine Ext.ext ?_ _ | refine Ext.drew ?_))))).mono ?_
      rintro x w1 ⟨rfl, d, rfl⟩
      go_wp2_with fail
      refine (hf.out _ (hms.out.ext (by (repeat (first | exact Ext.refl _ | assumption | refine Ext.alloc ?_ _ | refine Ext.ext ?_ _ | refine Ext.drew ?_))))).mono ?_
      rintro x w1 ⟨rfl, hm2⟩
      obtain ⟨a2, cc2, o2, hM2, hc2, _⟩ := hm2.read
      have k0 : w1.cell? ⟨M, 0, none⟩ = some (.int .i64 r2.Kind) := hc2 0 _ rfl
      have k8 : w1.cell? ⟨M, 8, none⟩ = some (.int .i64 e.Kind) := hc2 8 _ rfl
      replace hm2 := Lib.hid hm2
      clear hc2
      go_wp2_with fail
      refine (hst.out _ (hm2.out.ext (by (repeat (first | exact Ext.refl _ | assumption | refine Ext.alloc ?_ _ | refine Ext.ext ?_ _ | refine Ext.drew ?_))))).mono ?_
      rintro x w2 ⟨rfl, hm3⟩
      replace hm3 := Lib.hid hm3.fin
      go_wp2
      (first | (refine bodyPost_end (results_none rfl _ _ _) rfl ?_) | (refine bodyPost_ret (results_none rfl _ _ _) rfl ?_))
      exact ⟨rfl, hm3.out⟩
    · have hst := Lib.hid fun w h => slide_m w0 w M r2 e i hr2 (by omega) hne h
      have hw : moved r2 e = slide r2 e := by simp only [moved, if_neg hk3, if_neg hk8]
      rw [hw]
      have e1 : (r2.Kind == 1) = false := by simp; omega
      have e2 : (r2.Kind == 2) = false := by simp; omega
      have e3 : (r2.Kind == 3) = false := by simp; omega
      have e8 : (r2.Kind == 8) = false := by simp [hk8]
      clear hw hone hne hr2 k2 hk3 h2 hk8
      go_enter Try.func36, Try.ntmps36
      go_wp2_with fail
      refine (htc.out _ (hmm.out.ext (by (repeat (first | exact Ext.refl _ | assumption | refine Ext.alloc ?_ _ | refine Ext.ext ?_ _ | refine Ext.drew ?_))))).mono ?_
      rintro x w1 ⟨rfl, d, rfl⟩
      go_wp2_with fail
      refine (hf.out _ (hms.out.ext (by (repeat (first | exact Ext.refl _ | assumption | refine Ext.alloc ?_ _ | refine Ext.ext ?_ _ | refine Ext.drew ?_))))).mono ?_
      rintro x w1 ⟨rfl, hm2⟩
      obtain ⟨a2, cc2, o2, hM2, hc2, _⟩ := hm2.read
      have k0 : w1.cell? ⟨M, 0, none⟩ = some (.int .i64 r2.Kind) := hc2 0 _ rfl
      have k8 : w1.cell? ⟨M, 8, none⟩ = some (.int .i64 e.Kind) := hc2 8 _ rfl
      replace hm2 := Lib.hid hm2
      clear hc2
      go_wp2_with fail
      refine (hst.out _ (hm2.out.ext (by (repeat (first | exact Ext.refl _ | assumption | refine Ext.alloc ?_ _ | refine Ext.ext ?_ _ | refine Ext.drew ?_))))).mono ?_
      rintro x w2 ⟨rfl, hm3⟩
      replace hm3 := Lib.hid hm3.fin
      go_wp2
      (first | (refine bodyPost_end (results_none rfl _ _ _) rfl ?_) | (refine bodyPost_ret (results_none rfl _ _ _) rfl ?_))
      exact ⟨rfl, hm3.out⟩
theorem valid_kind {e : Ev} (hv : valid e = true) : 1 ≤ e.Kind ∧ e.Kind ≤ 5 := by
  by_cases h5 : e.Kind = 5
  · omega
  · simp [valid, h5, btw] at hv; omega
theorem process_m (w0 w : World) (M : Nat) (r : Rec) (e : Ev) (hr : ROk r) (hv : valid e = true) (h : MachS w0 w M r e) :
    Calls Try.prog 36 #[.pointer (some ⟨M, 0, none⟩)] w fun x w' => x = .returned (.tuple #[]) ∧ MachE w0 w' M (process r e).1 e (process r e).2.1 (process r e).2.2 := by
  have hk := valid_kind hv
  by_cases h5 : e.Kind = 5
  · exact process_idle w0 w M r e hr (.inl h5) h
  · have hp := smp_placed hv h5
    cases hf : find r.Ts e.ID with
    | none =>
      by_cases h1 : e.Kind = 1
      · exact process_down w0 w M r e hr hp hf h1 h
      · exact process_idle w0 w M r e hr (.inr (.inl ⟨hf, h1⟩)) h
    | some i =>
      by_cases h1 : e.Kind = 1
      · exact process_idle w0 w M r e hr (.inr (.inr ⟨i, hf, h1⟩)) h
      · by_cases h4 : e.Kind = 4
        · exact process_cancel w0 w M r e i hr hf h4 h
        · exact process_move w0 w M r e i hr hp hf (by omega) h
end Go.Proofs.Ytendgmnbnnkpnaa.G
namespace Go.Proofs.Ytendgmnbnnkpnaa.G
open Go.RowKit
theorem OwnT.lt {w : World} {B : Nat} {v : Value} : ∀ {ts : List Tch}, OwnT w B v ts → ∀ k, v.ownBlock = some k → B ≤ k ∧ k < w.heap.size
  | [], h => World.ownsRow.lt h
  | [_], ⟨_, _, h, _⟩ => World.ownsRow.lt h
  | [_, _], ⟨_, _, _, _, _, h, _⟩ => World.ownsRow.lt h
  | _ :: _ :: _ :: _, h => h.elim
theorem OwnR.base {w : World} {B B' : Nat} {v : Value} : ∀ {ts : List Tch}, OwnR w B v ts → B' ≤ B → OwnR w B' v ts
  | [], h, hb => ownsRow_base h hb
  | [_], ⟨g, o, c, h1, h2⟩, hb => ⟨g, o, c, ownsRow_base h1 hb, h2⟩
  | [_, _], ⟨g, o, c, h, p, d, h1, h2, h3⟩, hb => ⟨g, o, c, h, p, d, ownsRow_base h1 hb, h2, h3⟩
  | _ :: _ :: _ :: _, h, _ => h.elim
/-- touches in rows of their own types -/
def TsO (w : World) (a : Option Addr) (c : Nat) (ts : List Tch) : Prop := ts = [] ∨ OwnR w 0 (.slice a ts.length c) ts
theorem TsO.rep {w : World} {a : Option Addr} {c : Nat} {ts : List Tch} (h : TsO w a c ts) : RepT w a ts := by
  rcases h with h | h
  · exact .inl h
  · exact h.rep
theorem TsO.ext {w w' : World} {a : Option Addr} {c : Nat} {ts : List Tch} (h : TsO w a c ts) (he : Ext w w') : TsO w' a c ts := h.imp id (·.ext he)
/-- whatever a variable of the recogniser's type holds -/
theorem TsO.turn {w w' : World} {b : Nat} {z : Array Value} {a : Option Addr} {c : Nat} {ts : List Tch} (h : TsO w a c ts) (hl : Like (fun k => k = b) w w') (hb : w.heap[b]? = some (.cells z 26)) : TsO w' a c ts :=
  h.imp id (·.like2 (e' := 26) (by decide) (by decide) hl (fun k hk => ⟨z, _, hk ▸ hb⟩))
theorem machS_of {w0 w : World} {M : Nat} {r : Rec} {e : Ev} {a : Option Addr} {c : Nat} (he : Ext w0 w) (h0 : w0.heap.size ≤ M) (hh : w.heap[M]? = some (.cells #[.int .i64 (r).Kind, .int .i64 (r).Node, .int .i64 (r).State, .int .i64 (r).Count, .slice a (r).Ts.length c, .int .i64 (r).L.X, .int .i64 (r).L.Y, .int .i64 (r).L.T, .int .i64 (e).Kind, .int .i64 (e).ID, .int .i64 (e).X, .int .i64 (e).Y, .int .i64 (e).Time, .int .i64 (e).Wheel, .int .i64 0, .slice none 0 0] 82)) (ht : OwnT w w0.heap.size (.slice a r.Ts.length c) r.Ts) (hlt : ∀ k, (Value.slice a r.Ts.length c).ownBlock = some k → k < M) : MachS w0 w M r e := by
  obtain ⟨d, z, h1, h2⟩ := he.split hh h0
  exact ⟨d, a, c, h1, ⟨z, h2⟩, ht, fun p hp => hlt p.block (by rw [hp]; rfl)⟩
theorem feed_q (r : Rec) (e : Ev) (h : (!valid e || deaf r) = false) : feed r e = (lateM r e).getD (process r e) := feed_late r e h
set_option maxRecDepth 100000 in
set_option maxHeartbeats 4000000 in
theorem feed_r (r : Rec) (e : Ev) (hr : ROk r) (a : Option Addr) (cap : Nat) (w : World) (hrep : RepT w a r.Ts) :
    Calls Try.prog 20 #[.agg #[.int .i64 r.Kind, .int .i64 r.Node, .int .i64 r.State, .int .i64 r.Count, .slice a r.Ts.length cap, .int .i64 r.L.X, .int .i64 r.L.Y, .int .i64 r.L.T], .agg #[.int .i64 e.Kind, .int .i64 e.ID, .int .i64 e.X, .int .i64 e.Y, .int .i64 e.Time, .int .i64 e.Wheel]] w fun x w' =>
      ∃ a' c' v, x = .returned (.tuple #[.agg (recC (feed r e).1 a' c').toArray, .int .i64 (feed r e).2.1, v]) ∧ Ext w w' ∧ TsO w' a' c' (feed r e).1.Ts ∧ OwnG w' w.heap.size v (feed r e).2.2 := by
  have hcl := Lib.hid fun w h => clone_r r hr a cap w h
  by_cases hd : (!valid e || deaf r) = true
  · have hw : feed r e = (r, 0, []) := by simp only [feed, if_pos hd]
    rw [hw]
    have b : valid e = false ∨ valid e = true ∧ (r.State == 4) = true ∨ valid e = true ∧ (r.State == 4) = false ∧ (r.State == 2) = true ∧ cont r.Kind = false := by
      simp only [deaf, Bool.or_eq_true, Bool.not_eq_true', decide_eq_true_eq, Bool.and_eq_true] at hd
      simp only [beq_iff_eq, beq_eq_false_iff_ne]
      cases hv : valid e
      · exact .inl rfl
      · rcases hd with h | h | h
        · rw [hv] at h; cases h
        · exact .inr (.inl ⟨rfl, h⟩)
        · by_cases h4 : r.State = 4
          · exact .inr (.inl ⟨rfl, h4⟩)
          · exact .inr (.inr ⟨rfl, h4, h⟩)
    have hts := Lib.hid hr.ts
    clear hd hw hr
    rcases b with bv | ⟨bv, b4⟩ | ⟨bv, b4, b2, bc⟩
    all_goals
      go_enter Try.func20, Try.ntmps20
      go_wp2_with fail
      refine (hcl.out _ (hrep.ext (by (repeat (first | exact Ext.refl _ | assumption | refine Ext.alloc ?_ _ | refine Ext.ext ?_ _ | refine Ext.drew ?_))))).mono ?_
      rintro x w1 ⟨a1, c1, rfl, ⟨d1, rfl⟩, hown⟩
      have hrz : ∀ (A Z : Array Value) (d : Grow), TsO (((((w.alloc (.cells A 26)).alloc (.cells #[.int .i64 (e).Kind, .int .i64 (e).ID, .int .i64 (e).X, .int .i64 (e).Y, .int .i64 (e).Time, .int .i64 (e).Wheel] 44)).alloc (.cells Z 26)).ext d1).ext d) a1 c1 r.Ts := fun A Z d => .inr (((OwnT.weak hts.out (hown.like (S := fun k => k < w.heap.size + 3) (Y := ((((w.alloc (.cells A 26)).alloc (.cells #[.int .i64 (e).Kind, .int .i64 (e).ID, .int .i64 (e).X, .int .i64 (e).Y, .int .i64 (e).Time, .int .i64 (e).Wheel] 44)).alloc (.cells Z 26)).ext d1)) (by (repeat (first | exact Like.refl _ _ | refine Like.ext ?_ _ | refine Like.alloc ?_ _ | refine Like.swap ?_ (by simp <;> omega) _ _))) (by simp))).base (Nat.zero_le _)).ext (Ext.ext (Ext.refl _) d))
      replace hrz := Lib.hid hrz
      clear hown
      go_wp2_with (first | (go_at_call 33; refine (valid_any _ _ _ _ _ _ _).mono ?_; rintro e w' ⟨rfl, dv, rfl⟩) | (go_at_call 34; refine (cont_any _ _).mono ?_; rintro e w' ⟨rfl, rfl⟩))
      (refine bodyPost_ret (v := ?_) (by simp [results, Try.results20, go_sem]; rfl) rfl ?_)
      refine ⟨a1, c1, _, rfl, ?_, ?_, OwnG.none _ _⟩
      · (repeat (first | exact Ext.refl _ | assumption | refine Ext.alloc ?_ _ | refine Ext.ext ?_ _ | refine Ext.drew ?_))
      · exact hrz.out _ _ _
  · have hd' : (!valid e || deaf r) = false := by simpa using hd
    have hw := feed_q r e hd'
    have bv : valid e = true := by
      cases hv : valid e
      · rw [hv] at hd'; cases hd'
      · rfl
    have b : (r.State == 4) = false ∧ (r.State == 2) = false ∨ (r.State == 4) = false ∧ (r.State == 2) = true ∧ cont r.Kind = true := by
      simp only [bv, deaf, Bool.not_true, Bool.false_or, Bool.or_eq_false_iff, decide_eq_false_iff_not, Bool.and_eq_false_iff, Bool.not_eq_false'] at hd'
      simp only [beq_iff_eq, beq_eq_false_iff_ne]
      by_cases h2 : r.State = 2
      · exact .inr ⟨hd'.1, h2, by rcases hd'.2 with h | h; exact absurd h2 h; exact h⟩
      · exact .inl ⟨hd'.1, h2⟩
    clear hd hd'
    have bv2 := Lib.hid bv
    have hr2 := Lib.hid hr
    clear hr
    cases hl : lateM r e with
    | none =>
      have hw2 : feed r e = process r e := by rw [hw, hl]; rfl
      rw [hw2]
      have hlm := Lib.hid fun w0 w M h => late_m w0 w M r e hr2.out bv2.out h
      have hpm := Lib.hid fun w0 w M h => process_m w0 w M r e hr2.out bv2.out h
      rw [hl] at hlm
      obtain ⟨q, hqd⟩ : ∃ q, q = process r e := ⟨_, rfl⟩
      rw [← hqd] at hpm ⊢
      clear hqd hw2 hw hl
      rcases b with ⟨b4, b2⟩ | ⟨b4, b2, bc⟩
      all_goals
        go_enter Try.func20, Try.ntmps20
        go_wp2_with fail
        refine (hcl.out _ (hrep.ext (by (repeat (first | exact Ext.refl _ | assumption | refine Ext.alloc ?_ _ | refine Ext.ext ?_ _ | refine Ext.drew ?_))))).mono ?_
        rintro x w1 ⟨a1, c1, rfl, ⟨d1, rfl⟩, hown⟩
        replace hown := Lib.hid hown
        go_wp2_with (first | (go_at_call 33; refine (valid_any _ _ _ _ _ _ _).mono ?_; rintro e w' ⟨rfl, dv, rfl⟩) | (go_at_call 34; refine (cont_any _ _).mono ?_; rintro e w' ⟨rfl, rfl⟩))
        refine gen_at (p := fun W => Calls _ _ _ W _) ?_
        intro W hW
        have hms : Hid (MachS (((w.alloc (.cells #[.int .i64 (r).Kind, .int .i64 (r).Node, .int .i64 (r).State, .int .i64 (r).Count, .slice a1 (r).Ts.length c1, .int .i64 (r).L.X, .int .i64 (r).L.Y, .int .i64 (r).L.T] 26)).alloc (.cells #[.int .i64 (e).Kind, .int .i64 (e).ID, .int .i64 (e).X, .int .i64 (e).Y, .int .i64 (e).Time, .int .i64 (e).Wheel] 44)).alloc (.cells #[.int .i64 0, .int .i64 0, .int .i64 0, .int .i64 0, .slice none 0 0, .int .i64 0, .int .i64 0, .int .i64 0] 26)) W (w.heap.size + 1 + 1 + 1 + d1.size + dv.size) r e) := by
          have h1 : Ext (((w.alloc (.cells #[.int .i64 (r).Kind, .int .i64 (r).Node, .int .i64 (r).State, .int .i64 (r).Count, .slice a1 (r).Ts.length c1, .int .i64 (r).L.X, .int .i64 (r).L.Y, .int .i64 (r).L.T] 26)).alloc (.cells #[.int .i64 (e).Kind, .int .i64 (e).ID, .int .i64 (e).X, .int .i64 (e).Y, .int .i64 (e).Time, .int .i64 (e).Wheel] 44)).alloc (.cells #[.int .i64 0, .int .i64 0, .int .i64 0, .int .i64 0, .slice none 0 0, .int .i64 0, .int .i64 0, .int .i64 0] 26)) W := by
            rw [hW]
            (repeat (first | exact Ext.refl _ | assumption | refine Ext.alloc ?_ _ | refine Ext.ext ?_ _ | refine Ext.drew ?_))
          have h2 : W.heap[(w.heap.size + 1 + 1 + 1 + d1.size + dv.size)]? = some (.cells #[.int .i64 (r).Kind, .int .i64 (r).Node, .int .i64 (r).State, .int .i64 (r).Count, .slice a1 (r).Ts.length c1, .int .i64 (r).L.X, .int .i64 (r).L.Y, .int .i64 (r).L.T, .int .i64 (e).Kind, .int .i64 (e).ID, .int .i64 (e).X, .int .i64 (e).Y, .int .i64 (e).Time, .int .i64 (e).Wheel, .int .i64 0, .slice none 0 0] 82) := by
            rw [hW]
            refine heap_at' _ dv _ ?_ (Ext.refl _)
            simp only [World.size_ext, World.size_alloc]
          have h3 : OwnT W (((w.alloc (.cells #[.int .i64 (r).Kind, .int .i64 (r).Node, .int .i64 (r).State, .int .i64 (r).Count, .slice a1 (r).Ts.length c1, .int .i64 (r).L.X, .int .i64 (r).L.Y, .int .i64 (r).L.T] 26)).alloc (.cells #[.int .i64 (e).Kind, .int .i64 (e).ID, .int .i64 (e).X, .int .i64 (e).Y, .int .i64 (e).Time, .int .i64 (e).Wheel] 44)).alloc (.cells #[.int .i64 0, .int .i64 0, .int .i64 0, .int .i64 0, .slice none 0 0, .int .i64 0, .int .i64 0, .int .i64 0] 26)).heap.size (.slice a1 r.Ts.length c1) r.Ts := by
            have h4 := OwnT.base (B' := (((w.alloc (.cells #[.int .i64 (r).Kind, .int .i64 (r).Node, .int .i64 (r).State, .int .i64 (r).Count, .slice a1 (r).Ts.length c1, .int .i64 (r).L.X, .int .i64 (r).L.Y, .int .i64 (r).L.T] 26)).alloc (.cells #[.int .i64 (e).Kind, .int .i64 (e).ID, .int .i64 (e).X, .int .i64 (e).Y, .int .i64 (e).Time, .int .i64 (e).Wheel] 44)).alloc (.cells #[.int .i64 0, .int .i64 0, .int .i64 0, .int .i64 0, .slice none 0 0, .int .i64 0, .int .i64 0, .int .i64 0] 26)).heap.size) ((hown.out.like (S := fun k => k < w.heap.size + 3) (Y := ((((w.alloc (.cells #[.int .i64 (r).Kind, .int .i64 (r).Node, .int .i64 (r).State, .int .i64 (r).Count, .slice a1 (r).Ts.length c1, .int .i64 (r).L.X, .int .i64 (r).L.Y, .int .i64 (r).L.T] 26)).alloc (.cells #[.int .i64 (e).Kind, .int .i64 (e).ID, .int .i64 (e).X, .int .i64 (e).Y, .int .i64 (e).Time, .int .i64 (e).Wheel] 44)).alloc (.cells #[.int .i64 0, .int .i64 0, .int .i64 0, .int .i64 0, .slice none 0 0, .int .i64 0, .int .i64 0, .int .i64 0] 26)).ext d1)) (by (repeat (first | exact Like.refl _ _ | refine Like.ext ?_ _ | refine Like.alloc ?_ _ | refine Like.swap ?_ (by simp <;> omega) _ _))) (by simp))) (by simp)
            refine h4.ext ?_
            rw [hW]
            (repeat (first | exact Ext.refl _ | assumption | refine Ext.alloc ?_ _ | refine Ext.ext ?_ _ | refine Ext.drew ?_))
          refine machS_of h1 (by simp only [World.size_alloc]; omega) h2 h3 (fun k hk => ?_)
          have := (OwnT.lt hown.out k hk).2
          simp only [World.size_ext, World.size_alloc] at this
          omega
        clear hown hW
        refine (hlm.out (((w.alloc (.cells #[.int .i64 (r).Kind, .int .i64 (r).Node, .int .i64 (r).State, .int .i64 (r).Count, .slice a1 (r).Ts.length c1, .int .i64 (r).L.X, .int .i64 (r).L.Y, .int .i64 (r).L.T] 26)).alloc (.cells #[.int .i64 (e).Kind, .int .i64 (e).ID, .int .i64 (e).X, .int .i64 (e).Y, .int .i64 (e).Time, .int .i64 (e).Wheel] 44)).alloc (.cells #[.int .i64 0, .int .i64 0, .int .i64 0, .int .i64 0, .slice none 0 0, .int .i64 0, .int .i64 0, .int .i64 0] 26)) W (w.heap.size + 1 + 1 + 1 + d1.size + dv.size) (hms.out.weak hr2.out)).mono ?_
        rintro x w1 ⟨rfl, dl, rfl⟩
        go_wp2_with fail
        refine (hpm.out _ _ _ (hms.out.ext (by (repeat (first | exact Ext.refl _ | assumption | refine Ext.alloc ?_ _ | refine Ext.ext ?_ _ | refine Ext.drew ?_))))).mono ?_
        rintro x w2 ⟨rfl, hE⟩
        replace hE := Lib.hid hE
        clear hms
        go_wp2_with fail
        have hE2 : ∃ (x y : Grow) (a2 : Option Addr) (c2 : Nat) (va : Option Addr) (vn vc : Nat), w.heap.size + 1 + 1 + 1 + d1.size + dv.size = w.heap.size + 1 + 1 + 1 + x.size ∧ w2 = (((((w.alloc (.cells #[.int .i64 (r).Kind, .int .i64 (r).Node, .int .i64 (r).State, .int .i64 (r).Count, .slice a1 (r).Ts.length c1, .int .i64 (r).L.X, .int .i64 (r).L.Y, .int .i64 (r).L.T] 26)).alloc (.cells #[.int .i64 (e).Kind, .int .i64 (e).ID, .int .i64 (e).X, .int .i64 (e).Y, .int .i64 (e).Time, .int .i64 (e).Wheel] 44)).alloc (.cells #[.int .i64 0, .int .i64 0, .int .i64 0, .int .i64 0, .slice none 0 0, .int .i64 0, .int .i64 0, .int .i64 0] 26)).ext x).alloc (.cells #[.int .i64 (q.1).Kind, .int .i64 (q.1).Node, .int .i64 (q.1).State, .int .i64 (q.1).Count, .slice a2 (q.1).Ts.length c2, .int .i64 (q.1).L.X, .int .i64 (q.1).L.Y, .int .i64 (q.1).L.T, .int .i64 (e).Kind, .int .i64 (e).ID, .int .i64 (e).X, .int .i64 (e).Y, .int .i64 (e).Time, .int .i64 (e).Wheel, .int .i64 q.2.1, .slice va vn vc] 82)).ext y ∧ (q.1.Ts = [] ∨ OwnR w2 (((w.alloc (.cells #[.int .i64 (r).Kind, .int .i64 (r).Node, .int .i64 (r).State, .int .i64 (r).Count, .slice a1 (r).Ts.length c1, .int .i64 (r).L.X, .int .i64 (r).L.Y, .int .i64 (r).L.T] 26)).alloc (.cells #[.int .i64 (e).Kind, .int .i64 (e).ID, .int .i64 (e).X, .int .i64 (e).Y, .int .i64 (e).Time, .int .i64 (e).Wheel] 44)).alloc (.cells #[.int .i64 0, .int .i64 0, .int .i64 0, .int .i64 0, .slice none 0 0, .int .i64 0, .int .i64 0, .int .i64 0] 26)).heap.size (.slice a2 q.1.Ts.length c2) q.1.Ts) ∧ OwnG w2 (((w.alloc (.cells #[.int .i64 (r).Kind, .int .i64 (r).Node, .int .i64 (r).State, .int .i64 (r).Count, .slice a1 (r).Ts.length c1, .int .i64 (r).L.X, .int .i64 (r).L.Y, .int .i64 (r).L.T] 26)).alloc (.cells #[.int .i64 (e).Kind, .int .i64 (e).ID, .int .i64 (e).X, .int .i64 (e).Y, .int .i64 (e).Time, .int .i64 (e).Wheel] 44)).alloc (.cells #[.int .i64 0, .int .i64 0, .int .i64 0, .int .i64 0, .slice none 0 0, .int .i64 0, .int .i64 0, .int .i64 0] 26)).heap.size (.slice va vn vc) q.2.2 := by
          obtain ⟨a2, c2, o2, h1, h2, h3, h4⟩ := hE.out
          obtain ⟨va, vn, vc, rfl⟩ := h4.form
          obtain ⟨x, y, h5, h6⟩ := h1.split h2 (by simp only [World.size_alloc]; omega)
          simp only [World.size_alloc] at h5
          exact ⟨x, y, a2, c2, va, vn, vc, h5, h6, h3, h4⟩
        clear hE
        obtain ⟨x, y, a2, c2, va, vn, vc, hMx, rfl, hT, hG⟩ := hE2
        replace hT := Lib.hid hT
        replace hG := Lib.hid hG
        simp only [hMx]
        (refine wp_region_calm_z (fun z => ((((((w.alloc (.cells #[.int .i64 (r).Kind, .int .i64 (r).Node, .int .i64 (r).State, .int .i64 (r).Count, .slice a1 (r).Ts.length c1, .int .i64 (r).L.X, .int .i64 (r).L.Y, .int .i64 (r).L.T] 26)).alloc (.cells #[.int .i64 (e).Kind, .int .i64 (e).ID, .int .i64 (e).X, .int .i64 (e).Y, .int .i64 (e).Time, .int .i64 (e).Wheel] 44)).alloc (.cells z 26)).ext x).alloc (.cells #[.int .i64 (q.1).Kind, .int .i64 (q.1).Node, .int .i64 (q.1).State, .int .i64 (q.1).Count, .slice a2 (q.1).Ts.length c2, .int .i64 (q.1).L.X, .int .i64 (q.1).L.Y, .int .i64 (q.1).L.T, .int .i64 (e).Kind, .int .i64 (e).ID, .int .i64 (e).X, .int .i64 (e).Y, .int .i64 (e).Time, .int .i64 (e).Wheel, .int .i64 q.2.1, .slice va vn vc] 82)).ext y)) 12 [0, 1, 2, 3, 4, 5, 6, 7, 8, 9, 10, 11] [] [13] [14] #[.int .i64 (q.1).Kind, .int .i64 (q.1).Node, .int .i64 (q.1).State, .int .i64 (q.1).Count, .slice a2 (q.1).Ts.length c2, .int .i64 (q.1).L.X, .int .i64 (q.1).L.Y, .int .i64 (q.1).L.T] (by kernel_rfl) (by kernel_rfl) (by simp only [List.filterMap_cons, List.filterMap_nil, List.getElem?_toArray, List.getElem?_cons_succ, List.getElem?_cons_zero]; try exact rfl) (by simp only [List.filterMap_cons, List.filterMap_nil, List.getElem?_toArray, List.getElem?_cons_succ, List.getElem?_cons_zero]; try exact rfl) (by simp only [List.filterMap_cons, List.filterMap_nil, List.getElem?_toArray, List.getElem?_cons_succ, List.getElem?_cons_zero]; try exact rfl) (by intro z; simp) ?_; (repeat (first | (refine ql_plain rfl rfl ?_; intro K hK; go_big_quiet_op; go_big_quiet_on) | (refine ql_nilCheck rfl rfl rfl ?_; intro K hK; simp only [Act.put, List.setIfInBounds_toArray, List.set_cons_succ, List.set_cons_zero]; go_big_quiet_on) | fail | (refine ql_skip rfl ?_; intro K hK; simp only [Act.put, List.setIfInBounds_toArray, List.set_cons_succ, List.set_cons_zero]; go_big_quiet_on))); refine ql_nil ?_; refine ⟨?_, ?_⟩; (focus (refine wo1z (Wf := (fun z => ((((((w.alloc (.cells #[.int .i64 (r).Kind, .int .i64 (r).Node, .int .i64 (r).State, .int .i64 (r).Count, .slice a1 (r).Ts.length c1, .int .i64 (r).L.X, .int .i64 (r).L.Y, .int .i64 (r).L.T] 26)).alloc (.cells #[.int .i64 (e).Kind, .int .i64 (e).ID, .int .i64 (e).X, .int .i64 (e).Y, .int .i64 (e).Time, .int .i64 (e).Wheel] 44)).alloc (.cells z 26)).ext x).alloc (.cells #[.int .i64 (q.1).Kind, .int .i64 (q.1).Node, .int .i64 (q.1).State, .int .i64 (q.1).Count, .slice a2 (q.1).Ts.length c2, .int .i64 (q.1).L.X, .int .i64 (q.1).L.Y, .int .i64 (q.1).L.T, .int .i64 (e).Kind, .int .i64 (e).ID, .int .i64 (e).X, .int .i64 (e).Y, .int .i64 (e).Time, .int .i64 (e).Wheel, .int .i64 q.2.1, .slice va vn vc] 82)).ext y))) (z1 := #[.int .i64 (q.1).Kind, .int .i64 (q.1).Node, .int .i64 (q.1).State, .int .i64 (q.1).Count, .slice a2 (q.1).Ts.length c2, .int .i64 (q.1).L.X, .int .i64 (q.1).L.Y, .int .i64 (q.1).L.T]) ?_ (by simp only [List.getElem?_toArray, List.getElem?_cons_succ, List.getElem?_cons_zero]; try exact rfl) ?_ ?_ ?_; intro z; simp; rfl; rfl; intro d; go_simp)))
        refine mw0 ?_
        (repeat (first | (refine pl_plain rfl rfl ?_; intro K hK; go_big_quiet_op; go_big_quiet_on) | (refine pl_nilCheck rfl rfl rfl ?_; intro K hK; simp only [Act.put, List.setIfInBounds_toArray, List.set_cons_succ, List.set_cons_zero]; go_big_quiet_on))); refine pl_nil ?_
        rintro w1 ⟨d4, rfl⟩ -
        go_wp2; refine only_normal ?_
        go_wp2
        (refine bodyPost_ret (v := ?_) (by simp [results, Try.results20, go_sem]; rfl) rfl ?_)
        refine ⟨a2, c2, .slice va vn vc, rfl, ?_, ?_, ?_⟩
        · (repeat (first | exact Ext.refl _ | assumption | refine Ext.alloc ?_ _ | refine Ext.ext ?_ _ | refine Ext.drew ?_))
        · rcases hT.out with h | h
          · exact .inl h
          · exact .inr (((h.like2 (S := fun k => k = ((w.alloc (.cells #[.int .i64 (r).Kind, .int .i64 (r).Node, .int .i64 (r).State, .int .i64 (r).Count, .slice a1 (r).Ts.length c1, .int .i64 (r).L.X, .int .i64 (r).L.Y, .int .i64 (r).L.T] 26)).alloc (.cells #[.int .i64 (e).Kind, .int .i64 (e).ID, .int .i64 (e).X, .int .i64 (e).Y, .int .i64 (e).Time, .int .i64 (e).Wheel] 44)).heap.size) (e' := 26) (by decide) (by decide) (by (repeat (first | exact Like.refl _ _ | refine Like.ext ?_ _ | refine Like.alloc ?_ _ | refine Like.swap ?_ (by simp <;> omega) _ _))) (fun b hb => ⟨_, (0, 0), by subst hb; exact heap_some_ext (heap_alloc_new _ _) (by (repeat (first | exact Ext.refl _ | assumption | refine Ext.alloc ?_ _ | refine Ext.ext ?_ _ | refine Ext.drew ?_)))⟩)).base (Nat.zero_le _)).ext (Ext.ext (Ext.refl _) d4))
        · refine ⟨ownsRow_base (ownsRow_ext (ownsRow_like (S := fun k => k = ((w.alloc (.cells #[.int .i64 (r).Kind, .int .i64 (r).Node, .int .i64 (r).State, .int .i64 (r).Count, .slice a1 (r).Ts.length c1, .int .i64 (r).L.X, .int .i64 (r).L.Y, .int .i64 (r).L.T] 26)).alloc (.cells #[.int .i64 (e).Kind, .int .i64 (e).ID, .int .i64 (e).X, .int .i64 (e).Y, .int .i64 (e).Time, .int .i64 (e).Wheel] 44)).heap.size) hG.out.1 (by (repeat (first | exact Like.refl _ _ | refine Like.ext ?_ _ | refine Like.alloc ?_ _ | refine Like.swap ?_ (by simp <;> omega) _ _))) ?_) (Ext.ext (Ext.refl _) d4)) (by simp <;> omega), hG.out.2⟩
          intro b hb hs
          exact own_ne' hG.out.1 (heap_some_ext (heap_alloc_new _ _) (by (repeat (first | exact Ext.refl _ | assumption | refine Ext.alloc ?_ _ | refine Ext.ext ?_ _ | refine Ext.drew ?_)))) (by decide) b hb hs
    | some q =>
      have hw2 : feed r e = q := by rw [hw, hl]; rfl
      rw [hw2]
      have hlm := Lib.hid fun w0 w M h => late_m w0 w M r e hr2.out bv2.out h
      rw [hl] at hlm
      clear hw2 hw hl
      rcases b with ⟨b4, b2⟩ | ⟨b4, b2, bc⟩
      all_goals
        go_enter Try.func20, Try.ntmps20
        go_wp2_with fail
        refine (hcl.out _ (hrep.ext (by (repeat (first | exact Ext.refl _ | assumption | refine Ext.alloc ?_ _ | refine Ext.ext ?_ _ | refine Ext.drew ?_))))).mono ?_
        rintro x w1 ⟨a1, c1, rfl, ⟨d1, rfl⟩, hown⟩
        replace hown := Lib.hid hown
        go_wp2_with (first | (go_at_call 33; refine (valid_any _ _ _ _ _ _ _).mono ?_; rintro e w' ⟨rfl, dv, rfl⟩) | (go_at_call 34; refine (cont_any _ _).mono ?_; rintro e w' ⟨rfl, rfl⟩))
        refine gen_at (p := fun W => Calls _ _ _ W _) ?_
        intro W hW
        have hms : Hid (MachS (((w.alloc (.cells #[.int .i64 (r).Kind, .int .i64 (r).Node, .int .i64 (r).State, .int .i64 (r).Count, .slice a1 (r).Ts.length c1, .int .i64 (r).L.X, .int .i64 (r).L.Y, .int .i64 (r).L.T] 26)).alloc (.cells #[.int .i64 (e).Kind, .int .i64 (e).ID, .int .i64 (e).X, .int .i64 (e).Y, .int .i64 (e).Time, .int .i64 (e).Wheel] 44)).alloc (.cells #[.int .i64 0, .int .i64 0, .int .i64 0, .int .i64 0, .slice none 0 0, .int .i64 0, .int .i64 0, .int .i64 0] 26)) W (w.heap.size + 1 + 1 + 1 + d1.size + dv.size) r e) := by
          have h1 : Ext (((w.alloc (.cells #[.int .i64 (r).Kind, .int .i64 (r).Node, .int .i64 (r).State, .int .i64 (r).Count, .slice a1 (r).Ts.length c1, .int .i64 (r).L.X, .int .i64 (r).L.Y, .int .i64 (r).L.T] 26)).alloc (.cells #[.int .i64 (e).Kind, .int .i64 (e).ID, .int .i64 (e).X, .int .i64 (e).Y, .int .i64 (e).Time, .int .i64 (e).Wheel] 44)).alloc (.cells #[.int .i64 0, .int .i64 0, .int .i64 0, .int .i64 0, .slice none 0 0, .int .i64 0, .int .i64 0, .int .i64 0] 26)) W := by
            rw [hW]
            (repeat (first | exact Ext.refl _ | assumption | refine Ext.alloc ?_ _ | refine Ext.ext ?_ _ | refine Ext.drew ?_))
          have h2 : W.heap[(w.heap.size + 1 + 1 + 1 + d1.size + dv.size)]? = some (.cells #[.int .i64 (r).Kind, .int .i64 (r).Node, .int .i64 (r).State, .int .i64 (r).Count, .slice a1 (r).Ts.length c1, .int .i64 (r).L.X, .int .i64 (r).L.Y, .int .i64 (r).L.T, .int .i64 (e).Kind, .int .i64 (e).ID, .int .i64 (e).X, .int .i64 (e).Y, .int .i64 (e).Time, .int .i64 (e).Wheel, .int .i64 0, .slice none 0 0] 82) := by
            rw [hW]
            refine heap_at' _ dv _ ?_ (Ext.refl _)
            simp only [World.size_ext, World.size_alloc]
          have h3 : OwnT W (((w.alloc (.cells #[.int .i64 (r).Kind, .int .i64 (r).Node, .int .i64 (r).State, .int .i64 (r).Count, .slice a1 (r).Ts.length c1, .int .i64 (r).L.X, .int .i64 (r).L.Y, .int .i64 (r).L.T] 26)).alloc (.cells #[.int .i64 (e).Kind, .int .i64 (e).ID, .int .i64 (e).X, .int .i64 (e).Y, .int .i64 (e).Time, .int .i64 (e).Wheel] 44)).alloc (.cells #[.int .i64 0, .int .i64 0, .int .i64 0, .int .i64 0, .slice none 0 0, .int .i64 0, .int .i64 0, .int .i64 0] 26)).heap.size (.slice a1 r.Ts.length c1) r.Ts := by
            have h4 := OwnT.base (B' := (((w.alloc (.cells #[.int .i64 (r).Kind, .int .i64 (r).Node, .int .i64 (r).State, .int .i64 (r).Count, .slice a1 (r).Ts.length c1, .int .i64 (r).L.X, .int .i64 (r).L.Y, .int .i64 (r).L.T] 26)).alloc (.cells #[.int .i64 (e).Kind, .int .i64 (e).ID, .int .i64 (e).X, .int .i64 (e).Y, .int .i64 (e).Time, .int .i64 (e).Wheel] 44)).alloc (.cells #[.int .i64 0, .int .i64 0, .int .i64 0, .int .i64 0, .slice none 0 0, .int .i64 0, .int .i64 0, .int .i64 0] 26)).heap.size) ((hown.out.like (S := fun k => k < w.heap.size + 3) (Y := ((((w.alloc (.cells #[.int .i64 (r).Kind, .int .i64 (r).Node, .int .i64 (r).State, .int .i64 (r).Count, .slice a1 (r).Ts.length c1, .int .i64 (r).L.X, .int .i64 (r).L.Y, .int .i64 (r).L.T] 26)).alloc (.cells #[.int .i64 (e).Kind, .int .i64 (e).ID, .int .i64 (e).X, .int .i64 (e).Y, .int .i64 (e).Time, .int .i64 (e).Wheel] 44)).alloc (.cells #[.int .i64 0, .int .i64 0, .int .i64 0, .int .i64 0, .slice none 0 0, .int .i64 0, .int .i64 0, .int .i64 0] 26)).ext d1)) (by (repeat (first | exact Like.refl _ _ | refine Like.ext ?_ _ | refine Like.alloc ?_ _ | refine Like.swap ?_ (by simp <;> omega) _ _))) (by simp))) (by simp)
            refine h4.ext ?_
            rw [hW]
            (repeat (first | exact Ext.refl _ | assumption | refine Ext.alloc ?_ _ | refine Ext.ext ?_ _ | refine Ext.drew ?_))
          refine machS_of h1 (by simp only [World.size_alloc]; omega) h2 h3 (fun k hk => ?_)
          have := (OwnT.lt hown.out k hk).2
          simp only [World.size_ext, World.size_alloc] at this
          omega
        clear hown hW
        refine (hlm.out (((w.alloc (.cells #[.int .i64 (r).Kind, .int .i64 (r).Node, .int .i64 (r).State, .int .i64 (r).Count, .slice a1 (r).Ts.length c1, .int .i64 (r).L.X, .int .i64 (r).L.Y, .int .i64 (r).L.T] 26)).alloc (.cells #[.int .i64 (e).Kind, .int .i64 (e).ID, .int .i64 (e).X, .int .i64 (e).Y, .int .i64 (e).Time, .int .i64 (e).Wheel] 44)).alloc (.cells #[.int .i64 0, .int .i64 0, .int .i64 0, .int .i64 0, .slice none 0 0, .int .i64 0, .int .i64 0, .int .i64 0] 26)) W (w.heap.size + 1 + 1 + 1 + d1.size + dv.size) (hms.out.weak hr2.out)).mono ?_
        rintro x w2 ⟨rfl, hE⟩
        replace hE := Lib.hid (Mach.fin hE)
        clear hms
        go_wp2_with fail
        have hE2 : ∃ (x y : Grow) (a2 : Option Addr) (c2 : Nat) (va : Option Addr) (vn vc : Nat), w.heap.size + 1 + 1 + 1 + d1.size + dv.size = w.heap.size + 1 + 1 + 1 + x.size ∧ w2 = (((((w.alloc (.cells #[.int .i64 (r).Kind, .int .i64 (r).Node, .int .i64 (r).State, .int .i64 (r).Count, .slice a1 (r).Ts.length c1, .int .i64 (r).L.X, .int .i64 (r).L.Y, .int .i64 (r).L.T] 26)).alloc (.cells #[.int .i64 (e).Kind, .int .i64 (e).ID, .int .i64 (e).X, .int .i64 (e).Y, .int .i64 (e).Time, .int .i64 (e).Wheel] 44)).alloc (.cells #[.int .i64 0, .int .i64 0, .int .i64 0, .int .i64 0, .slice none 0 0, .int .i64 0, .int .i64 0, .int .i64 0] 26)).ext x).alloc (.cells #[.int .i64 (q.1).Kind, .int .i64 (q.1).Node, .int .i64 (q.1).State, .int .i64 (q.1).Count, .slice a2 (q.1).Ts.length c2, .int .i64 (q.1).L.X, .int .i64 (q.1).L.Y, .int .i64 (q.1).L.T, .int .i64 (e).Kind, .int .i64 (e).ID, .int .i64 (e).X, .int .i64 (e).Y, .int .i64 (e).Time, .int .i64 (e).Wheel, .int .i64 q.2.1, .slice va vn vc] 82)).ext y ∧ (q.1.Ts = [] ∨ OwnR w2 (((w.alloc (.cells #[.int .i64 (r).Kind, .int .i64 (r).Node, .int .i64 (r).State, .int .i64 (r).Count, .slice a1 (r).Ts.length c1, .int .i64 (r).L.X, .int .i64 (r).L.Y, .int .i64 (r).L.T] 26)).alloc (.cells #[.int .i64 (e).Kind, .int .i64 (e).ID, .int .i64 (e).X, .int .i64 (e).Y, .int .i64 (e).Time, .int .i64 (e).Wheel] 44)).alloc (.cells #[.int .i64 0, .int .i64 0, .int .i64 0, .int .i64 0, .slice none 0 0, .int .i64 0, .int .i64 0, .int .i64 0] 26)).heap.size (.slice a2 q.1.Ts.length c2) q.1.Ts) ∧ OwnG w2 (((w.alloc (.cells #[.int .i64 (r).Kind, .int .i64 (r).Node, .int .i64 (r).State, .int .i64 (r).Count, .slice a1 (r).Ts.length c1, .int .i64 (r).L.X, .int .i64 (r).L.Y, .int .i64 (r).L.T] 26)).alloc (.cells #[.int .i64 (e).Kind, .int .i64 (e).ID, .int .i64 (e).X, .int .i64 (e).Y, .int .i64 (e).Time, .int .i64 (e).Wheel] 44)).alloc (.cells #[.int .i64 0, .int .i64 0, .int .i64 0, .int .i64 0, .slice none 0 0, .int .i64 0, .int .i64 0, .int .i64 0] 26)).heap.size (.slice va vn vc) q.2.2 := by
          obtain ⟨a2, c2, o2, h1, h2, h3, h4⟩ := hE.out
          obtain ⟨va, vn, vc, rfl⟩ := h4.form
          obtain ⟨x, y, h5, h6⟩ := h1.split h2 (by simp only [World.size_alloc]; omega)
          simp only [World.size_alloc] at h5
          exact ⟨x, y, a2, c2, va, vn, vc, h5, h6, h3, h4⟩
        clear hE
        obtain ⟨x, y, a2, c2, va, vn, vc, hMx, rfl, hT, hG⟩ := hE2
        replace hT := Lib.hid hT
        replace hG := Lib.hid hG
        simp only [hMx]
        (refine wp_region_calm_z (fun z => ((((((w.alloc (.cells #[.int .i64 (r).Kind, .int .i64 (r).Node, .int .i64 (r).State, .int .i64 (r).Count, .slice a1 (r).Ts.length c1, .int .i64 (r).L.X, .int .i64 (r).L.Y, .int .i64 (r).L.T] 26)).alloc (.cells #[.int .i64 (e).Kind, .int .i64 (e).ID, .int .i64 (e).X, .int .i64 (e).Y, .int .i64 (e).Time, .int .i64 (e).Wheel] 44)).alloc (.cells z 26)).ext x).alloc (.cells #[.int .i64 (q.1).Kind, .int .i64 (q.1).Node, .int .i64 (q.1).State, .int .i64 (q.1).Count, .slice a2 (q.1).Ts.length c2, .int .i64 (q.1).L.X, .int .i64 (q.1).L.Y, .int .i64 (q.1).L.T, .int .i64 (e).Kind, .int .i64 (e).ID, .int .i64 (e).X, .int .i64 (e).Y, .int .i64 (e).Time, .int .i64 (e).Wheel, .int .i64 q.2.1, .slice va vn vc] 82)).ext y)) 12 [0, 1, 2, 3, 4, 5, 6, 7, 8, 9, 10, 11] [] [13] [14] #[.int .i64 (q.1).Kind, .int .i64 (q.1).Node, .int .i64 (q.1).State, .int .i64 (q.1).Count, .slice a2 (q.1).Ts.length c2, .int .i64 (q.1).L.X, .int .i64 (q.1).L.Y, .int .i64 (q.1).L.T] (by kernel_rfl) (by kernel_rfl) (by simp only [List.filterMap_cons, List.filterMap_nil, List.getElem?_toArray, List.getElem?_cons_succ, List.getElem?_cons_zero]; try exact rfl) (by simp only [List.filterMap_cons, List.filterMap_nil, List.getElem?_toArray, List.getElem?_cons_succ, List.getElem?_cons_zero]; try exact rfl) (by simp only [List.filterMap_cons, List.filterMap_nil, List.getElem?_toArray, List.getElem?_cons_succ, List.getElem?_cons_zero]; try exact rfl) (by intro z; simp) ?_; (repeat (first | (refine ql_plain rfl rfl ?_; intro K hK; go_big_quiet_op; go_big_quiet_on) | (refine ql_nilCheck rfl rfl rfl ?_; intro K hK; simp only [Act.put, List.setIfInBounds_toArray, List.set_cons_succ, List.set_cons_zero]; go_big_quiet_on) | fail | (refine ql_skip rfl ?_; intro K hK; simp only [Act.put, List.setIfInBounds_toArray, List.set_cons_succ, List.set_cons_zero]; go_big_quiet_on))); refine ql_nil ?_; refine ⟨?_, ?_⟩; (focus (refine wo1z (Wf := (fun z => ((((((w.alloc (.cells #[.int .i64 (r).Kind, .int .i64 (r).Node, .int .i64 (r).State, .int .i64 (r).Count, .slice a1 (r).Ts.length c1, .int .i64 (r).L.X, .int .i64 (r).L.Y, .int .i64 (r).L.T] 26)).alloc (.cells #[.int .i64 (e).Kind, .int .i64 (e).ID, .int .i64 (e).X, .int .i64 (e).Y, .int .i64 (e).Time, .int .i64 (e).Wheel] 44)).alloc (.cells z 26)).ext x).alloc (.cells #[.int .i64 (q.1).Kind, .int .i64 (q.1).Node, .int .i64 (q.1).State, .int .i64 (q.1).Count, .slice a2 (q.1).Ts.length c2, .int .i64 (q.1).L.X, .int .i64 (q.1).L.Y, .int .i64 (q.1).L.T, .int .i64 (e).Kind, .int .i64 (e).ID, .int .i64 (e).X, .int .i64 (e).Y, .int .i64 (e).Time, .int .i64 (e).Wheel, .int .i64 q.2.1, .slice va vn vc] 82)).ext y))) (z1 := #[.int .i64 (q.1).Kind, .int .i64 (q.1).Node, .int .i64 (q.1).State, .int .i64 (q.1).Count, .slice a2 (q.1).Ts.length c2, .int .i64 (q.1).L.X, .int .i64 (q.1).L.Y, .int .i64 (q.1).L.T]) ?_ (by simp only [List.getElem?_toArray, List.getElem?_cons_succ, List.getElem?_cons_zero]; try exact rfl) ?_ ?_ ?_; intro z; simp; rfl; rfl; intro d; go_simp)))
        refine mw0 ?_
        (repeat (first | (refine pl_plain rfl rfl ?_; intro K hK; go_big_quiet_op; go_big_quiet_on) | (refine pl_nilCheck rfl rfl rfl ?_; intro K hK; simp only [Act.put, List.setIfInBounds_toArray, List.set_cons_succ, List.set_cons_zero]; go_big_quiet_on))); refine pl_nil ?_
        rintro w1 ⟨d4, rfl⟩ -
        go_wp2; refine only_normal ?_
        go_wp2
        (refine bodyPost_ret (v := ?_) (by simp [results, Try.results20, go_sem]; rfl) rfl ?_)
        refine ⟨a2, c2, .slice va vn vc, rfl, ?_, ?_, ?_⟩
        · (repeat (first | exact Ext.refl _ | assumption | refine Ext.alloc ?_ _ | refine Ext.ext ?_ _ | refine Ext.drew ?_))
        · rcases hT.out with h | h
          · exact .inl h
          · exact .inr (((h.like2 (S := fun k => k = ((w.alloc (.cells #[.int .i64 (r).Kind, .int .i64 (r).Node, .int .i64 (r).State, .int .i64 (r).Count, .slice a1 (r).Ts.length c1, .int .i64 (r).L.X, .int .i64 (r).L.Y, .int .i64 (r).L.T] 26)).alloc (.cells #[.int .i64 (e).Kind, .int .i64 (e).ID, .int .i64 (e).X, .int .i64 (e).Y, .int .i64 (e).Time, .int .i64 (e).Wheel] 44)).heap.size) (e' := 26) (by decide) (by decide) (by (repeat (first | exact Like.refl _ _ | refine Like.ext ?_ _ | refine Like.alloc ?_ _ | refine Like.swap ?_ (by simp <;> omega) _ _))) (fun b hb => ⟨_, (0, 0), by subst hb; exact heap_some_ext (heap_alloc_new _ _) (by (repeat (first | exact Ext.refl _ | assumption | refine Ext.alloc ?_ _ | refine Ext.ext ?_ _ | refine Ext.drew ?_)))⟩)).base (Nat.zero_le _)).ext (Ext.ext (Ext.refl _) d4))
        · refine ⟨ownsRow_base (ownsRow_ext (ownsRow_like (S := fun k => k = ((w.alloc (.cells #[.int .i64 (r).Kind, .int .i64 (r).Node, .int .i64 (r).State, .int .i64 (r).Count, .slice a1 (r).Ts.length c1, .int .i64 (r).L.X, .int .i64 (r).L.Y, .int .i64 (r).L.T] 26)).alloc (.cells #[.int .i64 (e).Kind, .int .i64 (e).ID, .int .i64 (e).X, .int .i64 (e).Y, .int .i64 (e).Time, .int .i64 (e).Wheel] 44)).heap.size) hG.out.1 (by (repeat (first | exact Like.refl _ _ | refine Like.ext ?_ _ | refine Like.alloc ?_ _ | refine Like.swap ?_ (by simp <;> omega) _ _))) ?_) (Ext.ext (Ext.refl _) d4)) (by simp <;> omega), hG.out.2⟩
          intro b hb hs
          exact own_ne' hG.out.1 (heap_some_ext (heap_alloc_new _ _) (by (repeat (first | exact Ext.refl _ | assumption | refine Ext.alloc ?_ _ | refine Ext.ext ?_ _ | refine Ext.drew ?_)))) (by decide) b hb hs
end Go.Proofs.Ytendgmnbnnkpnaa.G
namespace Go.Proofs.Ytendgmnbnnkpnaa.G
open Go.RowKit
def rcv (k n s c : Int) (a : Option Addr) (m cap : Nat) (lx ly lt : Int) : Value := .agg #[.int .i64 k, .int .i64 n, .int .i64 s, .int .i64 c, .slice a m cap, .int .i64 lx, .int .i64 ly, .int .i64 lt]
/-- what Feed hands back -/
def FeedF (q : Rec × Int × List Ges) (u : Value) : Facts := fun w => ∃ a c va vn vc, u = .tuple #[.agg #[.int .i64 (q.1).Kind, .int .i64 (q.1).Node, .int .i64 (q.1).State, .int .i64 (q.1).Count, .slice a (q.1).Ts.length c, .int .i64 (q.1).L.X, .int .i64 (q.1).L.Y, .int .i64 (q.1).L.T], .int .i64 q.2.1, .slice va vn vc] ∧ TsO w a c q.1.Ts ∧ OwnG w 0 (.slice va vn vc) q.2.2
def FeedS (q : Rec × Int × List Ges) : Shp := .of (fun u => ∃ a c va vn vc, u = .tuple #[.agg #[.int .i64 (q.1).Kind, .int .i64 (q.1).Node, .int .i64 (q.1).State, .int .i64 (q.1).Count, .slice a (q.1).Ts.length c, .int .i64 (q.1).L.X, .int .i64 (q.1).L.Y, .int .i64 (q.1).L.T], .int .i64 q.2.1, .slice va vn vc]) (.tuple #[.agg #[.int .i64 (q.1).Kind, .int .i64 (q.1).Node, .int .i64 (q.1).State, .int .i64 (q.1).Count, .slice none (q.1).Ts.length 0, .int .i64 (q.1).L.X, .int .i64 (q.1).L.Y, .int .i64 (q.1).L.T], .int .i64 q.2.1, .slice none 0 0]) ⟨none, 0, none, 0, 0, rfl⟩ rfl
theorem FeedF.stable (q : Rec × Int × List Ges) : Stable (FeedF q) := fun _ _ _ ⟨a, c, va, vn, vc, h1, h2, h3⟩ he => ⟨a, c, va, vn, vc, h1, h2.ext he, h3.ext he⟩
theorem FeedF.shp (q : Rec × Int × List Ges) : ∀ u w, FeedF q u w → (FeedS q).ok u := fun _ _ ⟨a, c, va, vn, vc, h, _⟩ => ⟨a, c, va, vn, vc, h⟩
theorem FeedF.use {q : Rec × Int × List Ges} {a va : Option Addr} {c vn vc : Nat} {w : World} (h : FeedF q (.tuple #[.agg #[.int .i64 (q.1).Kind, .int .i64 (q.1).Node, .int .i64 (q.1).State, .int .i64 (q.1).Count, .slice a (q.1).Ts.length c, .int .i64 (q.1).L.X, .int .i64 (q.1).L.Y, .int .i64 (q.1).L.T], .int .i64 q.2.1, .slice va vn vc]) w) : TsO w a c q.1.Ts ∧ OwnG w 0 (.slice va vn vc) q.2.2 := by
  obtain ⟨a', c', va', vn', vc', h1, h2, h3⟩ := h
  simp only [Value.tuple.injEq, Array.mk.injEq, List.cons.injEq, Value.agg.injEq, Value.slice.injEq, true_and, and_true] at h1
  obtain ⟨⟨rfl, rfl⟩, rfl, rfl, rfl⟩ := h1
  exact ⟨h2, h3⟩
theorem feed_mk (r : Rec) (e : Ev) (hr : ROk r) (a : Option Addr) (cap : Nat) (w : World) (hrep : RepT w a r.Ts) :
    Calls Try.prog 20 #[.agg #[.int .i64 (r).Kind, .int .i64 (r).Node, .int .i64 (r).State, .int .i64 (r).Count, .slice a (r).Ts.length cap, .int .i64 (r).L.X, .int .i64 (r).L.Y, .int .i64 (r).L.T], .agg #[.int .i64 (e).Kind, .int .i64 (e).ID, .int .i64 (e).X, .int .i64 (e).Y, .int .i64 (e).Time, .int .i64 (e).Wheel]] w fun x w' => ∃ u, x = .returned u ∧ Ext w w' ∧ FeedF (feed r e) u w' ∧ ∀ b, u.blk = some b → w.heap.size ≤ b ∧ b < w'.heap.size := by
  refine (feed_r r e hr a cap w hrep).mono ?_
  rintro x w' ⟨a', c', v, rfl, he, h1, h2⟩
  obtain ⟨va, vn, vc, rfl⟩ := h2.form
  exact ⟨_, rfl, he, ⟨a', c', va, vn, vc, rfl, h1, ownsRow_base h2.1 (Nat.zero_le _), h2.2⟩, fun b hb => by cases hb⟩
end Go.Proofs.Ytendgmnbnnkpnaa.G
