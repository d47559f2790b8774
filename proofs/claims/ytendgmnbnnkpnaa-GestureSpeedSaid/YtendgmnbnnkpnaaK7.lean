/- cancel, process. -/
import Derived.Test.YtendgmnbnnkpnaaK6
import Derived.WalkKit
import Derived.WalkSpells
import Derived.WalkLawsBesides
import Derived.Deep.QuietTactic
import Derived.BigQuiet
import Derived.BigRegion
import Derived.Lib.Hide
import Derived.Deep.RegionWith
set_option linter.unusedSimpArgs false
set_option linter.unusedVariables false
namespace Go.Proofs.Ytendgmnbnnkpnaa.G
open Go.RowKit
/-- the machine at the end of a call -/
def MachE (w0 w : World) (M : Nat) (r : Rec) (e : Ev) (ask : Int) (gs : List Ges) : Prop :=
  ∃ a c o, Ext w0 w ∧ w.heap[M]? = some (.cells #[.int .i64 (r).Kind, .int .i64 (r).Node, .int .i64 (r).State, .int .i64 (r).Count, .slice a (r).Ts.length c, .int .i64 (r).L.X, .int .i64 (r).L.Y, .int .i64 (r).L.T, .int .i64 (e).Kind, .int .i64 (e).ID, .int .i64 (e).X, .int .i64 (e).Y, .int .i64 (e).Time, .int .i64 (e).Wheel, .int .i64 ask, o] 82) ∧ (r.Ts = [] ∨ OwnR w w0.heap.size (.slice a r.Ts.length c) r.Ts) ∧ OwnG w w0.heap.size o gs
theorem Mach.fin {w0 w : World} {M : Nat} {r : Rec} {e : Ev} {ask : Int} {gs : List Ges} (h : Mach w0 w M r e ask gs) : MachE w0 w M r e ask gs := by
  obtain ⟨d1, a, c, o, rfl, he, ht, hg⟩ := h
  exact ⟨a, c, o, Ext.trans (by (repeat (first | exact Ext.refl _ | assumption | refine Ext.alloc ?_ _ | refine Ext.ext ?_ _ | refine Ext.drew ?_))) he, heap_at w0 d1 _ he, .inr ht, hg⟩
theorem MachE.ext {w0 w w' : World} {M : Nat} {r : Rec} {e : Ev} {ask : Int} {gs : List Ges} (h : MachE w0 w M r e ask gs) (he : Ext w w') : MachE w0 w' M r e ask gs := by
  obtain ⟨a, c, o, h1, h2, h3, h4⟩ := h
  exact ⟨a, c, o, h1.trans he, heap_some_ext h2 he, h3.imp id (·.ext he), h4.ext he⟩
theorem OwnG.form {w : World} {B : Nat} {v : Value} {gs : List Ges} (h : OwnG w B v gs) : ∃ a n c, v = .slice a n c := by
  rcases h.1.2 with ⟨rfl, _⟩ | ⟨g, cap, cur, rfl, _⟩ <;> exact ⟨_, _, _, rfl⟩
def cancelR (r : Rec) : Rec × Int × List Ges := if r.State = 3 then ((abort r).1, 0, (abort r).2) else fail r
set_option maxHeartbeats 2000000 in
theorem cancel_m (w0 w : World) (M : Nat) (r : Rec) (e : Ev) (hr : ROk r) (h : Mach w0 w M r e 0 []) :
    Calls Try.prog 59 #[.pointer (some ⟨M, 0, none⟩)] w fun x w' => x = .returned (.tuple #[]) ∧ MachE w0 w' M (cancelR r).1 e (cancelR r).2.1 (cancelR r).2.2 := by
  have hmm := Lib.hid h
  obtain ⟨D1, a, c, o, rfl, ⟨D2, rfl⟩, ht, hg⟩ := h
  obtain rfl := hg.2 rfl
  by_cases h3 : r.State = 3
  · have hw : cancelR r = ((abort r).1, 0, (abort r).2) := by simp only [cancelR, if_pos h3]
    rw [hw]
    have hnil : (abort r).1.Ts = [] := by unfold abort; split <;> rfl
    have hrz : ∀ (w' : World), Ext (((w0.ext D1).alloc (.cells #[.int .i64 (r).Kind, .int .i64 (r).Node, .int .i64 (r).State, .int .i64 (r).Count, .slice a (r).Ts.length c, .int .i64 (r).L.X, .int .i64 (r).L.Y, .int .i64 (r).L.T, .int .i64 (e).Kind, .int .i64 (e).ID, .int .i64 (e).X, .int .i64 (e).Y, .int .i64 (e).Time, .int .i64 (e).Wheel, .int .i64 0, .slice none 0 0] 82)).ext D2) w' → RepT w' a r.Ts := fun w' he => (ht.rep).ext he
    have hab := fun w h => abort_r r hr a c w h
    simp only [recC] at hab
    obtain ⟨q, hq⟩ : ∃ q, q = abort r := ⟨_, rfl⟩
    rw [← hq] at hab hnil ⊢
    replace hab := Lib.hid hab
    replace hrz := Lib.hid hrz
    have b3 : (r.State == 3) = true := by simp [h3]
    clear hw ht hg h3 hq hmm hr
    go_enter Try.func59, Try.ntmps59
    go_wp2_with fail
    refine (hab.out _ (hrz.out _ (by (repeat (first | exact Ext.refl _ | assumption | refine Ext.alloc ?_ _ | refine Ext.ext ?_ _ | refine Ext.drew ?_))))).mono ?_
    rintro x w1 ⟨a', c', v, rfl, ⟨da, rfl⟩, hrt, hog⟩
    replace hog := Lib.hid hog
    replace hnil := Lib.hid hnil
    clear hrt
    obtain ⟨va, vn, vc, rfl⟩ := hog.out.form
    go_wp2
    (first | (refine bodyPost_end (results_none rfl _ _ _) rfl ?_) | (refine bodyPost_ret (results_none rfl _ _ _) rfl ?_))
    refine ⟨rfl, a', c', .slice va vn vc, ?_, ?_, .inl hnil.out, ?_⟩
    · (repeat (first | exact Ext.refl _ | assumption | refine Ext.alloc ?_ _ | refine Ext.ext ?_ _ | refine Ext.drew ?_))
    · exact heap_at w0 D1 _ (by (repeat (first | exact Ext.refl _ | assumption | refine Ext.alloc ?_ _ | refine Ext.ext ?_ _ | refine Ext.drew ?_)))
    · refine ⟨ownsRow_base (ownsRow_like (S := fun k => k = w0.heap.size + D1.size) (ownsRow_ext hog.out.1 (Ext.refl _)) (by (repeat (first | exact Like.refl _ _ | refine Like.ext ?_ _ | refine Like.alloc ?_ _ | refine Like.swap ?_ (by simp <;> omega) _ _))) ?_) (by simp <;> omega), hog.out.2⟩
      intro b hb hs
      have := (hog.out.1.lt b hb).1
      simp at this
      omega
  · have hw : cancelR r = fail r := by simp only [cancelR, if_neg h3]
    rw [hw]
    have b3 : (r.State == 3) = false := by simp [h3]
    clear hw ht hg h3 hr
    go_enter Try.func59, Try.ntmps59
    go_wp2_with fail
    refine (fail_m w0 _ _ r e [] (hmm.out.ext (by (repeat (first | exact Ext.refl _ | assumption | refine Ext.alloc ?_ _ | refine Ext.ext ?_ _ | refine Ext.drew ?_))))).mono ?_
    rintro x w1 ⟨rfl, hm2⟩
    replace hm2 := Lib.hid hm2.fin
    go_wp2
    (first | (refine bodyPost_end (results_none rfl _ _ _) rfl ?_) | (refine bodyPost_ret (results_none rfl _ _ _) rfl ?_))
    exact ⟨rfl, hm2.out⟩
theorem find_some {ts : List Tch} {id : Int} {i : Nat} (h : find ts id = some i) : ∃ t, ts[i]? = some t ∧ t.ID = id := by
  obtain ⟨hi, h1, _⟩ := List.findIdx?_eq_some_iff_getElem.1 h
  exact ⟨ts[i], List.getElem?_eq_getElem hi, by simpa using h1⟩
theorem follow_len (ts : List Tch) (i : Nat) (s : Smp) : (follow ts i s).length = ts.length := by
  unfold follow
  split
  · rfl
  · simp
theorem more_ok {l : List Smp} {s : Smp} (h : ∀ s, s ∈ l → placed s = true) (hs : placed s = true) : more l s ≠ [] ∧ (more l s).length ≤ 8 ∧ ∀ x, x ∈ more l s → placed x = true := by
  refine ⟨?_, ?_, ?_⟩
  · rw [← List.length_pos_iff]; simp [more]; omega
  · simp [more]; omega
  · intro x hx
    have := List.mem_of_mem_drop hx
    rcases List.mem_append.1 this with h1 | h1
    · exact h x h1
    · obtain rfl : x = s := by simpa using h1
      exact hs
theorem follow_ok {r : Rec} {i : Nat} {s : Smp} (h : ROk r) (hs : placed s = true) : ROk { r with Ts := follow r.Ts i s } := by
  refine ⟨h.kind, h.node, h.state, h.count, h.last, ?_, ?_, ?_, ?_⟩
  · simp only [follow_len]; exact h.len
  · intro t ht
    simp only [follow] at ht
    split at ht
    · exact h.ts t ht
    · rename_i t' ht'
      have hmem : t' ∈ r.Ts := List.mem_of_getElem? ht'
      rcases List.mem_or_eq_of_mem_set ht with h1 | rfl
      · exact h.ts t h1
      · have h2 := h.ts t' hmem
        have h3 := more_ok h2.s hs
        exact ⟨h2.f, h2.id, h3.1, h3.2.1, h3.2.2⟩
  · intro h4
    have := h.over h4
    simp only [follow, this]; rfl
  · intro hc hst
    simp only [follow_len]
    exact h.sure hc hst
end Go.Proofs.Ytendgmnbnnkpnaa.G
