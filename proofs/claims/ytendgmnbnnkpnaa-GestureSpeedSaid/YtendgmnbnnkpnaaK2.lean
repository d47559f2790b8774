/- lift. -/
import Derived.Test.YtendgmnbnnkpnaaK1
import Derived.WalkKit
import Derived.WalkSpells
import Derived.WalkLawsBesides
import Derived.Deep.QuietTactic
import Derived.BigQuiet
import Derived.BigRegion
import Derived.Lib.Hide
import Derived.Deep.RegionWith
set_option linter.unusedSimpArgs false
set_option linter.unusedVariables false
namespace Go.Proofs.Ytendgmnbnnkpnaa.G
open Go.RowKit
theorem ownsRow_keep {w w' : World} {B bt : Nat} {e : TypeId} {size : Nat} {v : Value} {n : Nat} {xs : List Value} (h : w.ownsRow B e size v n xs) (hk : ∀ b O, w.heap[b]? = some O → b ≠ bt → w'.heap[b]? = some O) (hne : ∀ k, v.ownBlock = some k → k ≠ bt) : w'.ownsRow B e size v n xs := by
  refine ⟨h.1, ?_⟩
  rcases h.2 with h2 | ⟨g, cap, cur, rfl, hb, hg, r⟩
  · exact .inl h2
  · exact .inr ⟨g, cap, cur, rfl, hb, hk _ _ hg (hne g rfl), r⟩
theorem delete_own (w0 w : World) (bt c : Nat) (xs : List Value) (hE : Ext w0 w) (h : w.ownsRow w0.heap.size 64 5 (.slice (some ⟨bt, 0, none⟩) 1 c) 1 xs) :
    Calls Try.prog 92 #[.slice (some ⟨bt, 0, none⟩) 1 c, .int .i64 0, .int .i64 1] w fun v w' =>
      v = .returned (.slice (some ⟨bt, 0, none⟩) 0 c) ∧ Ext w0 w' ∧ w'.ownsRow w0.heap.size 64 5 (.slice (some ⟨bt, 0, none⟩) 0 c) 0 [] ∧ ∀ b O, w.heap[b]? = some O → b ≠ bt → w'.heap[b]? = some O := by
  obtain ⟨cur, hg, hb⟩ := row_heap h
  obtain ⟨h1, h2, h3, h4⟩ := row_cur h hg
  obtain ⟨x, y, rfl, rfl⟩ := hE.split hg hb
  refine (delete1 w0 x y cur c h2 h3 h1).mono ?_
  rintro v w' ⟨rfl, cur', hs, he⟩
  refine ⟨rfl, Ext.trans (by (repeat (first | exact Ext.refl _ | assumption | refine Ext.alloc ?_ _ | refine Ext.ext ?_ _ | refine Ext.drew ?_))) he, ?_, ?_⟩
  · exact own_join (W := w0) (d := x) (cur := cur') (Ext.trans (by (repeat (first | exact Ext.refl _ | assumption | refine Ext.alloc ?_ _ | refine Ext.ext ?_ _ | refine Ext.drew ?_))) he) rfl (by omega) (by rw [hs]; exact h1) (by omega) h3 (by simp)
  · intro b O hO hne
    exact heap_some_ext ((Like.heap (S := fun k => k = w0.heap.size + x.size) (by (repeat (first | exact Like.refl _ _ | refine Like.ext ?_ _ | refine Like.alloc ?_ _ | refine Like.swap ?_ (by simp <;> omega) _ _))) b hne).trans hO) he
set_option maxHeartbeats 1000000 in
theorem lift1 (w0 w : World) (M : Nat) (r : Rec) (e : Ev) (ask : Int) (gs : List Ges) (t : Tch) (hr : ROk r) (hs : r.Ts = [t]) (hid : t.ID = e.ID) (h5 : e.Kind ≠ 5) (h : Mach w0 w M r e ask gs) :
    Calls Try.prog 85 #[.pointer (some ⟨M, 0, none⟩)] w fun x w' => x = .returned (.tuple #[]) ∧ Mach w0 w' M { r with Ts := [] } e ask gs := by
  have hidx : idx r e = 0 := by simp [idx, h5, hs, find, hid, List.findIdx?_cons]
  have htc := fun w (h : Mach w0 w M r e ask gs) => touch_m w0 w M r e ask gs hr h
  rw [hidx] at htc
  replace htc := Lib.hid htc
  have hm := Lib.hid h
  obtain ⟨d1, a, c, o, hMe, he, ht, hg⟩ := h
  rw [hs] at ht
  obtain ⟨g, go, gc, hrow, hsm⟩ := ht
  obtain ⟨bt, c', hv⟩ := ownsRow_pos hrow (by decide)
  simp only [List.length_cons, List.length_nil, Nat.zero_add, Value.slice.injEq, true_and] at hv
  obtain ⟨rfl, rfl⟩ := hv
  rw [hs] at he
  simp only [List.length_cons, List.length_nil, Nat.zero_add] at he hrow
  have hE : Ext w0 w := Ext.trans (by (repeat (first | exact Ext.refl _ | assumption | refine Ext.alloc ?_ _ | refine Ext.ext ?_ _ | refine Ext.drew ?_))) he
  have hh := heap_at w0 d1 _ he
  rw [← hMe] at hh
  obtain ⟨curb, hbt, _⟩ := row_heap hrow
  replace hbt := Lib.hid hbt
  have c4 : w.cell? ⟨M, 4, none⟩ = some (.slice (some ⟨bt, 0, none⟩) 1 c) := by simp only [World.cell?, hh]; rfl
  have hMl := (Array.getElem?_eq_some_iff.1 hh).1
  replace hrow := Lib.hid hrow
  replace hh := Lib.hid hh
  replace hE := Lib.hid hE
  replace hg := Lib.hid hg
  have h0 : w0.heap.size ≤ M := by omega
  clear hs hid h5 hidx hMe he hsm d1 hr
  go_enter Try.func85, Try.ntmps85
  go_wp2_with fail
  refine (htc.out _ (hm.out.ext (by (repeat (first | exact Ext.refl _ | assumption | refine Ext.alloc ?_ _ | refine Ext.ext ?_ _ | refine Ext.drew ?_))))).mono ?_
  rintro x w1 ⟨rfl, d, rfl⟩
  go_wp2_with fail
  refine (delete_own w0 _ bt c _ (hE.out.trans (by (repeat (first | exact Ext.refl _ | assumption | refine Ext.alloc ?_ _ | refine Ext.ext ?_ _ | refine Ext.drew ?_)))) (ownsRow_ext hrow.out (by (repeat (first | exact Ext.refl _ | assumption | refine Ext.alloc ?_ _ | refine Ext.ext ?_ _ | refine Ext.drew ?_))))).mono ?_
  rintro x w1 ⟨rfl, hE1, hrow1, hk⟩
  have hh1 := hk M _ (heap_some_ext hh.out (by (repeat (first | exact Ext.refl _ | assumption | refine Ext.alloc ?_ _ | refine Ext.ext ?_ _ | refine Ext.drew ?_)))) (fun h => own_ne' hrow.out hh.out (by decide) bt rfl h.symm)
  have hg1 : Hid (OwnG w1 w0.heap.size o gs) := ⟨ownsRow_keep (ownsRow_ext hg.out.1 (by (repeat (first | exact Ext.refl _ | assumption | refine Ext.alloc ?_ _ | refine Ext.ext ?_ _ | refine Ext.drew ?_)))) hk (own_ne' hg.out.1 hbt.out (by decide)), hg.out.2⟩
  obtain ⟨e1, e2, hM1, hw1⟩ := hE1.split hh1 h0
  subst hM1 hw1
  replace hrow1 := Lib.hid hrow1
  clear hk hg hrow hm htc hE1 hh1 hh hE
  go_wp2
  (first | (refine bodyPost_end (results_none rfl _ _ _) rfl ?_) | (refine bodyPost_ret (results_none rfl _ _ _) rfl ?_))
  refine ⟨rfl, e1, some ⟨bt, 0, none⟩, c, o, rfl, ?_, ?_, ?_⟩
  · (repeat (first | exact Ext.refl _ | assumption | refine Ext.alloc ?_ _ | refine Ext.ext ?_ _ | refine Ext.drew ?_))
  · exact ownsRow_like (S := fun k => k = w0.heap.size + e1.size) (ownsRow_ext hrow1.out (by (repeat (first | exact Ext.refl _ | assumption | refine Ext.alloc ?_ _ | refine Ext.ext ?_ _ | refine Ext.drew ?_)))) (by (repeat (first | exact Like.refl _ _ | refine Like.ext ?_ _ | refine Like.alloc ?_ _ | refine Like.swap ?_ (by simp <;> omega) _ _))) (own_ne' hrow1.out (Mach.heap _ _) (by decide))
  · exact (Mach.turnG hg1.out _).ext (by (repeat (first | exact Ext.refl _ | assumption | refine Ext.alloc ?_ _ | refine Ext.ext ?_ _ | refine Ext.drew ?_)))
set_option maxHeartbeats 1000000 in
theorem lift0 (w0 w : World) (M : Nat) (r : Rec) (e : Ev) (ask : Int) (gs : List Ges) (hr : ROk r) (hs : r.Ts = []) (h : Mach w0 w M r e ask gs) :
    Calls Try.prog 85 #[.pointer (some ⟨M, 0, none⟩)] w fun x w' => x = .returned (.tuple #[]) ∧ Ext w w' := by
  have hidx : idx r e = -1 := by
    simp only [idx, hs, find, List.findIdx?_nil]; split <;> rfl
  have htc := fun w (h : Mach w0 w M r e ask gs) => touch_m w0 w M r e ask gs hr h
  rw [hidx] at htc
  replace htc := Lib.hid htc
  have hm := Lib.hid h
  clear h hs hidx hr
  go_enter Try.func85, Try.ntmps85
  go_wp2_with fail
  refine (htc.out _ (hm.out.ext (by (repeat (first | exact Ext.refl _ | assumption | refine Ext.alloc ?_ _ | refine Ext.ext ?_ _ | refine Ext.drew ?_))))).mono ?_
  rintro x w1 ⟨rfl, d, rfl⟩
  go_wp2
  (first | (refine bodyPost_end (results_none rfl _ _ _) rfl ?_) | (refine bodyPost_ret (results_none rfl _ _ _) rfl ?_))
  refine ⟨rfl, ?_⟩
  (repeat (first | exact Ext.refl _ | assumption | refine Ext.alloc ?_ _ | refine Ext.ext ?_ _ | refine Ext.drew ?_))
theorem lift_any (w0 w : World) (M : Nat) (r : Rec) (e : Ev) (ask : Int) (gs : List Ges) (hr : ROk r) (hT : r.Ts = [] ∨ ∃ t, r.Ts = [t] ∧ t.ID = e.ID) (h5 : e.Kind ≠ 5) (h : Mach w0 w M r e ask gs) :
    Calls Try.prog 85 #[.pointer (some ⟨M, 0, none⟩)] w fun x w' => x = .returned (.tuple #[]) ∧ Mach w0 w' M { r with Ts := [] } e ask gs := by
  rcases hT with hs | ⟨t, hs, hid⟩
  · have e1 : ({ r with Ts := [] } : Rec) = r := by cases r; simp only at hs; subst hs; rfl
    rw [e1]
    exact (lift0 w0 w M r e ask gs hr hs h).mono fun x w' ⟨hx, he⟩ => ⟨hx, h.ext he⟩
  · exact lift1 w0 w M r e ask gs t hr hs hid h5 h
end Go.Proofs.Ytendgmnbnnkpnaa.G
