/- follow, on whole recognisers. -/
import Derived.Test.YtendgmnbnnkpnaaJ8
import Derived.WalkKit
import Derived.WalkSpells
import Derived.WalkLawsBesides
import Derived.Deep.QuietTactic
import Derived.BigQuiet
import Derived.BigRegion
import Derived.Lib.Hide
import Derived.Deep.RegionWith
set_option linter.unusedSimpArgs false
set_option linter.unusedVariables false
namespace Go.Proofs.Ytendgmnbnnkpnaa.G
open Go.RowKit
theorem mach_of {w0 w : World} {M : Nat} {r : Rec} {e : Ev} {ask : Int} {gs : List Ges} {a : Option Addr} {c : Nat} {o : Value} (he : Ext w0 w) (h0 : w0.heap.size ≤ M) (hh : w.heap[M]? = some (.cells #[.int .i64 (r).Kind, .int .i64 (r).Node, .int .i64 (r).State, .int .i64 (r).Count, .slice a (r).Ts.length c, .int .i64 (r).L.X, .int .i64 (r).L.Y, .int .i64 (r).L.T, .int .i64 (e).Kind, .int .i64 (e).ID, .int .i64 (e).X, .int .i64 (e).Y, .int .i64 (e).Time, .int .i64 (e).Wheel, .int .i64 ask, o] 82)) (ht : OwnR w w0.heap.size (.slice a r.Ts.length c) r.Ts) (hg : OwnG w w0.heap.size o gs) : Mach w0 w M r e ask gs := by
  obtain ⟨d, z, h1, h2⟩ := he.split hh h0
  exact ⟨d, a, c, o, h1, ⟨z, h2⟩, ht, hg⟩
theorem follow_m (w0 w : World) (M : Nat) (r : Rec) (e : Ev) (i : Nat) (t : Tch) (hr : ROk r) (hi : r.Ts[i]? = some t) (h : MachS w0 w M r e) :
    Calls Try.prog 60 #[.pointer (some ⟨M, 0, none⟩), .int .i64 i] w fun v w' => v = .returned (.tuple #[]) ∧ Mach w0 w' M { r with Ts := follow r.Ts i (smp e) } e 0 [] := by
  have hne : r.Ts ≠ [] := fun h0 => by rw [h0] at hi; cases hi
  obtain ⟨x, y, z, c, cur, rfl, hw, ht⟩ := h.lay hne
  have fin : ∀ (w' : World) (x' y' : Grow) (cur' : Array Value) (ts : List Tch), x.size = x'.size → y.size = y'.size → ts.length = r.Ts.length → Ext ((((w0.ext x').alloc (.cells cur' 64)).ext y').alloc (.cells #[.int .i64 (r).Kind, .int .i64 (r).Node, .int .i64 (r).State, .int .i64 (r).Count, .slice (some ⟨w0.heap.size + x.size, 0, none⟩) (r).Ts.length c, .int .i64 (r).L.X, .int .i64 (r).L.Y, .int .i64 (r).L.T, .int .i64 (e).Kind, .int .i64 (e).ID, .int .i64 (e).X, .int .i64 (e).Y, .int .i64 (e).Time, .int .i64 (e).Wheel, .int .i64 0, .slice none 0 0] 82)) w' →
      OwnR w' w0.heap.size (.slice (some ⟨w0.heap.size + x.size, 0, none⟩) ts.length c) ts → Mach w0 w' (w0.heap.size + x.size + 1 + y.size) { r with Ts := ts } e 0 [] := by
    intro w' x' y' cur' ts hx hy hl he ho
    refine mach_of (a := some ⟨w0.heap.size + x.size, 0, none⟩) (c := c) (o := .slice none 0 0) (Ext.trans ?_ he) (by omega) ?_ ho (OwnG.none _ _)
    · (repeat (first | exact Ext.refl _ | assumption | refine Ext.alloc ?_ _ | refine Ext.ext ?_ _ | refine Ext.drew ?_))
    · simp only [hl]
      refine heap_at' ((w0.ext x').alloc (.cells cur' 64)) y' _ ?_ he
      simp only [World.size_ext, World.size_alloc]
      omega
  rcases hr.shape with hs | ⟨t', hs, h1⟩ | ⟨t', u', hs, h1, h2, h7⟩
  · exact absurd hs hne
  · rw [hs] at hi
    have hi0 : i = 0 := by have := (List.getElem?_eq_some_iff.1 hi).1; simpa using this
    subst hi0
    obtain rfl : t' = t := by simpa using hi
    rw [hs] at ht
    obtain ⟨g, gc, hrow, hsm⟩ := ht
    refine (follow_core w0 x y z cur c r e 0 1 _ t' g gc h1 (by rw [hs]; rfl) (by simp) rfl w hw hrow hsm).mono ?_
    rintro v w' ⟨rfl, x', y', g2, k, c2, cur', hx, hy, he, hrow', hsm', hk⟩
    refine ⟨rfl, fin w' x' y' cur' _ hx hy (by rw [hs]; rfl) he ?_⟩
    rw [hs]
    exact ⟨g2, k * 3, c2, hrow', hsm'⟩
  · rw [hs] at hi
    have hi0 : i = 0 ∨ i = 1 := by have := (List.getElem?_eq_some_iff.1 hi).1; simp at this; omega
    rw [hs] at ht
    obtain ⟨g, gc, p, pc, hgp, hrow, hsm, hsu⟩ := ht
    rcases hi0 with rfl | rfl
    · obtain rfl : t' = t := by simpa using hi
      refine (follow_core w0 x y z cur c r e 0 2 _ t' g gc h1 (by rw [hs]; rfl) (by simp) rfl w hw hrow hsm).mono ?_
      rintro v w' ⟨rfl, x', y', g2, k, c2, cur', hx, hy, he, hrow', hsm', hk⟩
      refine ⟨rfl, fin w' x' y' cur' _ hx hy (by rw [hs]; rfl) he ?_⟩
      rw [hs]
      obtain ⟨cu, fr, hh, hc⟩ := hsu.inn h2.ne
      exact ⟨g2, k * 3, c2, p, 0, pc, hrow', hsm', cu, fr, hk p cu fr hh hgp.symm, hc⟩
    · obtain rfl : u' = t := by simpa using hi
      refine (follow_core w0 x y z cur c r e 1 2 _ u' p pc h2 (by rw [hs]; rfl) (by simp) rfl w hw hrow hsu).mono ?_
      rintro v w' ⟨rfl, x', y', g2, k, c2, cur', hx, hy, he, hrow', hsm', hk⟩
      refine ⟨rfl, fin w' x' y' cur' _ hx hy (by rw [hs]; rfl) he ?_⟩
      rw [hs]
      obtain ⟨cu, fr, hh, hc⟩ := hsm.inn h1.ne
      exact ⟨g, 0, gc, g2, k * 3, c2, hrow', ⟨cu, fr, hk g cu fr hh hgp, hc⟩, hsm'⟩
end Go.Proofs.Ytendgmnbnnkpnaa.G
