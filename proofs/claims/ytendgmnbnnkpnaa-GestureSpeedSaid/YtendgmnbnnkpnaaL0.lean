/- The recognisers' functions as the laws call them. -/
import Derived.Test.YtendgmnbnnkpnaaK9
import Derived.WalkKit
import Derived.WalkSpells
import Derived.WalkLawsBesides
import Derived.Deep.QuietTactic
import Derived.BigQuiet
import Derived.BigRegion
import Derived.Lib.Hide
import Derived.Deep.RegionWith
set_option linter.unusedSimpArgs false
set_option linter.unusedVariables false
namespace Go.Proofs.Ytendgmnbnnkpnaa.G
open Go.RowKit
def rcv (k n s c : Int) (a : Option Addr) (m cap : Nat) (lx ly lt : Int) : Value := .agg #[.int .i64 k, .int .i64 n, .int .i64 s, .int .i64 c, .slice a m cap, .int .i64 lx, .int .i64 ly, .int .i64 lt]
/-- what Feed hands back -/
def FeedF (q : Rec × Int × List Ges) (u : Value) : Facts := fun w => ∃ a c va vn vc, u = .tuple #[.agg #[.int .i64 (q.1).Kind, .int .i64 (q.1).Node, .int .i64 (q.1).State, .int .i64 (q.1).Count, .slice a (q.1).Ts.length c, .int .i64 (q.1).L.X, .int .i64 (q.1).L.Y, .int .i64 (q.1).L.T], .int .i64 q.2.1, .slice va vn vc] ∧ TsO w a c q.1.Ts ∧ OwnG w 0 (.slice va vn vc) q.2.2
def FeedS (q : Rec × Int × List Ges) : Shp := .of (fun u => ∃ a c va vn vc, u = .tuple #[.agg #[.int .i64 (q.1).Kind, .int .i64 (q.1).Node, .int .i64 (q.1).State, .int .i64 (q.1).Count, .slice a (q.1).Ts.length c, .int .i64 (q.1).L.X, .int .i64 (q.1).L.Y, .int .i64 (q.1).L.T], .int .i64 q.2.1, .slice va vn vc]) (.tuple #[.agg #[.int .i64 (q.1).Kind, .int .i64 (q.1).Node, .int .i64 (q.1).State, .int .i64 (q.1).Count, .slice none (q.1).Ts.length 0, .int .i64 (q.1).L.X, .int .i64 (q.1).L.Y, .int .i64 (q.1).L.T], .int .i64 q.2.1, .slice none 0 0]) ⟨none, 0, none, 0, 0, rfl⟩ rfl
theorem FeedF.stable (q : Rec × Int × List Ges) : Stable (FeedF q) := fun _ _ _ ⟨a, c, va, vn, vc, h1, h2, h3⟩ he => ⟨a, c, va, vn, vc, h1, h2.ext he, h3.ext he⟩
theorem FeedF.shp (q : Rec × Int × List Ges) : ∀ u w, FeedF q u w → (FeedS q).ok u := fun _ _ ⟨a, c, va, vn, vc, h, _⟩ => ⟨a, c, va, vn, vc, h⟩
theorem FeedF.use {q : Rec × Int × List Ges} {a va : Option Addr} {c vn vc : Nat} {w : World} (h : FeedF q (.tuple #[.agg #[.int .i64 (q.1).Kind, .int .i64 (q.1).Node, .int .i64 (q.1).State, .int .i64 (q.1).Count, .slice a (q.1).Ts.length c, .int .i64 (q.1).L.X, .int .i64 (q.1).L.Y, .int .i64 (q.1).L.T], .int .i64 q.2.1, .slice va vn vc]) w) : TsO w a c q.1.Ts ∧ OwnG w 0 (.slice va vn vc) q.2.2 := by
  obtain ⟨a', c', va', vn', vc', h1, h2, h3⟩ := h
  simp only [Value.tuple.injEq, Array.mk.injEq, List.cons.injEq, Value.agg.injEq, Value.slice.injEq, true_and, and_true] at h1
  obtain ⟨⟨rfl, rfl⟩, rfl, rfl, rfl⟩ := h1
  exact ⟨h2, h3⟩
theorem feed_mk (r : Rec) (e : Ev) (hr : ROk r) (a : Option Addr) (cap : Nat) (w : World) (hrep : RepT w a r.Ts) :
    Calls Try.prog 20 #[.agg #[.int .i64 (r).Kind, .int .i64 (r).Node, .int .i64 (r).State, .int .i64 (r).Count, .slice a (r).Ts.length cap, .int .i64 (r).L.X, .int .i64 (r).L.Y, .int .i64 (r).L.T], .agg #[.int .i64 (e).Kind, .int .i64 (e).ID, .int .i64 (e).X, .int .i64 (e).Y, .int .i64 (e).Time, .int .i64 (e).Wheel]] w fun x w' => ∃ u, x = .returned u ∧ Ext w w' ∧ FeedF (feed r e) u w' ∧ ∀ b, u.blk = some b → w.heap.size ≤ b ∧ b < w'.heap.size := by
  refine (feed_r r e hr a cap w hrep).mono ?_
  rintro x w' ⟨a', c', v, rfl, he, h1, h2⟩
  obtain ⟨va, vn, vc, rfl⟩ := h2.form
  exact ⟨_, rfl, he, ⟨a', c', va, vn, vc, rfl, h1, ownsRow_base h2.1 (Nat.zero_le _), h2.2⟩, fun b hb => by cases hb⟩
end Go.Proofs.Ytendgmnbnnkpnaa.G
