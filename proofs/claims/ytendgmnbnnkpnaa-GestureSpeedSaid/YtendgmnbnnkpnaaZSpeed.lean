/-
  GestureSpeed: whatever the input, the law returns true and leaves its arguments alone. No condition.
-/
import Derived.Test.YtendgmnbnnkpnaaZ0
import Derived.Test.YtendgmnbnnkpnaaM7
import Derived.Test.YtendgmnbnnkpnaaB0
import Derived.Deep.Slices
import Derived.Deep.Strs
import Derived.WideKeyArgs
namespace Go.Proofs.Ytendgmnbnnkpnaa.gestureSpeed
open Go.ChangeShapes Go.WideShapes Go.ChangeAt Go.RowKit Go.Deep
open G (Smp SsAt nth nth_eq)
set_option linter.unusedVariables false
theorem laidOut : laidOutB Try.prog = true := by kernel_rfl
set_option maxRecDepth 100000 in
theorem samples_of {H : Type} {enc : TypeId × Value → H} {W : World} {sp : Nat → Bool} {a : Option Addr} {len cap fuel : Nat} {x : DataW H × List MemPlace}
    (h : DataW.trod enc Try.prog W 0 sp true fuel 57 [.slice a len cap] = some x) : ∃ l : List Smp, l.length = len ∧ (l = [] ∨ ∃ b off, a = some ⟨b, off, none⟩ ∧ SsAt W b off l) ∧ len ≤ maxLen := by
  rcases open_slice Try.underlying57 h with ⟨hcs, _⟩ | ⟨ad, l, c, m, n, D, Pl, hcs, _, hl, hm, hmm, _, hx⟩
  · simp only [List.cons.injEq, Value.slice.injEq, and_true] at hcs
    obtain ⟨rfl, rfl, rfl⟩ := hcs
    exact ⟨[], rfl, .inl rfl, by unfold maxLen; omega⟩
  · simp only [List.cons.injEq, Value.slice.injEq, and_true] at hcs
    obtain ⟨rfl, rfl, rfl⟩ := hcs
    have hlm : len ≤ m := by rw [hmm]; split <;> omega
    have each : ∀ i, i < len → ∃ s : Smp, W.cell? (ad.add (i * 3)) = some (.int .i64 s.X) ∧ W.cell? ((ad.add (i * 3)).add 1) = some (.int .i64 s.Y) ∧ W.cell? ((ad.add (i * 3)).add 2) = some (.int .i64 s.T) := by
      intro i hi
      obtain ⟨cs', h1, h2⟩ := hx i (by omega)
      have hc : (Try.prog).cellsOf 24 = 3 := by kernel_rfl
      have hc3 : (Try.prog).cellsOf 3 = 1 := by kernel_rfl
      rw [hc] at h1
      obtain ⟨_, hlen, hcell⟩ := World.cells?_some h1
      obtain ⟨y0, y1, y2, k, _, _, t0, t1, t2⟩ := trod_struct3 Try.underlying24 h2
      match cs', hlen with
      | [v0, v1, v2], _ =>
        simp only [hc3] at t0 t1 t2
        obtain ⟨x0, e0, _⟩ := DataW.trod_int Try.underlying3 t0
        obtain ⟨x1, e1, _⟩ := DataW.trod_int Try.underlying3 t1
        obtain ⟨x2, e2, _⟩ := DataW.trod_int Try.underlying3 t2
        simp at e0 e1 e2
        subst e0 e1 e2
        refine ⟨⟨x0, x1, x2⟩, ?_, ?_, ?_⟩
        · have := hcell 0 (by omega)
          rw [show (ad.add (i * 3)).add 0 = ad.add (i * 3) from rfl] at this
          simpa using this
        · simpa using hcell 1 (by omega)
        · simpa using hcell 2 (by omega)
    by_cases h0 : len = 0
    · subst h0
      exact ⟨[], rfl, .inl rfl, by omega⟩
    · haveI : Inhabited Smp := ⟨⟨0, 0, 0⟩⟩
      obtain ⟨f, hf⟩ := choose_lt each
      have hs := World.cell?_spot (hf 0 (by omega)).1
      rw [show ad.add (0 * 3) = ad from rfl] at hs
      obtain ⟨b, off, spot⟩ := ad
      simp only at hs
      subst hs
      refine ⟨(List.range len).map f, by simp, .inr ⟨b, off, rfl, ?_⟩, by omega⟩
      intro i hi
      simp only [List.length_map, List.length_range] at hi
      have hn : nth ((List.range len).map f) i = f i := by rw [nth_eq _ _ (by simpa using hi)]; simp
      obtain ⟨h1, h2, h3⟩ := hf i hi
      rw [hn]
      rw [Addr.add_lit] at h1 h2 h3
      rw [Addr.add_lit] at h2 h3
      exact ⟨h1, h2, h3⟩
set_option maxRecDepth 100000 in
theorem lifted (os : Os) (started : os.Started) (H : Type) (enc : TypeId × Value → H) :
    ReturnsInHanded {} Try.checked os 7 .any (Rows.gestureSpeedSpec.pre6 enc Try.prog Try.f7 Rows.gestureSpeedRow.domain false) (Rows.gestureSpeedSpec.post enc Try.prog Try.f7 false true false false) := by
  refine returnsInHanded_of_change (C := Try.checked) G.ownB started (by kernel_rfl) Try.func7
    (ChangeSpec.witness6 (enc := enc) (C := Try.checked) false ⟨#[], #[.slice none 0 0, .int .i8 0, .int .u8 0], []⟩ 8 (by kernel_rfl) (by kernel_rfl) (by kernel_rfl) (by kernel_rfl)) ?_
  intro W base args ds gs before hval0 hW hcnd _
  have hval : ∀ (j : Nat) t v, Try.f7.params[j]? = some t → args[j]? = some v → Value.okWide Try.prog W .any base t v := hval0
  have hW' := hW
  obtain ⟨p, q, hA0, hV, rfl, hfz, hnd⟩ := hW
  have hA : DataW.TrodAll enc Try.prog W 0 (fun _ => true) true Try.f7.params.toList args.toList ds p := hA0
  rw [Try.params7] at hA hval
  obtain ⟨v0, vs0, d0, ds0, p0, q0, hargs, rfl, rfl, h0, r0⟩ := trodAll_cons hA
  obtain ⟨v1, vs1, d1, ds1, p1, q1, rfl, rfl, rfl, h1, r1⟩ := trodAll_cons r0
  obtain ⟨v2, vs2, d2, ds2, p2, q2, rfl, rfl, rfl, h2, r2⟩ := trodAll_cons r1
  obtain ⟨rfl, rfl, rfl⟩ := trodAll_nil r2
  obtain rfl : args = #[v0, v1, v2] := by cases args; simp_all
  obtain ⟨rfl, rfl⟩ := trodVars_none hV
  obtain ⟨a0, len0, cap0, rfl⟩ := okWide_slice Try.underlying57 (hval 0 57 v0 rfl rfl)
  have k0 := h0
  have lt0 : ∀ x ∈ p0, x.block < W.heap.size := by obtain ⟨m, hm⟩ := k0; exact DataW.trod_lt m _ _ _ hm
  obtain ⟨l, rfl, hl, hlm⟩ := (by obtain ⟨fuel, hf⟩ := h0; exact samples_of (by simpa [Value.cells] using hf) : ∃ l : List Smp, l.length = len0 ∧ (l = [] ∨ ∃ b off, a0 = some ⟨b, off, none⟩ ∧ SsAt W b off l) ∧ len0 ≤ maxLen)
  obtain ⟨a1, rfl, rfl, rfl, w1⟩ := open_int Try.underlying51 (hval 1 51 v1 rfl rfl) h1
  obtain ⟨a2, rfl, rfl, rfl, w2⟩ := open_int Try.underlying5 (hval 2 5 v2 rfl rfl) h2
  clear hA0 hval0
  simp only [List.append_nil] at hW'
  refine (G.speed_law a0 cap0 l a1 a2 (G.bd_i8 w1) (G.bd_u8 w2) W hl).mono fun e W' ⟨he, hg⟩ => ?_
  subst he
  exact ⟨_, rfl, post_of_ext (pa := p0) (pv := []) hW' (fun _ _ _ => (trodAll_cons_mk (shut_bool Try.underlying4 _) trodAll_mk0))
    (fun sp hsp => by
      have hk := WideElems.Trod_stays (sp' := sp) laidOut (by kernel_rfl) (of_decide_eq_true (by kernel_rfl)) k0 (fun x hx => hg.below.same (lt0 x hx)) (fun x hx => hsp x hx)
      have := trodAll_cons_mk hk (trodAll_cons_mk (shut_int Try.underlying51 w1) (trodAll_cons_mk (shut_int Try.underlying5 w2) trodAll_mk0))
      have this' : DataW.TrodAll enc Try.prog W' 0 sp true [57, 51, 5] [.slice a0 l.length cap0, .int .i8 a1, .int .u8 a2] [d0, .lit (.int .i8 a1), .lit (.int .u8 a2)] p0 := by simpa using this
      exact this') (fun _ _ => rfl) (by simp)
    hg (ok_one (by kernel_rfl) rfl (okWide_bool_mk Try.underlying4 _))⟩
theorem over : Rows.gestureSpeedRow.holds Try.pinned (OpenSpec.ofChange Rows.gestureSpeedSpec) :=
  OpenClaim.holds_of_wide 7 Try.f7 rfl rfl rfl rfl rfl rfl rfl ⟨rfl, rfl, rfl, rfl, rfl⟩ rfl rfl rfl rfl rfl (by kernel_rfl) Try.func7 (by kernel_rfl)
    (of_decide_eq_true (by kernel_rfl)) (by unfold Func.isWrapper; first | (rw [if_pos (by decide +kernel)]; kernel_rfl) | (rw [if_neg (by decide +kernel)]; exact ⟨rfl, rfl⟩))
    (fun os started H enc _ => lifted os started H enc)

theorem proved : Rows.GestureSpeedSaid :=
  over
#print axioms proved
end Go.Proofs.Ytendgmnbnnkpnaa.gestureSpeed
