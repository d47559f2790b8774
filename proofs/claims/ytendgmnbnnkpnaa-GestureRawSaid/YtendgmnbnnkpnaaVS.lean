/- GestureRaw: whatever the input, the law returns true and leaves its arguments alone. No condition. -/
import Derived.Test.YtendgmnbnnkpnaaVQ
import Derived.Test.YtendgmnbnnkpnaaVR
import Derived.Deep.Slices
import Derived.Deep.Strs
import Derived.WideKeyArgs
namespace Go.Proofs.Ytendgmnbnnkpnaa.gestureRaw
open Go.ChangeShapes Go.WideShapes Go.ChangeAt Go.RowKit Go.Deep
open G (Ev EvAt EvsAt)
set_option linter.unusedVariables false
theorem laidOut : laidOutB Try.prog = true := by kernel_rfl
set_option maxRecDepth 100000 in
theorem events_of {H : Type} {enc : TypeId × Value → H} {W : World} {sp : Nat → Bool} {a : Option Addr} {len cap fuel : Nat} {x : DataW H × List MemPlace}
    (h : DataW.trod enc Try.prog W 0 sp true fuel 39 [.slice a len cap] = some x) : ∃ l : List Ev, l.length = len ∧ (l = [] ∨ ∃ b off, a = some ⟨b, off, none⟩ ∧ EvsAt W b off l) ∧ len ≤ maxLen := by
  rcases open_slice Try.underlying39 h with ⟨hcs, _⟩ | ⟨ad, l, c, m, n, D, Pl, hcs, _, hl, hm, hmm, _, hx⟩
  · simp only [List.cons.injEq, Value.slice.injEq, and_true] at hcs
    obtain ⟨rfl, rfl, rfl⟩ := hcs
    exact ⟨[], rfl, .inl rfl, by unfold maxLen; omega⟩
  · simp only [List.cons.injEq, Value.slice.injEq, and_true] at hcs
    obtain ⟨rfl, rfl, rfl⟩ := hcs
    have hlm : len ≤ m := by rw [hmm]; split <;> omega
    have each : ∀ i, i < len → ∃ s : Ev, W.cell? (ad.add (i * 6)) = some (.int .i64 s.Kind) ∧ W.cell? ((ad.add (i * 6)).add 1) = some (.int .i64 s.ID) ∧ W.cell? ((ad.add (i * 6)).add 2) = some (.int .i64 s.X) ∧ W.cell? ((ad.add (i * 6)).add 3) = some (.int .i64 s.Y) ∧ W.cell? ((ad.add (i * 6)).add 4) = some (.int .i64 s.Time) ∧ W.cell? ((ad.add (i * 6)).add 5) = some (.int .i64 s.Wheel) := by
      intro i hi
      obtain ⟨cs', h1, h2⟩ := hx i (by omega)
      have hc : (Try.prog).cellsOf 44 = 6 := by kernel_rfl
      have hc3 : (Try.prog).cellsOf 3 = 1 := by kernel_rfl
      rw [hc] at h1
      obtain ⟨_, hlen, hcell⟩ := World.cells?_some h1
      obtain ⟨xs, n', _, _, _, hlen2, hf⟩ := DataW.trod_struct Try.underlying44 h2
      match cs', hlen, xs, hlen2 with
      | [v0, v1, v2, v3, v4, v5], _, [y0, y1, y2, y3, y4, y5], _ =>
        have t0 := (hf 0 _ rfl).trans (show _ = some y0 from rfl)
        have t1 := (hf 1 _ rfl).trans (show _ = some y1 from rfl)
        have t2 := (hf 2 _ rfl).trans (show _ = some y2 from rfl)
        have t3 := (hf 3 _ rfl).trans (show _ = some y3 from rfl)
        have t4 := (hf 4 _ rfl).trans (show _ = some y4 from rfl)
        have t5 := (hf 5 _ rfl).trans (show _ = some y5 from rfl)
        simp [hc3] at t0 t1 t2 t3 t4 t5
        obtain ⟨x0, e0, _⟩ := DataW.trod_int Try.underlying3 t0
        obtain ⟨x1, e1, _⟩ := DataW.trod_int Try.underlying3 t1
        obtain ⟨x2, e2, _⟩ := DataW.trod_int Try.underlying3 t2
        obtain ⟨x3, e3, _⟩ := DataW.trod_int Try.underlying3 t3
        obtain ⟨x4, e4, _⟩ := DataW.trod_int Try.underlying3 t4
        obtain ⟨x5, e5, _⟩ := DataW.trod_int Try.underlying3 t5
        simp at e0 e1 e2 e3 e4 e5
        subst e0 e1 e2 e3 e4 e5
        refine ⟨⟨x0, x1, x2, x3, x4, x5⟩, ?_, ?_, ?_, ?_, ?_, ?_⟩
        · have := hcell 0 (by omega)
          rw [show (ad.add (i * 6)).add 0 = ad.add (i * 6) from rfl] at this
          simpa using this
        · simpa using hcell 1 (by omega)
        · simpa using hcell 2 (by omega)
        · simpa using hcell 3 (by omega)
        · simpa using hcell 4 (by omega)
        · simpa using hcell 5 (by omega)
    by_cases h0 : len = 0
    · subst h0
      exact ⟨[], rfl, .inl rfl, by omega⟩
    · haveI : Inhabited Ev := ⟨⟨0, 0, 0, 0, 0, 0⟩⟩
      obtain ⟨f, hf⟩ := choose_lt each
      have hs := World.cell?_spot (hf 0 (by omega)).1
      rw [show ad.add (0 * 6) = ad from rfl] at hs
      obtain ⟨b, off, spot⟩ := ad
      simp only at hs
      subst hs
      refine ⟨(List.range len).map f, by simp, .inr ⟨b, off, rfl, ?_⟩, by omega⟩
      intro i e hi
      have hil : i < len := by have := (List.getElem?_eq_some_iff.1 hi).1; simpa using this
      have he : f i = e := by simpa [hil] using hi
      subst he
      obtain ⟨h1, h2, h3, h4, h5, h6⟩ := hf i hil
      simp only [Addr.add_lit] at h1 h2 h3 h4 h5 h6
      exact ⟨h1, h2, h3, h4, h5, h6⟩
set_option maxRecDepth 100000 in
theorem lifted (os : Os) (started : os.Started) (H : Type) (enc : TypeId × Value → H) :
    ReturnsInHanded {} Try.checked os 12 .any (Rows.gestureRawSpec.pre6 enc Try.prog Try.f12 Rows.gestureRawRow.domain false) (Rows.gestureRawSpec.post enc Try.prog Try.f12 false true false false) := by
  refine returnsInHanded_of_change (C := Try.checked) G.ownB started (by kernel_rfl) Try.func12
    (ChangeSpec.witness6 (enc := enc) (C := Try.checked) false ⟨#[], #[.int .i64 0, .slice none 0 0, .int .u8 0], []⟩ 8 (by kernel_rfl) (by kernel_rfl) (by kernel_rfl) (by kernel_rfl)) ?_
  intro W base args ds gs before hval0 hW hcnd _
  have hval : ∀ (j : Nat) t v, Try.f12.params[j]? = some t → args[j]? = some v → Value.okWide Try.prog W .any base t v := hval0
  have hW' := hW
  obtain ⟨p, q, hA0, hV, rfl, hfz, hnd⟩ := hW
  have hA : DataW.TrodAll enc Try.prog W 0 (fun _ => true) true Try.f12.params.toList args.toList ds p := hA0
  rw [Try.params12] at hA hval
  obtain ⟨v0, vs0, d0, ds0, p0, q0, hargs, rfl, rfl, h0, r0⟩ := trodAll_cons hA
  obtain ⟨v1, vs1, d1, ds1, p1, q1, rfl, rfl, rfl, h1, r1⟩ := trodAll_cons r0
  obtain ⟨v2, vs2, d2, ds2, p2, q2, rfl, rfl, rfl, h2, r2⟩ := trodAll_cons r1
  obtain ⟨rfl, rfl, rfl⟩ := trodAll_nil r2
  obtain rfl : args = #[v0, v1, v2] := by cases args; simp_all
  obtain ⟨rfl, rfl⟩ := trodVars_none hV
  obtain ⟨a0, rfl, rfl, rfl, w0⟩ := open_int Try.underlying3 (hval 0 3 v0 rfl rfl) h0
  obtain ⟨a1, len1, cap1, rfl⟩ := okWide_slice Try.underlying39 (hval 1 39 v1 rfl rfl)
  have k1 := h1
  have lt1 : ∀ x ∈ p1, x.block < W.heap.size := by obtain ⟨m, hm⟩ := k1; exact DataW.trod_lt m _ _ _ hm
  obtain ⟨l, rfl, hl, hlm⟩ := (by obtain ⟨fuel, hf⟩ := h1; exact events_of (by simpa [Value.cells] using hf) : ∃ l : List Ev, l.length = len1 ∧ (l = [] ∨ ∃ b off, a1 = some ⟨b, off, none⟩ ∧ EvsAt W b off l) ∧ len1 ≤ maxLen)
  obtain ⟨a2, rfl, rfl, rfl, w2⟩ := open_int Try.underlying5 (hval 2 5 v2 rfl rfl) h2
  clear hA0 hval0
  simp only [List.append_nil, List.nil_append] at hW'
  have hlm' : l.length ≤ 9223372036854775807 := by unfold maxLen at hlm; omega
  refine (G.raw_law a0 a2 l a1 cap1 hlm' (G.bd_u8 w2) W hl).mono fun e W' ⟨he, hg⟩ => ?_
  subst he
  exact ⟨_, rfl, post_of_ext (pa := p1) (pv := []) hW' (fun _ _ _ => (trodAll_cons_mk (shut_bool Try.underlying4 _) trodAll_mk0))
    (fun sp hsp => by
      have hk := WideElems.Trod_stays (sp' := sp) laidOut (by kernel_rfl) (of_decide_eq_true (by kernel_rfl)) k1 (fun x hx => hg.below.same (lt1 x hx)) (fun x hx => hsp x hx)
      have := trodAll_cons_mk (shut_int Try.underlying3 w0) (trodAll_cons_mk hk (trodAll_cons_mk (shut_int Try.underlying5 w2) trodAll_mk0))
      have this' : DataW.TrodAll enc Try.prog W' 0 sp true [3, 39, 5] [.int .i64 a0, .slice a1 l.length cap1, .int .u8 a2] [.lit (.int .i64 a0), d1, .lit (.int .u8 a2)] p1 := by simpa using this
      exact this') (fun _ _ => rfl) (by simp)
    hg (ok_one (by kernel_rfl) rfl (okWide_bool_mk Try.underlying4 _))⟩
theorem over : Rows.gestureRawRow.holds Try.pinned (OpenSpec.ofChange Rows.gestureRawSpec) :=
  OpenClaim.holds_of_wide 12 Try.f12 rfl rfl rfl rfl rfl rfl rfl ⟨rfl, rfl, rfl, rfl, rfl⟩ rfl rfl rfl rfl rfl (by kernel_rfl) Try.func12 (by kernel_rfl)
    (of_decide_eq_true (by kernel_rfl)) (by unfold Func.isWrapper; first | (rw [if_pos (by decide +kernel)]; kernel_rfl) | (rw [if_neg (by decide +kernel)]; exact ⟨rfl, rfl⟩))
    (fun os started H enc _ => lifted os started H enc)

theorem proved : Rows.GestureRawSaid :=
  over
#print axioms proved
end Go.Proofs.Ytendgmnbnnkpnaa.gestureRaw
