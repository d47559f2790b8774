/- GestureProtocol: whatever the input, the law returns true and leaves its arguments alone. No condition. -/
import Derived.Test.YtendgmnbnnkpnaaVQ
import Derived.Test.YtendgmnbnnkpnaaWF
import Derived.Deep.Slices
import Derived.Deep.Strs
import Derived.WideKeyArgs
namespace Go.Proofs.Ytendgmnbnnkpnaa.gestureProtocol
open Go.ChangeShapes Go.WideShapes Go.ChangeAt Go.RowKit Go.Deep
set_option linter.unusedVariables false
set_option linter.unusedSimpArgs false
theorem laidOut : laidOutB Try.prog = true := by kernel_rfl
theorem ints_of {H : Type} {enc : TypeId × Value → H} {W : World} {sp : Nat → Bool} {a : Option Addr} {len cap fuel : Nat} {x : DataW H × List MemPlace}
    (h : DataW.trod enc Try.prog W 0 sp true fuel 33 [.slice a len cap] = some x) : len ≤ cap ∧ cap ≤ maxLen ∧ (len = 0 ∨ ∃ b off, a = some ⟨b, off, none⟩ ∧ ∀ i, i < len → ∃ x : Int, -9223372036854775808 ≤ x ∧ x ≤ 9223372036854775807 ∧ W.cell? ⟨b, off + i, none⟩ = some (.int .i64 x)) := by
  rcases open_slice Try.underlying33 h with ⟨hcs, _⟩ | ⟨ad, l, c, m, n, D, Pl, hcs, _, hl, hm, hmm, _, hx⟩
  · simp only [List.cons.injEq, Value.slice.injEq, and_true] at hcs
    obtain ⟨rfl, rfl, rfl⟩ := hcs
    exact ⟨Nat.le_refl _, by unfold maxLen; omega, .inl rfl⟩
  · simp only [List.cons.injEq, Value.slice.injEq, and_true] at hcs
    obtain ⟨rfl, rfl, rfl⟩ := hcs
    have hlm : len ≤ m := by rw [hmm]; split <;> omega
    refine ⟨hl, hm, ?_⟩
    have each : ∀ i, i < len → ∃ x : Int, -9223372036854775808 ≤ x ∧ x ≤ 9223372036854775807 ∧ W.cell? (ad.add i) = some (.int .i64 x) := by
      intro i hi
      obtain ⟨cs', h1, h2⟩ := hx i (by omega)
      have hc : (Try.prog).cellsOf 3 = 1 := by kernel_rfl
      rw [hc, Nat.mul_one] at h1
      obtain ⟨_, hlen, hcell⟩ := World.cells?_some h1
      obtain ⟨z, hz, _, hwf⟩ := DataW.trod_int Try.underlying3 h2
      subst hz
      obtain ⟨b1, b2⟩ := G.bd_i64 hwf
      refine ⟨z, b1, b2, ?_⟩
      have := hcell 0 (by omega)
      rw [show (ad.add i).add 0 = ad.add i from rfl] at this
      simpa using this
    by_cases h0 : len = 0
    · exact .inl h0
    · obtain ⟨z, _, _, hz⟩ := each 0 (by omega)
      have hs := World.cell?_spot hz
      rw [show ad.add 0 = ad from rfl] at hs
      obtain ⟨b, off, spot⟩ := ad
      simp only at hs
      subst hs
      refine .inr ⟨b, off, rfl, fun i hi => ?_⟩
      obtain ⟨z, b1, b2, hz⟩ := each i hi
      rw [Addr.add_lit] at hz
      exact ⟨z, b1, b2, hz⟩
set_option maxRecDepth 100000 in
theorem lifted (os : Os) (started : os.Started) (H : Type) (enc : TypeId × Value → H) :
    ReturnsInHanded {} Try.checked os 4 .any (Rows.gestureProtocolSpec.pre6 enc Try.prog Try.f4 Rows.gestureProtocolRow.domain false) (Rows.gestureProtocolSpec.post enc Try.prog Try.f4 false true false false) := by
  refine returnsInHanded_of_change (C := Try.checked) G.ownB started (by kernel_rfl) Try.func4
    (ChangeSpec.witness6 (enc := enc) (C := Try.checked) false ⟨#[], #[.slice none 0 0], []⟩ 8 (by kernel_rfl) (by kernel_rfl) (by kernel_rfl) (by kernel_rfl)) ?_
  intro W base args ds gs before hval0 hW hcnd _
  have hval : ∀ (j : Nat) t v, Try.f4.params[j]? = some t → args[j]? = some v → Value.okWide Try.prog W .any base t v := hval0
  have hW' := hW
  obtain ⟨p, q, hA0, hV, rfl, hfz, hnd⟩ := hW
  have hA : DataW.TrodAll enc Try.prog W 0 (fun _ => true) true Try.f4.params.toList args.toList ds p := hA0
  rw [Try.params4] at hA hval
  obtain ⟨v1, vs1, d1, ds1, p1, q1, hargs, rfl, rfl, h1, r1⟩ := trodAll_cons hA
  obtain ⟨rfl, rfl, rfl⟩ := trodAll_nil r1
  obtain rfl : args = #[v1] := by cases args; simp_all
  obtain ⟨rfl, rfl⟩ := trodVars_none hV
  obtain ⟨a1, len1, cap1, rfl⟩ := okWide_slice Try.underlying33 (hval 0 33 v1 rfl rfl)
  have k1 := h1
  have lt1 : ∀ x ∈ p1, x.block < W.heap.size := by obtain ⟨m, hm⟩ := k1; exact DataW.trod_lt m _ _ _ hm
  obtain ⟨hc, hcm, hl⟩ := (by obtain ⟨fuel, hf⟩ := h1; exact ints_of (by simpa [Value.cells] using hf) : len1 ≤ cap1 ∧ cap1 ≤ maxLen ∧ (len1 = 0 ∨ ∃ b off, a1 = some ⟨b, off, none⟩ ∧ ∀ i, i < len1 → ∃ x : Int, -9223372036854775808 ≤ x ∧ x ≤ 9223372036854775807 ∧ W.cell? ⟨b, off + i, none⟩ = some (.int .i64 x)))
  clear hA0 hval0
  simp only [List.append_nil, List.nil_append] at hW'
  have hcm' : cap1 ≤ 9223372036854775807 := by unfold maxLen at hcm; omega
  refine (G.protocol_law a1 len1 cap1 W hc hcm' hl).mono fun e W' ⟨he, hg⟩ => ?_
  subst he
  exact ⟨_, rfl, post_of_ext (pa := p1) (pv := []) hW' (fun _ _ _ => (trodAll_cons_mk (shut_bool Try.underlying4 _) trodAll_mk0))
    (fun sp hsp => by
      have hk := WideElems.Trod_stays (sp' := sp) laidOut (by kernel_rfl) (of_decide_eq_true (by kernel_rfl)) k1 (fun x hx => hg.below.same (lt1 x hx)) (fun x hx => hsp x hx)
      have := trodAll_cons_mk hk trodAll_mk0
      have this' : DataW.TrodAll enc Try.prog W' 0 sp true [33] [.slice a1 len1 cap1] [d1] p1 := by simpa using this
      exact this') (fun _ _ => rfl) (by simp)
    hg (ok_one (by kernel_rfl) rfl (okWide_bool_mk Try.underlying4 _))⟩
theorem over : Rows.gestureProtocolRow.holds Try.pinned (OpenSpec.ofChange Rows.gestureProtocolSpec) :=
  OpenClaim.holds_of_wide 4 Try.f4 rfl rfl rfl rfl rfl rfl rfl ⟨rfl, rfl, rfl, rfl, rfl⟩ rfl rfl rfl rfl rfl (by kernel_rfl) Try.func4 (by kernel_rfl)
    (of_decide_eq_true (by kernel_rfl)) (by unfold Func.isWrapper; first | (rw [if_pos (by decide +kernel)]; kernel_rfl) | (rw [if_neg (by decide +kernel)]; exact ⟨rfl, rfl⟩))
    (fun os started H enc _ => lifted os started H enc)

theorem proved : Rows.GestureProtocolSaid :=
  over
#print axioms proved
end Go.Proofs.Ytendgmnbnnkpnaa.gestureProtocol
