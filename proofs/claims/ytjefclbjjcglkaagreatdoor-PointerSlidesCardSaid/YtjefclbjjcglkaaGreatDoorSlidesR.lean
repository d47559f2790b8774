/-
  PointerSlides: whatever the input, the law returns true and leaves its arguments alone. No condition.
-/
import Derived.Test.YtjefclbjjcglkaaGreatDoorPsJ
import Derived.Test.YtjefclbjjcglkaaGreatDoorTie
import Derived.Test.YtjefclbjjcglkaaGreatDoorCards
import Derived.WalkKit
import Derived.ProofKit
import Derived.OpenShut
import Derived.Lay
import Derived.LaidOnce
import Derived.SevenTiedAt
set_option linter.unusedVariables false
set_option linter.unusedSimpArgs false
namespace Go.Proofs.YtjefclbjjcglkaaGreatDoor.pointerSlides
open Go.ChangeShapes Go.WideShapes Go.ChangeAt Go.RowKit Go.Ev
theorem own : ownKnob Tryz.prog.godebug = none := by kernel_rfl
def laid : List (String × DataW Unit) := [("unicode/utf8.acceptRanges", Rows.laid_unicode_utf8_acceptRanges), ("widgetry/style.properties", Rows.laid_widgetry_style_properties), ("unicode/utf8.first", Rows.laid_unicode_utf8_first)]
theorem globs_ok {W : World} (h : laidMet Tryz.prog laid W) : GlobOK W := by
  obtain ⟨c0, T0, f0, h0, e0⟩ := var_cells (T := ((Tryz.prog.globals[0]?).map (·.type)).getD 0) (g := 0) (vs := (flatD 8 Rows.laid_widgetry_style_properties).getD []) 8 8 (Lib.laidMet.reads (n := "widgetry/style.properties") (d := Rows.laid_widgetry_style_properties) h (by simp [laid])) (by kernel_rfl) (by kernel_rfl) (by kernel_rfl) (by kernel_rfl)
  obtain ⟨c2, T2, f2, h2, e2⟩ := var_cells (T := ((Tryz.prog.globals[2]?).map (·.type)).getD 0) (g := 2) (vs := (flatD 8 Rows.laid_unicode_utf8_acceptRanges).getD []) 8 8 (Lib.laidMet.reads (n := "unicode/utf8.acceptRanges") (d := Rows.laid_unicode_utf8_acceptRanges) h (by simp [laid])) (by kernel_rfl) (by kernel_rfl) (by kernel_rfl) (by kernel_rfl)
  have t2 := var_there (g := 2) (Lib.laidMet.reads (n := "unicode/utf8.acceptRanges") (d := Rows.laid_unicode_utf8_acceptRanges) h (by simp [laid])) (by kernel_rfl)
  refine ⟨t2, fun g o hg => ?_⟩
  have hk := T.get_keys hg
  rw [show T.keys evH.t = [0, 2] from rfl] at hk
  simp only [List.mem_cons, List.not_mem_nil, or_false] at hk
  rcases hk with rfl | rfl
  · cases (show some (AO.ro gl0) = some o from hg)
    exact ⟨_, _, _, _, _, rfl, by decide, (by kernel_rfl : ofVs ((flatD 8 Rows.laid_widgetry_style_properties).getD []) = some gl0), h0, e0⟩
  · cases (show some (AO.ro gl2) = some o from hg)
    exact ⟨_, _, _, _, _, rfl, by decide, (by kernel_rfl : ofVs ((flatD 8 Rows.laid_unicode_utf8_acceptRanges).getD []) = some gl2), h2, e2⟩
set_option maxRecDepth 100000 in
theorem lifted (os : Os) (started : os.Started) (H : Type) (enc : TypeId × Value → H) :
    ReturnsInHanded {} Tryz.checked os 4 .any (fun w args => (Rows.pointerSlidesSpec.pre enc Tryz.prog Tryz.f4 [] false w args ∧ laidMetH Tryz.prog laid w) ∧ sizedMet enc Tryz.prog Tryz.f4 (OpenSpec.ofChange Rows.pointerSlidesSpec) false w args)
      (Rows.pointerSlidesSpec.post enc Tryz.prog Tryz.f4 false true false false) := by
  refine returnsInHanded_of_change_and (C := Tryz.checked) (X := fun w _ => laidMetH Tryz.prog laid w) (fun _ _ _ hh h => h.of_heap hh) own started (by kernel_rfl) Tryz.func4
    (ChangeSpec.witness_shaped (enc := enc) (C := Tryz.checked) (os := os) (X := fun w _ => laidMetH Tryz.prog laid w) false (World.laidAll Tryz.prog os laid) #[.int .i8 0, .int .i8 0, .int .u8 0] 8 (World.laidAll_os _ _ _)
      (World.shaped_of_ZipB (by kernel_rfl) (by kernel_rfl)) (by kernel_rfl) (by kernel_rfl) (by kernel_rfl)
      (by rw [MakeChecks.laidMetH_plain _ _ _ (by kernel_rfl)]; exact laidMet_laidAll _ (by kernel_rfl) (by kernel_rfl))) ?_
  intro W base args ds gs before hval0 hW _ _ hL _
  have hval : ∀ (j : Nat) t v, Tryz.f4.params[j]? = some t → args[j]? = some v → Value.okWide Tryz.prog W .any base t v := hval0
  have hW' := hW
  obtain ⟨p, q, hA0, hV, rfl, _, _⟩ := hW
  have hA : DataW.TrodAll enc Tryz.prog W 0 (fun _ => true) true Tryz.f4.params.toList args.toList ds p := hA0
  rw [Tryz.params4] at hA hval
  obtain ⟨v0, vs0, d0, ds0, p0, q0, hargs, rfl, rfl, h0, r0⟩ := trodAll_cons hA
  obtain ⟨v1, vs1, d1, ds1, p1, q1, rfl, rfl, rfl, h1, r1⟩ := trodAll_cons r0
  obtain ⟨v2, vs2, d2, ds2, p2, q2, rfl, rfl, rfl, h2, r2⟩ := trodAll_cons r1
  obtain ⟨rfl, rfl, rfl⟩ := trodAll_nil r2
  obtain rfl : args = #[v0, v1, v2] := by cases args; simp_all
  obtain ⟨rfl, rfl⟩ := trodVars_none hV
  obtain ⟨a0, rfl, rfl, rfl, w0⟩ := open_int Tryz.underlying71 (hval 0 71 v0 rfl rfl) h0
  obtain ⟨a1, rfl, rfl, rfl, w1⟩ := open_int Tryz.underlying71 (hval 1 71 v1 rfl rfl) h1
  obtain ⟨a2, rfl, rfl, rfl, w2⟩ := open_int Tryz.underlying5 (hval 2 5 v2 rfl rfl) h2
  clear hA0 hval0
  simp only [List.append_nil] at hW'
  rw [MakeChecks.laidMetH_plain _ _ _ (by kernel_rfl)] at hL
  have b0 : IntKind.i8.min ≤ a0 ∧ a0 ≤ IntKind.i8.max := by simpa [Lit.wf] using w0
  have b1 : IntKind.i8.min ≤ a1 ∧ a1 ≤ IntKind.i8.max := by simpa [Lit.wf] using w1
  have b2 : IntKind.u8.min ≤ a2 ∧ a2 ≤ IntKind.u8.max := by simpa [Lit.wf] using w2
  refine (slide_law (globs_ok hL) a0 b0.1 b0.2 a1 b1.1 b1.2 a2 b2.1 b2.2).mono fun e W' ⟨he, hb⟩ => ?_
  subst he
  exact ⟨_, rfl, _, _, _, [], [], [], hW', trodAll_mk1 (shut_bool Tryz.underlying4 _), (trodAll_cons_mk (shut_int Tryz.underlying71 w0) (trodAll_cons_mk (shut_int Tryz.underlying71 w1) (trodAll_cons_mk (shut_int Tryz.underlying5 w2) trodAll_mk0))), rfl, hb.frame _, fun h => by cases h⟩
theorem holds : Rows.PointerSlidesSaid :=
  OpenClaim.holds_of_wide 4 Tryz.f4 rfl rfl rfl rfl rfl rfl rfl ⟨rfl, rfl, rfl, rfl, rfl⟩ rfl rfl rfl rfl rfl (by kernel_rfl) Tryz.func4 (by kernel_rfl)
    (of_decide_eq_true (by kernel_rfl)) (by unfold Func.isWrapper; first | (rw [if_pos (by decide +kernel)]; kernel_rfl) | (rw [if_neg (by decide +kernel)]; exact ⟨rfl, rfl⟩))
    (fun os started H enc _ => lifted os started H enc)
theorem proved : Rows.PointerSlidesCardSaid :=
  Claim7.holds_tied_plain_at .later [] [.data, .data, .pinned] true (true, "879d2e42e62c61299aeaf256995395e86835821416cb1a13a91c038ac7b60ebf") false
    holds (fun _ h => by cases h) (by kernel_rfl) (fun _ h => by cases h) pointerSlides_row_tie rfl ⟨rfl, rfl⟩ (by kernel_rfl) rfl
    (fun f fn hf hfn => by
      obtain rfl : f = 4 := Option.some.inj ((show Tryz.prog.funcNamed "widgetry/widgetrylaw35.PointerSlides" = some 4 by kernel_rfl).symm.trans hf) |>.symm
      obtain rfl : fn = Tryz.f4 := (Option.some.inj (Tryz.func4.symm.trans hfn)).symm
      exact ⟨by kernel_rfl, fun j t ht => by
        rw [Tryz.params4] at ht
        have hm : t ∈ [71, 71, 5] := by simpa using Array.mem_of_getElem? ht
        have hall : ([71, 71, 5].all fun u => !Tryz.prog.wantsStandIn u) = true := by kernel_rfl
        exact (show Tryz.prog.wantsStandIn t = false by simpa using List.all_eq_true.1 hall t hm)⟩)
    (by kernel_rfl)
#print axioms proved
end Go.Proofs.YtjefclbjjcglkaaGreatDoor.pointerSlides
