/-
  StyleInherits: whatever the input, the law returns true and leaves its arguments alone. No condition.
-/
import Derived.Test.YtojkihhnioeggaaDoorBC
import Derived.Test.YtojkihhnioeggaaDoorIn3
import Derived.Test.YtojkihhnioeggaaDoorTie
import Derived.Test.YtojkihhnioeggaaDoorCards
import Derived.WalkKit
import Derived.ProofKit
import Derived.OpenShut
import Derived.Lay
import Derived.LaidOnce
import Derived.SevenTiedAt
import Derived.Deep.Slices
import Derived.Deep.Strs
import Derived.WideKeyArgs
import Derived.Test.YtojkihhnioeggaaDoorBD
set_option linter.unusedVariables false
set_option linter.unusedSimpArgs false
namespace Go.Proofs.YtojkihhnioeggaaDoor.styleInherits
open Go.ChangeShapes Go.WideShapes Go.ChangeAt Go.RowKit Go.Deep Go.Bm Go.Proofs.YtojkihhnioeggaaDoor.S
theorem own : ownKnob Tryd.prog.godebug = none := by kernel_rfl
theorem laidOut : laidOutB Tryd.prog = true := by kernel_rfl
theorem wt3 (n : Nat) (l : List CV) (h : WT E n 3 l) : ∃ x : Int, l = eI64 x := by
  obtain ⟨i, _, rfl⟩ := WT.int (by kernel_rfl : E.ti 3 = some ⟨.int .i64, 1, 8, [.int .i64 0]⟩) h
  exact ⟨i, rfl⟩
theorem wt37 (n : Nat) (l : List CV) (h : WT E n 37 l) : ∃ x : (List Int), l = (eL eI64) x := by
  obtain ⟨m, L, _, rfl, hk⟩ := WT.sl (by kernel_rfl : E.ti 37 = some ⟨.sl 3, 1, 24, [.slice none 0 0]⟩) h
  obtain ⟨l, rfl, _⟩ := list_of (enc := eI64) (p := fun _ => True) L fun x hx => let ⟨a, ha⟩ := wt3 m x (hk x hx); ⟨a, trivial, ha⟩
  exact ⟨l, rfl⟩
def laid : List (String × DataW Unit) := [("unicode/utf8.acceptRanges", Rows.laid_unicode_utf8_acceptRanges), ("widgetry/style.properties", Rows.laid_widgetry_style_properties), ("unicode/utf8.first", Rows.laid_unicode_utf8_first)]
theorem globs_ok {W : World} (h : laidMet Tryd.prog laid W) : E.globOk (wmu W) := by
  intro g l hg
  have hg : globs g = some l := hg
  unfold globs at hg
  split at hg
  · obtain rfl := Option.some.inj hg
    exact glob_den' (E := E) (name := "widgetry/style.properties") (g := 0) (T := 85) (d := Rows.laid_widgetry_style_properties) (List.map (fun x : CV => match x with | .v y => y | _ => .bool false) (List.flatten (List.map eGproperty tab_widgetry_style_properties))) 8 8 (Lib.laidMet.reads h (by simp [laid])) (by kernel_rfl) (by kernel_rfl) (by kernel_rfl) (by kernel_rfl) (by kernel_rfl)
  · obtain rfl := Option.some.inj hg
    exact glob_den' (E := E) (name := "unicode/utf8.first") (g := 1) (T := 181) (d := Rows.laid_unicode_utf8_first) (List.map (fun x : CV => match x with | .v y => y | _ => .bool false) (List.flatten (List.map eU8 tab_unicode_utf8_first))) 8 8 (Lib.laidMet.reads h (by simp [laid])) (by kernel_rfl) (by kernel_rfl) (by kernel_rfl) (by kernel_rfl) (by kernel_rfl)
  · obtain rfl := Option.some.inj hg
    exact glob_den' (E := E) (name := "unicode/utf8.acceptRanges") (g := 2) (T := 184) (d := Rows.laid_unicode_utf8_acceptRanges) (List.map (fun x : CV => match x with | .v y => y | _ => .bool false) (List.flatten (List.map eGacceptRange tab_unicode_utf8_acceptRanges))) 8 8 (Lib.laidMet.reads h (by simp [laid])) (by kernel_rfl) (by kernel_rfl) (by kernel_rfl) (by kernel_rfl) (by kernel_rfl)
  · cases hg
set_option maxRecDepth 100000 in
theorem lifted (os : Os) (started : os.Started) (H : Type) (enc : TypeId × Value → H) :
    ReturnsInHanded {} Tryd.checked os 6 .any (fun w args => (Rows.styleInheritsSpec.pre enc Tryd.prog Tryd.f6 [] false w args ∧ laidMetH Tryd.prog laid w) ∧ sizedMet enc Tryd.prog Tryd.f6 (OpenSpec.ofChange Rows.styleInheritsSpec) false w args)
      (Rows.styleInheritsSpec.post enc Tryd.prog Tryd.f6 false true false false) := by
  refine returnsInHanded_of_change_and (C := Tryd.checked) (X := fun w _ => laidMetH Tryd.prog laid w) (fun _ _ _ hh h => h.of_heap hh) own started (by kernel_rfl) Tryd.func6
    (ChangeSpec.witness_shaped (enc := enc) (C := Tryd.checked) (os := os) (X := fun w _ => laidMetH Tryd.prog laid w) false (World.laidAll Tryd.prog os laid) #[.slice none 0 0] 8 (World.laidAll_os _ _ _)
      (World.shaped_of_ZipB (by kernel_rfl) (by kernel_rfl)) (by kernel_rfl) (by kernel_rfl) (by kernel_rfl)
      (by rw [MakeChecks.laidMetH_plain _ _ _ (by kernel_rfl)]; exact laidMet_laidAll _ (by kernel_rfl) (by kernel_rfl))) ?_
  intro W base args ds gs before hval0 hW _ _ hL _
  have hval : ∀ (j : Nat) t v, Tryd.f6.params[j]? = some t → args[j]? = some v → Value.okWide Tryd.prog W .any base t v := hval0
  have hW' := hW
  obtain ⟨p, q, hA0, hV, rfl, _, _⟩ := hW
  have hA : DataW.TrodAll enc Tryd.prog W 0 (fun _ => true) true Tryd.f6.params.toList args.toList ds p := hA0
  rw [Tryd.params6] at hA hval
  obtain ⟨v0, vs0, d0, ds0, p0, q0, hargs, rfl, rfl, h0, r0⟩ := trodAll_cons hA
  obtain ⟨rfl, rfl, rfl⟩ := trodAll_nil r0
  obtain rfl : args = #[v0] := by cases args; simp_all
  obtain ⟨rfl, rfl⟩ := trodVars_none hV
  have k0 := h0
  have lt0 : ∀ x ∈ p0, x.block < W.heap.size := by obtain ⟨m, hm⟩ := k0; exact DataW.trod_lt m _ _ _ hm
  obtain ⟨s0, n0, c0, rfl⟩ := okWide_slice Tryd.underlying37 (hval 0 37 v0 rfl rfl)
  obtain ⟨m0, l0, wt0, dn0⟩ : ∃ m l, WT E m 37 l ∧ Dens (wmu W) l [.slice s0 n0 c0] := by
    obtain ⟨m, hm⟩ := h0
    obtain ⟨l, y, z⟩ := open_trod (E := E) (S := [37, 3]) (by kernel_rfl) m 37 _ _ (by kernel_rfl) hm
    exact ⟨m, l, y, z⟩
  obtain ⟨a0, rfl⟩ := wt37 m0 l0 wt0
  clear hA0 hval0
  simp only [List.append_nil] at hW'
  rw [MakeChecks.laidMetH_plain _ _ _ (by kernel_rfl)] at hL
  refine (law_calls (E := E) (F := 6) (vs := [.slice s0 n0 c0]) (fun _ => default) (law17_StyleInherits_ok 20000 _ true (inherits_true a0)) (globs_ok hL) (denArgs_cons (dens_one dn0) denArgs_nil)).mono fun e W' ⟨he, hb⟩ => ?_
  subst he
  have hargs : ∃ pa, DataW.TrodAll enc Tryd.prog W' 0 (fun b => decide (b < W.heap.size)) true Tryd.f6.params.toList [.slice s0 n0 c0] [d0] pa ∧ pa = p0 := by
    have hk0 := WideElems.Trod_stays (sp' := fun b => decide (b < W.heap.size)) laidOut (by kernel_rfl) (of_decide_eq_true (by kernel_rfl)) k0 (fun x hx => hb.same (lt0 x hx)) (fun x hx => by simpa using lt0 x hx)
    rw [Tryd.params6]
    exact ⟨_, (trodAll_cons_mk hk0 trodAll_mk0), by simp⟩
  obtain ⟨pa, hargs, hpa⟩ := hargs
  exact ⟨_, rfl, _, _, _, [], pa, [], hW', trodAll_mk1 (shut_bool Tryd.underlying4 _), hargs, rfl, hb.frame _, fun h => by cases h⟩
theorem holds : Rows.StyleInheritsSaid :=
  OpenClaim.holds_of_wide 6 Tryd.f6 rfl rfl rfl rfl rfl rfl rfl ⟨rfl, rfl, rfl, rfl, rfl⟩ rfl rfl rfl rfl rfl (by kernel_rfl) Tryd.func6 (by kernel_rfl)
    (of_decide_eq_true (by kernel_rfl)) (by unfold Func.isWrapper; first | (rw [if_pos (by decide +kernel)]; kernel_rfl) | (rw [if_neg (by decide +kernel)]; exact ⟨rfl, rfl⟩))
    (fun os started H enc _ => lifted os started H enc)
theorem proved : Rows.StyleInheritsCardSaid :=
  Claim7.holds_tied_plain_at .later [] [.data, .data, .pinned] true (true, "ce31de6f2331eb01e61e01a45ab2401c7a234ef344cf5ac9b745038ff8eb78e1") false
    holds (fun _ h => by cases h) (by kernel_rfl) (fun _ h => by cases h) styleInherits_row_tie rfl ⟨rfl, rfl⟩ (by kernel_rfl) rfl
    (fun f fn hf hfn => by
      obtain rfl : f = 6 := Option.some.inj ((show Tryd.prog.funcNamed "widgetry/widgetrylaw17.StyleInherits" = some 6 by kernel_rfl).symm.trans hf) |>.symm
      obtain rfl : fn = Tryd.f6 := (Option.some.inj (Tryd.func6.symm.trans hfn)).symm
      exact ⟨by kernel_rfl, fun j t ht => by
        rw [Tryd.params6] at ht
        have hm : t ∈ [37] := by simpa using Array.mem_of_getElem? ht
        have hall : ([37].all fun u => !Tryd.prog.wantsStandIn u) = true := by kernel_rfl
        exact (show Tryd.prog.wantsStandIn t = false by simpa using List.all_eq_true.1 hall t hm)⟩)
    (by kernel_rfl)
#print axioms proved
end Go.Proofs.YtojkihhnioeggaaDoor.styleInherits
