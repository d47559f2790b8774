import Derived.Test.YtojkihhnioeggaaGreatDoorQEBC
import Derived.Test.YtojkihhnioeggaaGreatDoorQEGR2
import Derived.Test.YtojkihhnioeggaaGreatDoorQERe2
import Derived.Test.YtojkihhnioeggaaGreatDoorTie
import Derived.Test.YtojkihhnioeggaaGreatDoorCards
import Derived.WalkKit
import Derived.ProofKit
import Derived.OpenShut
import Derived.Lay
import Derived.LaidOnce
import Derived.SevenTiedAt
import Derived.Deep.Slices
import Derived.Deep.Strs
import Derived.WideKeyArgs
import Derived.Test.YtojkihhnioeggaaGreatDoorQEBD
set_option linter.all false
namespace Go.Proofs.YtojkihhnioeggaaGreatDoor.styleRestyles
open Go.ChangeShapes Go.WideShapes Go.ChangeAt Go.RowKit Go.Deep Go.Bm Go.Proofs.YtojkihhnioeggaaGreatDoor.S
theorem own : ownKnob Tryz.prog.godebug = none := by kernel_rfl
theorem laidOut : laidOutB Tryz.prog = true := by kernel_rfl
theorem wt3 (n : Nat) (l : List CV) (h : WT E n 3 l) : ∃ x : Int, l = aL x := by
 obtain ⟨i, _, rfl⟩ := WT.int (by kernel_rfl : E.ti 3 = some ⟨.int .i64, 1, 8, [.int .i64 0]⟩) h
 exact ⟨i, rfl⟩
theorem wt22 (n : Nat) (l : List CV) (h : WT E n 22 l) : ∃ x : (List Int), l = (eL aL) x := by
 obtain ⟨m, L, _, rfl, hk⟩ := WT.sl (by kernel_rfl : E.ti 22 = some ⟨.sl 3, 1, 24, [.slice none 0 0]⟩) h
 obtain ⟨l, rfl, _⟩ := Wc (enc := aL) (p := fun _ => True) L fun x hx => let ⟨a, ha⟩ := wt3 m x (hk x hx); ⟨a, trivial, ha⟩
 exact ⟨l, rfl⟩
def laid : List (String × DataW Unit) := [("unicode/utf8.acceptRanges", Rows.laid_unicode_utf8_acceptRanges), ("widgetry/style.properties", Rows.laid_widgetry_style_properties), ("unicode/utf8.first", Rows.laid_unicode_utf8_first)]
theorem Zg {W : World} (h : laidMet Tryz.prog laid W) : E.globOk (Lf W) := by
 intro g l hg
 have hg : Vd g = some l := hg
 unfold Vd at hg
 split at hg
 ·obtain rfl := Option.some.inj hg
  exact Dl (E := E) (name := "widgetry/style.properties") (g := 0) (T := 112) (d := Rows.laid_widgetry_style_properties) (List.map (fun x : CV => match x with | .v y => y | _ => .bool false) (List.flatten (List.map kF bE))) 8 8 (Lib.laidMet.reads h (by simp [laid])) (by kernel_rfl) (by kernel_rfl) (by kernel_rfl) (by kernel_rfl) (by kernel_rfl)
 ·obtain rfl := Option.some.inj hg
  exact Dl (E := E) (name := "unicode/utf8.first") (g := 1) (T := 204) (d := Rows.laid_unicode_utf8_first) (List.map (fun x : CV => match x with | .v y => y | _ => .bool false) (List.flatten (List.map Ye iW))) 8 8 (Lib.laidMet.reads h (by simp [laid])) (by kernel_rfl) (by kernel_rfl) (by kernel_rfl) (by kernel_rfl) (by kernel_rfl)
 ·obtain rfl := Option.some.inj hg
  exact Dl (E := E) (name := "unicode/utf8.acceptRanges") (g := 2) (T := 207) (d := Rows.laid_unicode_utf8_acceptRanges) (List.map (fun x : CV => match x with | .v y => y | _ => .bool false) (List.flatten (List.map kL dO))) 8 8 (Lib.laidMet.reads h (by simp [laid])) (by kernel_rfl) (by kernel_rfl) (by kernel_rfl) (by kernel_rfl) (by kernel_rfl)
 ·cases hg
set_option maxRecDepth 100000 in
theorem lifted (os : Os) (started : os.Started) (H : Type) (enc : TypeId × Value → H) :
  ReturnsInHanded {} Tryz.checked os 7 .any (fun w args => (Rows.styleRestylesSpec.pre enc Tryz.prog Tryz.f7 [] false w args ∧ laidMetH Tryz.prog laid w) ∧ sizedMet enc Tryz.prog Tryz.f7 (OpenSpec.ofChange Rows.styleRestylesSpec) false w args)
   (Rows.styleRestylesSpec.post enc Tryz.prog Tryz.f7 false true false false) := by
 refine returnsInHanded_of_change_and (C := Tryz.checked) (X := fun w _ => laidMetH Tryz.prog laid w) (fun _ _ _ hh h => h.of_heap hh) own started (by kernel_rfl) Tryz.func7
  (ChangeSpec.witness_shaped (enc := enc) (C := Tryz.checked) (os := os) (X := fun w _ => laidMetH Tryz.prog laid w) false (World.laidAll Tryz.prog os laid) #[.slice none 0 0] 8 (World.laidAll_os _ _ _)
   (World.shaped_of_ZipB (by kernel_rfl) (by kernel_rfl)) (by kernel_rfl) (by kernel_rfl) (by kernel_rfl)
   (by rw [MakeChecks.laidMetH_plain _ _ _ (by kernel_rfl)]; exact laidMet_laidAll _ (by kernel_rfl) (by kernel_rfl))) ?_
 intro W base args ds gs before hval0 hW _ _ hL _
 have hval : ∀ (j : Nat) t v, Tryz.f7.params[j]? = some t → args[j]? = some v → Value.okWide Tryz.prog W .any base t v := hval0
 have hW' := hW
 obtain ⟨p, q, hA0, hV, rfl, _, _⟩ := hW
 have hA : DataW.TrodAll enc Tryz.prog W 0 (fun _ => true) true Tryz.f7.params.toList args.toList ds p := hA0
 rw [Tryz.params7] at hA hval
 obtain ⟨v0, vs0, d0, ds0, p0, q0, hargs, rfl, rfl, h0, r0⟩ := trodAll_cons hA
 obtain ⟨rfl, rfl, rfl⟩ := trodAll_nil r0
 obtain rfl : args = #[v0] := by cases args; simp_all
 obtain ⟨rfl, rfl⟩ := trodVars_none hV
 have k0 := h0
 have lt0 : ∀ x ∈ p0, x.block < W.heap.size := by obtain ⟨m, hm⟩ := k0; exact DataW.trod_lt m _ _ _ hm
 obtain ⟨s0, n0, c0, rfl⟩ := okWide_slice Tryz.underlying22 (hval 0 22 v0 rfl rfl)
 obtain ⟨m0, l0, wt0, dn0⟩ : ∃ m l, WT E m 22 l ∧ qZ (Lf W) l [.slice s0 n0 c0] := by
  obtain ⟨m, hm⟩ := h0
  obtain ⟨l, y, z⟩ := yH (E := E) (S := [22, 3]) (by kernel_rfl) m 22 _ _ (by kernel_rfl) hm
  exact ⟨m, l, y, z⟩
 obtain ⟨a0, rfl⟩ := wt22 m0 l0 wt0
 clear hA0 hval0
 simp only [List.append_nil] at hW'
 rw [MakeChecks.laidMetH_plain _ _ _ (by kernel_rfl)] at hL
 refine (Xy (E := E) (F := 7) (vs := [.slice s0 n0 c0]) (fun _ => default) (vT 20000 _ true (Ka a0)) (Zg hL) (Ny (Yy dn0) Rh)).mono fun e W' ⟨he, hb⟩ => ?_
 subst he
 have hargs : ∃ pa, DataW.TrodAll enc Tryz.prog W' 0 (fun b => decide (b < W.heap.size)) true Tryz.f7.params.toList [.slice s0 n0 c0] [d0] pa ∧ pa = p0 := by
  have hk0 := WideElems.Trod_stays (sp' := fun b => decide (b < W.heap.size)) laidOut (by kernel_rfl) (of_decide_eq_true (by kernel_rfl)) k0 (fun x hx => hb.same (lt0 x hx)) (fun x hx => by simpa using lt0 x hx)
  rw [Tryz.params7]
  exact ⟨_, (trodAll_cons_mk hk0 trodAll_mk0), by simp⟩
 obtain ⟨pa, hargs, hpa⟩ := hargs
 exact ⟨_, rfl, _, _, _, [], pa, [], hW', trodAll_mk1 (shut_bool Tryz.underlying4 _), hargs, rfl, hb.frame _, fun h => by cases h⟩
theorem holds : Rows.StyleRestylesSaid :=
 OpenClaim.holds_of_wide 7 Tryz.f7 rfl rfl rfl rfl rfl rfl rfl ⟨rfl, rfl, rfl, rfl, rfl⟩ rfl rfl rfl rfl rfl (by kernel_rfl) Tryz.func7 (by kernel_rfl)
  (of_decide_eq_true (by kernel_rfl)) (by unfold Func.isWrapper; first | (rw [if_pos (by decide +kernel)]; kernel_rfl) | (rw [if_neg (by decide +kernel)]; exact ⟨rfl, rfl⟩))
  (fun os started H enc _ => lifted os started H enc)
theorem proved : Rows.StyleRestylesCardSaid :=
 Claim7.holds_tied_plain_at .later [] [.data, .data, .pinned] true (true, "e7dd86186ea438b61cf7304786d773f21024c89ad965a34949d9c5874f29de62") false
  holds (fun _ h => by cases h) (by kernel_rfl) (fun _ h => by cases h) styleRestyles_row_tie rfl ⟨rfl, rfl⟩ (by kernel_rfl) rfl
  (fun f fn hf hfn => by
   obtain rfl : f = 7 := Option.some.inj ((show Tryz.prog.funcNamed "widgetry/widgetrylaw17.StyleRestyles" = some 7 by kernel_rfl).symm.trans hf) |>.symm
   obtain rfl : fn = Tryz.f7 := (Option.some.inj (Tryz.func7.symm.trans hfn)).symm
   exact ⟨by kernel_rfl, fun j t ht => by
    rw [Tryz.params7] at ht
    have hm : t ∈ [22] := by simpa using Array.mem_of_getElem? ht
    have hall : ([22].all fun u => !Tryz.prog.wantsStandIn u) = true := by kernel_rfl
    exact (show Tryz.prog.wantsStandIn t = false by simpa using List.all_eq_true.1 hall t hm)⟩)
  (by kernel_rfl)
#print axioms proved
end Go.Proofs.YtojkihhnioeggaaGreatDoor.styleRestyles
