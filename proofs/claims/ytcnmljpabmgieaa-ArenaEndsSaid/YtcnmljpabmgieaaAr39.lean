/- The package of draws: an arena. -/
import Derived.Test.YtcnmljpabmgieaaAr38
import Derived.WalkKit
import Derived.WalkSpells
import Derived.WalkLawsBesides
import Derived.Deep.QuietTactic
import Derived.BigQuiet
import Derived.BigRegion
import Derived.Lib.Hide
import Derived.Deep.RegionWith
set_option linter.unusedSimpArgs false
set_option linter.unusedVariables false
namespace Go.Proofs.Ytcnmljpabmgieaa.R
open Go.RowKit
open G (SrcOk SrcIn Drawn drawn_heap arenaEvent_ok more_ok n_ok new_in)
theorem drawn_over {w w1 w2 : World} {S n a : Nat} (h1 : Drawn w S n a w1) (h2 : ∀ X : World, X.heap.size = w.heap.size → Ext X w1 → Ext X w2) : Drawn w S n a w2 := by
  obtain ⟨a1, d1, h, hn, rfl⟩ := h1
  obtain ⟨d2, rfl⟩ := h2 (w.setCell ⟨S, 1, none⟩ (.int .i64 a1)) (by simp) (Ext.ext (Ext.refl _) d1)
  exact ⟨a1, d2, h, hn, rfl⟩
structure ESt (w : World) (S m V : Nat) (A : Arn) (wr : World) : Prop where
  d : Drawn w S m 0 wr
  so : SrcOk w S m
  ar : ArAt wr V A
  v0 : w.heap.size < V
  r : wr.heap[w.heap.size]? = some (.cells #[.int .i64 0, .slice none 0 0, .bool false, .int .i64 0, .slice none 0 0, .bool false, .int .i64 0, .bool false] 24)
theorem ESt.src {w : World} {S m V : Nat} {A : Arn} {wr : World} (h : ESt w S m V A wr) : SrcOk wr S m := h.so.drawn h.d
theorem ESt.ne {w : World} {S m V : Nat} {A : Arn} {wr : World} (h : ESt w S m V A wr) : S ≠ V := by
  have := h.so.lt
  have := h.v0
  omega
theorem ESt.ext {w : World} {S m V : Nat} {A : Arn} {wr w' : World} (h : ESt w S m V A wr) (he : Ext wr w') : ESt w S m V A w' := ⟨h.d.ext he, h.so, h.ar.ext he, h.v0, heap_some_ext h.r he⟩
theorem ESt.drawn {w : World} {S m V a : Nat} {A : Arn} {wr w' : World} (h : ESt w S m V A wr) (hd : Drawn wr S m a w') : ESt w S m V A w' := by
  obtain ⟨la, lc, ha, hc, h1, h2, h3⟩ := h.ar
  have hs := h.so.lt
  exact ⟨h.d.trans hs hd, h.so, ⟨la, lc, ha, hc, drawn_heap hd h1 (fun e => h.ne e.symm), h2.drawn h.src hd, h3.drawn h.src hd⟩, h.v0, drawn_heap hd h.r (by omega)⟩
theorem ESt.put {w W W' : World} {S m V : Nat} {A B : Arn} {la ha : Option Addr} {lc hc : Nat} (st : ESt w S m V A W) (hg : W.grownBy W' (some V)) (hV : W'.heap[V]? = some (.cells #[.int .i64 (B).Members, .slice la (B).Left.length lc, .bool (B).Open, .int .i64 (B).Eager, .slice ha (B).Holds.length hc, .bool (B).Swept, .int .i64 (B).Winner, .bool (B).Done] 24))
    (o1 : OI 0 W la lc B.Left) (o2 : OI 0 W ha hc B.Holds) : ESt w S m V B W' := by
  have hVt : ∀ b, some V = some b → ∃ cur fr, W.heap[b]? = some (.cells cur 24 fr) := fun b e => by
    cases e
    obtain ⟨_, _, _, _, h, _⟩ := st.ar
    exact ⟨_, _, h⟩
  have hv := st.v0
  refine ⟨drawn_over st.d (fun X hX he => Ext.of_grown he hg (fun k e => by cases e; omega)), st.so, ⟨la, lc, ha, hc, hV, o1.grownA hg hVt, o2.grownA hg hVt⟩, st.v0, ?_⟩
  rw [hg.block w.heap.size (Array.getElem?_eq_some_iff.1 st.r).1 (fun e => by simp only [Option.some.injEq] at e; omega)]
  exact st.r
theorem rstep_at {W : World} {S m : Nat} {A : Arn} {la ha : Option Addr} {lc hc : Nat} (hs : SrcOk W S m) (h1 : OI 0 W la lc A.Left) (h2 : OI 0 W ha hc A.Holds) (hv : Valid A) (K M : Int) (X : World) (hd : Drawn W S m 0 X) :
    Calls Try.prog 23 #[.agg #[.int .i64 (A).Members, .slice la (A).Left.length lc, .bool (A).Open, .int .i64 (A).Eager, .slice ha (A).Holds.length hc, .bool (A).Swept, .int .i64 (A).Winner, .bool (A).Done], .agg #[.int .i64 K, .int .i64 M]] X fun e X' => ∃ (B : Arn) (vs : List Vd) (x : Int) (la' : Option Addr) (lc' : Nat) (ha' : Option Addr) (hc' : Nat) (va : Option Addr) (vc : Nat) (d : Grow),
      e = .returned (.tuple #[.agg #[.int .i64 (B).Members, .slice la' (B).Left.length lc', .bool (B).Open, .int .i64 (B).Eager, .slice ha' (B).Holds.length hc', .bool (B).Swept, .int .i64 (B).Winner, .bool (B).Done], .slice va vs.length vc, .int .i64 x]) ∧ Hid (step A ⟨K, M⟩ = (B, vs, x)) ∧ Hid (OI 0 (X.ext d) la' lc' B.Left) ∧ Hid (OI 0 (X.ext d) ha' hc' B.Holds) ∧ X' = X.ext d := by
  have := left_len hv
  have := holds_len hv
  refine (rStep_ok (fun w a c l => OI 0 w a c l) Rows.owns A K M la ha lc hc X (by omega) (by omega) (h1.drawn hs hd) (h2.drawn hs hd)).mono ?_
  rintro _ _ ⟨la', lc', ha', hc', va, vc, rfl, ⟨d, rfl⟩, u1, u2, _⟩
  exact ⟨_, _, _, la', lc', ha', hc', va, vc, d, rfl, Lib.hid rfl, Lib.hid u1, Lib.hid u2, rfl⟩
theorem estep_fin {w W wx : World} {S m V T : Nat} {A B : Arn} {la ha : Option Addr} {lc hc : Nat} (st : ESt w S m V A W) (hd : Drawn W S m 0 wx) (hT : wx.heap[T]? = some (.cells #[.int .i64 (B).Members, .slice la (B).Left.length lc, .bool (B).Open, .int .i64 (B).Eager, .slice ha (B).Holds.length hc, .bool (B).Swept, .int .i64 (B).Winner, .bool (B).Done] 24)) (h1 : OI 0 wx la lc B.Left) (h2 : OI 0 wx ha hc B.Holds) (hW : W.heap.size ≤ T) :
    ESt w S m V A wx ∧ ArAt wx T B ∧ w.heap.size ≤ T ∧ T ≠ V := by
  have hs := st.d.size
  obtain ⟨la0, lc0, ha0, hc0, hV, _⟩ := st.ar
  have hVl := (Array.getElem?_eq_some_iff.1 hV).1
  exact ⟨st.drawn hd, ⟨la, lc, ha, hc, hT, h1, h2⟩, by omega, by omega⟩
set_option maxRecDepth 100000 in
set_option maxHeartbeats 4000000 in
theorem arena_ok (w : World) (S m : Nat) (h : SrcOk w S m) :
    Calls Try.prog 22 #[.pointer (some ⟨S, 0, none⟩)] w fun e w' => ∃ (A : Arn) (la : Option Addr) (lc : Nat) (ha : Option Addr) (hc : Nat), e = .returned (.agg #[.int .i64 (A).Members, .slice la (A).Left.length lc, .bool (A).Open, .int .i64 (A).Eager, .slice ha (A).Holds.length hc, .bool (A).Swept, .int .i64 (A).Winner, .bool (A).Done]) ∧ Valid A ∧ Drawn w S m 0 w' ∧ OI 0 w' la lc A.Left ∧ OI 0 w' ha hc A.Holds := by
  have hS := h.lt
  have hN := Lib.hid fun w' (hd : Drawn w S m 0 w') => n_ok w' S m (h.drawn hd) 6 (by omega)
  have hd0 := Lib.hid (Drawn.refl2 h)
  have hso := Lib.hid h
  clear h
  go_enter Try.func22, Try.ntmps22
  go_wp2_with fail
  refine Calls.mono (hN.out _ ?_) ?_
  · exact hd0.out.ext (by (repeat (first | exact Ext.refl _ | assumption | refine Ext.alloc ?_ _ | refine Ext.ext ?_ _ | refine Ext.drew ?_)))
  rintro _ _ ⟨x, rfl, x0, x6, a1, d1, _, q1, rfl⟩
  obtain ⟨n, rfl⟩ : ∃ n : Nat, x = n := ⟨x.toNat, by omega⟩
  clear hN
  have hv := newA_valid n (by omega) (by omega)
  have hA := fun w' => rNew_ok n w' (by omega)
  obtain ⟨A, hAe⟩ : ∃ A, A = (newA n).1 := ⟨_, rfl⟩
  have hAh : A.Holds = [] := by rw [hAe]; unfold newA; rw [if_neg (by omega)]
  simp only [← hAe] at hA hv
  replace hA := Lib.hid hA
  replace hv := Lib.hid hv
  replace hAh := Lib.hid hAh
  clear hAe
  go_wp2_with fail
  refine Calls.mono (hA.out _) ?_
  rintro _ _ ⟨la, lc, rfl, ⟨d2, rfl⟩, oL⟩
  replace oL := Lib.hid oL
  clear hA
  go_upto_region 2 with fail
  refine gen_at5 (p := fun W => Code.wp _ _ _ _ W) ?_
  intro W hW
  have st : Hid (ESt w S m (w.heap.size + 1 + d1.size + d2.size) A W) := Lib.hid (by
    refine ⟨?_, hso.out, ⟨la, lc, none, 0, by rw [hW]; exact heap_new _ _ (by simp), by rw [hW]; exact oL.out.ext (by (repeat (first | exact Ext.refl _ | assumption | refine Ext.alloc ?_ _ | refine Ext.ext ?_ _ | refine Ext.drew ?_))), by rw [hAh.out]; exact OI.nil _ _⟩, by omega, by rw [hW]; exact heap_alloc1 (heap_ext1 (heap_ext1 (heap_new _ _ (by simp))))⟩
    rw [hW]
    (first | (apply Drawn.of_ext; (focus assumption); (repeat (first | exact Ext.refl _ | assumption | refine Ext.alloc ?_ _ | refine Ext.ext ?_ _ | refine Ext.drew ?_)); done) | (refine hd0.out.ext ?_; (repeat (first | exact Ext.refl _ | assumption | refine Ext.alloc ?_ _ | refine Ext.ext ?_ _ | refine Ext.drew ?_)); done)))
  obtain ⟨V, hV0⟩ : ∃ V, w.heap.size + 1 + d1.size + d2.size = V := ⟨_, rfl⟩
  rw [hV0] at st
  simp only [hV0]
  have hN2 := Lib.hid (n_ok W S m st.out.src 10 (by omega))
  clear hW hV0 oL hAh hd0 hso q1
  go_wp2_with fail
  refine Calls.mono hN2.out ?_
  rintro _ W1 ⟨x, rfl, x0, x10, hd⟩
  obtain ⟨i0, rfl⟩ : ∃ n : Nat, x = n := ⟨x.toNat, by omega⟩
  replace st := Lib.hid (st.out.drawn hd)
  clear hd hN2
  go_wp2
  go_loopg [5, 6, 7, 8] i0 (fun g v5 v6 v7 v8 wr => ∃ (i : Nat) (A : Arn), v5 = .int .i64 i ∧ i ≤ 9 ∧ g = i ∧ Hid (Valid A) ∧ Hid (ESt w S m V A wr))
  case atStart => exact ⟨i0, A, rfl, by omega, rfl, hv, st⟩
  case round =>
    clear hv st
    obtain ⟨i, A, rfl, hi, hgm, hv, st⟩ := hrel
    obtain ⟨W, rfl⟩ : ∃ W, W = wr := ⟨_, rfl⟩
    replace hgm := Lib.hid hgm
    obtain ⟨la, lc, ha, hc, hV, oL, oH⟩ := st.out.ar
    rcases i with _ | j
    · clear hgm hi
      have hR := Lib.hid st.out.r
      obtain ⟨y0, y1, y2, y3, y4, y5, y6, y7⟩ := cells_at8 hV
      obtain ⟨z0, z1, z2, z3, z4, z5, z6, z7⟩ := cells_at8 hR.out
      have yl := (Array.getElem?_eq_some_iff.1 hV).1
      have zl := (Array.getElem?_eq_some_iff.1 hR.out).1
      have zf := heap_thaw hR.out
      have hvw := st.out.v0
      obtain ⟨pg, ph⟩ := put8 (v0 := .int .i64 A.Members) (v1 := .slice la A.Left.length lc) (v2 := .bool A.Open) (v3 := .int .i64 A.Eager) (v4 := .slice ha A.Holds.length hc) (v5 := .bool A.Swept) (v6 := .int .i64 A.Winner) (v7 := .bool A.Done) hR.out
      obtain ⟨W8, hW8⟩ : ∃ W8, W8 = (((((((W.setCell ⟨w.heap.size, 0, none⟩ (.int .i64 A.Members)).setCell ⟨w.heap.size, 1, none⟩ (.slice la A.Left.length lc)).setCell ⟨w.heap.size, 2, none⟩ (.bool A.Open)).setCell ⟨w.heap.size, 3, none⟩ (.int .i64 A.Eager)).setCell ⟨w.heap.size, 4, none⟩ (.slice ha A.Holds.length hc)).setCell ⟨w.heap.size, 5, none⟩ (.bool A.Swept)).setCell ⟨w.heap.size, 6, none⟩ (.int .i64 A.Winner)).setCell ⟨w.heap.size, 7, none⟩ (.bool A.Done) := ⟨_, rfl⟩
      rw [← hW8] at pg ph
      have hRt : ∀ b, some w.heap.size = some b → ∃ cur fr, W.heap[b]? = some (.cells cur 24 fr) := fun b e => by cases e; exact ⟨_, _, hR.out⟩
      have f1 := Lib.hid (oL.grownA pg hRt)
      have f2 := Lib.hid (oH.grownA pg hRt)
      have f3 := Lib.hid (drawn_over st.out.d (w2 := W8) (fun X hX he => Ext.of_grown he pg (fun k e => by cases e; omega)))
      obtain ⟨w0, w1, w2, w3, w4, w5, w6, w7⟩ := cells_at8 ph
      replace hW8 := Lib.hid hW8
      clear ph pg hRt hV oL oH
      go_wp2
      rw [← hW8.out]
      refine bodyPost_ret (v := ?_) (by simp [results, Try.results22, go_sem, w0, w1, w2, w3, w4, w5, w6, w7]; rfl) rfl ?_
      exact ⟨A, la, lc, ha, hc, rfl, hv.out, f3.out, f1.out, f2.out⟩
    have d0 : decide (0 < ((j + 1 : Nat) : Int)) = true := decide_eq_true (by omega)
    have d0' : decide (0 < (j : Int) + 1) = true := decide_eq_true (by omega)
    have hev := Lib.hid (event_at st.out.src)
    have hst := Lib.hid (rstep_at st.out.src oL oH hv.out)
    have hk : Hid (∀ X, Drawn W S m 0 X → _) := Lib.hid fun X hd => cells_at8 (drawn_heap hd hV (fun e => st.out.ne e.symm))
    have hd0 := Lib.hid (G.Drawn.refl2 st.out.src)
    have hSV := st.out.ne
    have hSl := st.out.src.lt
    have hVl := (Array.getElem?_eq_some_iff.1 hV).1
    have hk0 := hk.out W hd0.out
    clear hV oL oH
    obtain ⟨y0, y1, y2, y3, y4, y5, y6, y7⟩ := hk0
    go_upto_region 5 with fail
    clear d0 d0'
    go_cut [6, 7, 8] (fun v6 v7 v8 wx => ∃ (K M : Int) (B : Arn) (vs : List Vd) (x : Int) (T : Nat), v6 = .pointer (some ⟨T, 0, none⟩) ∧ v8 = .int .i64 x ∧ Hid (step A ⟨K, M⟩ = (B, vs, x)) ∧ Hid (ESt w S m V A wx) ∧ Hid (ArAt wx T B) ∧ Hid (w.heap.size ≤ T) ∧ Hid (T ≠ V))
    case first =>
      go_region_held3 (fun X => X.cell? ⟨V, 0, none⟩ = some (.int .i64 A.Members) ∧ X.cell? ⟨V, 1, none⟩ = some (.slice la A.Left.length lc) ∧ X.cell? ⟨V, 2, none⟩ = some (.bool A.Open) ∧ X.cell? ⟨V, 3, none⟩ = some (.int .i64 A.Eager) ∧ X.cell? ⟨V, 4, none⟩ = some (.slice ha A.Holds.length hc) ∧ X.cell? ⟨V, 5, none⟩ = some (.bool A.Swept) ∧ X.cell? ⟨V, 6, none⟩ = some (.int .i64 A.Winner) ∧ X.cell? ⟨V, 7, none⟩ = some (.bool A.Done))
        (first | exact ⟨y0, y1, y2, y3, y4, y5, y6, y7⟩ | (refine hk.out _ ?_; (first | (apply Drawn.of_ext; (focus assumption); (repeat (first | exact Ext.refl _ | assumption | refine Ext.alloc ?_ _ | refine Ext.ext ?_ _ | refine Ext.drew ?_)); done) | (refine hd0.out.ext ?_; (repeat (first | exact Ext.refl _ | assumption | refine Ext.alloc ?_ _ | refine Ext.ext ?_ _ | refine Ext.drew ?_)); done))))
        (first
          | (go_at_call 20; refine Calls.mono (hev.out _ ?_) ?_; (focus (first | (apply Drawn.of_ext; (focus assumption); (repeat (first | exact Ext.refl _ | assumption | refine Ext.alloc ?_ _ | refine Ext.ext ?_ _ | refine Ext.drew ?_)); done) | (refine hd0.out.ext ?_; (repeat (first | exact Ext.refl _ | assumption | refine Ext.alloc ?_ _ | refine Ext.ext ?_ _ | refine Ext.drew ?_)); done))); rintro _ _ ⟨K, M, a1, d1, rfl, q1, rfl⟩)
          | (go_at_call 23; refine Calls.mono (hst.out _ _ _ ?_) ?_; (focus (first | (apply Drawn.of_ext; (focus assumption); (repeat (first | exact Ext.refl _ | assumption | refine Ext.alloc ?_ _ | refine Ext.ext ?_ _ | refine Ext.drew ?_)); done) | (refine hd0.out.ext ?_; (repeat (first | exact Ext.refl _ | assumption | refine Ext.alloc ?_ _ | refine Ext.ext ?_ _ | refine Ext.drew ?_)); done))); rintro _ _ ⟨B, vs, x, la', lc', ha', hc', va, vc, d2, rfl, hq, u1, u2, rfl⟩))
      all_goals
        clear hev hst hk
        try clear hHeld
      focus
        have hT : ((((W.setCell ⟨S, 1, none⟩ (.int .i64 a1)).drew.ext d1).ext d2).alloc (.cells #[.int .i64 (B).Members, .slice la' (B).Left.length lc', .bool (B).Open, .int .i64 (B).Eager, .slice ha' (B).Holds.length hc', .bool (B).Swept, .int .i64 (B).Winner, .bool (B).Done] 24)).heap[W.heap.size + d1.size + d2.size]? = some (.cells #[.int .i64 (B).Members, .slice la' (B).Left.length lc', .bool (B).Open, .int .i64 (B).Eager, .slice ha' (B).Holds.length hc', .bool (B).Swept, .int .i64 (B).Winner, .bool (B).Done] 24) := heap_new _ _ (by simp)
        have hD : Drawn W S m 0 ((((W.setCell ⟨S, 1, none⟩ (.int .i64 a1)).drew.ext d1).ext d2).alloc (.cells #[.int .i64 (B).Members, .slice la' (B).Left.length lc', .bool (B).Open, .int .i64 (B).Eager, .slice ha' (B).Holds.length hc', .bool (B).Swept, .int .i64 (B).Winner, .bool (B).Done] 24)) := by (first | (apply Drawn.of_ext; (focus assumption); (repeat (first | exact Ext.refl _ | assumption | refine Ext.alloc ?_ _ | refine Ext.ext ?_ _ | refine Ext.drew ?_)); done) | (refine hd0.out.ext ?_; (repeat (first | exact Ext.refl _ | assumption | refine Ext.alloc ?_ _ | refine Ext.ext ?_ _ | refine Ext.drew ?_)); done))
        have hf := Lib.hid (estep_fin st.out hD hT (OI.ext u1.out (by (repeat (first | exact Ext.refl _ | assumption | refine Ext.alloc ?_ _ | refine Ext.ext ?_ _ | refine Ext.drew ?_)))) (OI.ext u2.out (by (repeat (first | exact Ext.refl _ | assumption | refine Ext.alloc ?_ _ | refine Ext.ext ?_ _ | refine Ext.drew ?_)))) (by omega))
        clear hT hD
        go_wp2
        go_meet
        case rel =>
          exact ⟨K, M, B, vs, x, _, rfl, rfl, hq, Lib.hid hf.out.1, Lib.hid hf.out.2.1, Lib.hid hf.out.2.2.1, Lib.hid hf.out.2.2.2⟩
      focus
        have hz : ((((W.setCell ⟨S, 1, none⟩ (.int .i64 a1)).drew.ext d1).alloc (.cells #[.int .i64 0, .slice none 0 0, .bool false, .int .i64 0, .slice none 0 0, .bool false, .int .i64 0, .bool false] 24)).ext d2).heap[W.heap.size + d1.size]? = some (.cells #[.int .i64 0, .slice none 0 0, .bool false, .int .i64 0, .slice none 0 0, .bool false, .int .i64 0, .bool false] 24) := heap_ext1 (heap_new _ _ (by simp))
        have hT : ((((W.setCell ⟨S, 1, none⟩ (.int .i64 a1)).drew.ext d1).alloc (.cells #[.int .i64 (B).Members, .slice la' (B).Left.length lc', .bool (B).Open, .int .i64 (B).Eager, .slice ha' (B).Holds.length hc', .bool (B).Swept, .int .i64 (B).Winner, .bool (B).Done] 24)).ext d2).heap[W.heap.size + d1.size]? = some (.cells #[.int .i64 (B).Members, .slice la' (B).Left.length lc', .bool (B).Open, .int .i64 (B).Eager, .slice ha' (B).Holds.length hc', .bool (B).Swept, .int .i64 (B).Winner, .bool (B).Done] 24) := heap_ext1 (heap_new _ _ (by simp))
        have hD : Drawn W S m 0 ((((W.setCell ⟨S, 1, none⟩ (.int .i64 a1)).drew.ext d1).alloc (.cells #[.int .i64 (B).Members, .slice la' (B).Left.length lc', .bool (B).Open, .int .i64 (B).Eager, .slice ha' (B).Holds.length hc', .bool (B).Swept, .int .i64 (B).Winner, .bool (B).Done] 24)).ext d2) := by (first | (apply Drawn.of_ext; (focus assumption); (repeat (first | exact Ext.refl _ | assumption | refine Ext.alloc ?_ _ | refine Ext.ext ?_ _ | refine Ext.drew ?_)); done) | (refine hd0.out.ext ?_; (repeat (first | exact Ext.refl _ | assumption | refine Ext.alloc ?_ _ | refine Ext.ext ?_ _ | refine Ext.drew ?_)); done))
        have hL : Like (fun k => k = W.heap.size + d1.size) ((((W.setCell ⟨S, 1, none⟩ (.int .i64 a1)).drew.ext d1).alloc (.cells #[.int .i64 0, .slice none 0 0, .bool false, .int .i64 0, .slice none 0 0, .bool false, .int .i64 0, .bool false] 24)).ext d2) ((((W.setCell ⟨S, 1, none⟩ (.int .i64 a1)).drew.ext d1).alloc (.cells #[.int .i64 (B).Members, .slice la' (B).Left.length lc', .bool (B).Open, .int .i64 (B).Eager, .slice ha' (B).Holds.length hc', .bool (B).Swept, .int .i64 (B).Winner, .bool (B).Done] 24)).ext d2) := by (repeat (first | exact Like.refl _ _ | refine Like.ext ?_ _ | refine Like.alloc ?_ _ | refine Like.swap ?_ (by simp <;> omega) _ _))
        have hf := Lib.hid (estep_fin st.out hD hT (OI.turnA u1.out hL hz) (OI.turnA u2.out hL hz) (by omega))
        clear hT hD hL hz
        go_wp2
        go_meet
        case rel =>
          exact ⟨K, M, B, vs, x, _, rfl, rfl, hq, Lib.hid hf.out.1, Lib.hid hf.out.2.1, Lib.hid hf.out.2.2.1, Lib.hid hf.out.2.2.2⟩
      focus
        have hz : ((((W.setCell ⟨S, 1, none⟩ (.int .i64 a1)).alloc (.cells #[.int .i64 0, .slice none 0 0, .bool false, .int .i64 0, .slice none 0 0, .bool false, .int .i64 0, .bool false] 24)).drew.ext d1).ext d2).heap[W.heap.size]? = some (.cells #[.int .i64 0, .slice none 0 0, .bool false, .int .i64 0, .slice none 0 0, .bool false, .int .i64 0, .bool false] 24) := heap_ext1 (heap_ext1 (heap_drew1 (heap_new _ _ (by simp))))
        have hT : ((((W.setCell ⟨S, 1, none⟩ (.int .i64 a1)).alloc (.cells #[.int .i64 (B).Members, .slice la' (B).Left.length lc', .bool (B).Open, .int .i64 (B).Eager, .slice ha' (B).Holds.length hc', .bool (B).Swept, .int .i64 (B).Winner, .bool (B).Done] 24)).drew.ext d1).ext d2).heap[W.heap.size]? = some (.cells #[.int .i64 (B).Members, .slice la' (B).Left.length lc', .bool (B).Open, .int .i64 (B).Eager, .slice ha' (B).Holds.length hc', .bool (B).Swept, .int .i64 (B).Winner, .bool (B).Done] 24) := heap_ext1 (heap_ext1 (heap_drew1 (heap_new _ _ (by simp))))
        have hD : Drawn W S m 0 ((((W.setCell ⟨S, 1, none⟩ (.int .i64 a1)).alloc (.cells #[.int .i64 (B).Members, .slice la' (B).Left.length lc', .bool (B).Open, .int .i64 (B).Eager, .slice ha' (B).Holds.length hc', .bool (B).Swept, .int .i64 (B).Winner, .bool (B).Done] 24)).drew.ext d1).ext d2) := by (first | (apply Drawn.of_ext; (focus assumption); (repeat (first | exact Ext.refl _ | assumption | refine Ext.alloc ?_ _ | refine Ext.ext ?_ _ | refine Ext.drew ?_)); done) | (refine hd0.out.ext ?_; (repeat (first | exact Ext.refl _ | assumption | refine Ext.alloc ?_ _ | refine Ext.ext ?_ _ | refine Ext.drew ?_)); done))
        have hL : Like (fun k => k = W.heap.size) ((((W.setCell ⟨S, 1, none⟩ (.int .i64 a1)).alloc (.cells #[.int .i64 0, .slice none 0 0, .bool false, .int .i64 0, .slice none 0 0, .bool false, .int .i64 0, .bool false] 24)).drew.ext d1).ext d2) ((((W.setCell ⟨S, 1, none⟩ (.int .i64 a1)).alloc (.cells #[.int .i64 (B).Members, .slice la' (B).Left.length lc', .bool (B).Open, .int .i64 (B).Eager, .slice ha' (B).Holds.length hc', .bool (B).Swept, .int .i64 (B).Winner, .bool (B).Done] 24)).drew.ext d1).ext d2) := Like.ext (Like.ext (like_drew (Like.swap (Like.refl _ _) (by simp) _ _)) _) _
        have hf := Lib.hid (estep_fin st.out hD hT (OI.turnA u1.out hL hz) (OI.turnA u2.out hL hz) (by omega))
        clear hT hD hL hz
        go_wp2
        go_meet
        case rel =>
          exact ⟨K, M, B, vs, x, _, rfl, rfl, hq, Lib.hid hf.out.1, Lib.hid hf.out.2.1, Lib.hid hf.out.2.2.1, Lib.hid hf.out.2.2.2⟩
    case rest =>
      clear y0 y1 y2 y3 y4 y5 y6 y7 hev hst hk hd0 hSV hSl hVl
      clear st
      obtain ⟨K, M, B, vs, x, T, rfl, rfl, hq, st, hT, hwT, hTV⟩ := hcut
      obtain ⟨W2, rfl⟩ : ∃ W, W = wc := ⟨_, rfl⟩
      rcases step_cases A ⟨K, M⟩ with ⟨c1, c2, c3⟩ | ⟨c1, c2, c3⟩
      · rw [hq.out] at c1 c2 c3
        simp only at c1 c2 c3
        have hxb : (x == 0) = false := by simpa using c1
        clear c1 c2 c3 hq hT
        go_wp2
        go_roundg j
        case measure => have := hgm.out; omega
        case rel => exact ⟨j, A, by go_num, by omega, rfl, hv, st⟩
      · rw [hq.out] at c2 c3
        simp only at c2 c3
        subst c2
        have hvB := Lib.hid c3.valid
        obtain ⟨la1, lc1, ha1, hc1, hT1, o1, o2⟩ := hT.out
        obtain ⟨y0, y1, y2, y3, y4, y5, y6, y7⟩ := cells_at8 hT1
        obtain ⟨la0, lc0, ha0, hc0, hV, -, -⟩ := st.out.ar
        obtain ⟨z0, z1, z2, z3, z4, z5, z6, z7⟩ := cells_at8 hV
        have yl := (Array.getElem?_eq_some_iff.1 hV).1
        have yl2 := (Array.getElem?_eq_some_iff.1 hT1).1
        have yf := heap_thaw hV
        replace hV := Lib.hid hV
        replace o1 := Lib.hid o1
        replace o2 := Lib.hid o2
        clear hT hT1 c1 c3
        go_upto_region 4 with fail
        obtain ⟨pg, ph⟩ := put8 (v0 := .int .i64 B.Members) (v1 := .slice la1 B.Left.length lc1) (v2 := .bool B.Open) (v3 := .int .i64 B.Eager) (v4 := .slice ha1 B.Holds.length hc1) (v5 := .bool B.Swept) (v6 := .int .i64 B.Winner) (v7 := .bool B.Done) hV.out
        clear y0 y1 y2 y3 y4 y5 y6 y7 z0 z1 z2 z3 z4 z5 z6 z7 yf yl yl2
        (refine gen_at5 (p := fun W => Code.wp _ _ _ _ W) ?_)
        intro W hW
        rw [← hW] at pg ph
        clear hW
        replace st := Lib.hid (st.out.put pg ph o1.out o2.out)
        clear pg ph hV o1 o2
        go_wp2
        go_roundg j
        case measure => have := hgm.out; omega
        case rel => exact ⟨j, B, by go_num, by omega, rfl, hvB, st⟩
end Go.Proofs.Ytcnmljpabmgieaa.R
