/- ArenaScript: the walk. -/
import Derived.Test.YtcnmljpabmgieaaAr23
import Derived.Test.YtcnmljpabmgieaaAr37
import Derived.WalkKit
import Derived.WalkSpells
import Derived.WalkLawsBesides
import Derived.Deep.QuietTactic
import Derived.BigQuiet
import Derived.BigRegion
import Derived.Lib.Hide
import Derived.Deep.RegionWith
set_option linter.unusedSimpArgs false
set_option linter.unusedVariables false
namespace Go.Proofs.Ytcnmljpabmgieaa.R
open Go.RowKit
open G (SrcOk SrcIn Drawn drawn_heap arenaEvent_ok more_ok n_ok new_in)
theorem LRep.put {B b : Nat} {w w' : World} {z : Array Value} {U : TypeId} {fr : Nat × Nat} {la : Option Addr} {lc : Nat} {l : List Int} (h : LRep B w la lc l) (hg : w.grownBy w' (some b)) (hb : w.heap[b]? = some (.cells z U fr)) (hU : (3 : TypeId) ≠ U) (hB : B ≤ b) : LRep B w' la lc l := by
  rcases h with ⟨X, h0, h1, h2⟩ | h
  · exact .inl ⟨X, h0, Ext.of_grown h1 hg (fun k e => by cases e; omega), h2⟩
  · exact .inr (row_kept h hg (e' := U) hU (fun k e => by cases e; exact ⟨_, _, hb⟩))
/-- an arena in a variable, its lists kept since a world of B blocks -/
def LAt (B : Nat) (W : World) (V : Nat) (a : Arn) : Prop := ∃ la lc ha hc, W.heap[V]? = some (.cells #[.int .i64 (a).Members, .slice la (a).Left.length lc, .bool (a).Open, .int .i64 (a).Eager, .slice ha (a).Holds.length hc, .bool (a).Swept, .int .i64 (a).Winner, .bool (a).Done] 24) ∧ LRep B W la lc a.Left ∧ LRep B W ha hc a.Holds
structure SSt (w : World) (S m V : Nat) (A : Arn) (wr : World) : Prop where
  si : SrcIn w S m wr
  ar : LAt w.heap.size wr V A
  v0 : w.heap.size ≤ V
theorem SSt.ne {w : World} {S m V : Nat} {A : Arn} {wr : World} (h : SSt w S m V A wr) : S ≠ V := by
  obtain ⟨cs, hs⟩ := h.si.ok.type
  obtain ⟨la, lc, ha, hc, hv, _⟩ := h.ar
  exact type_ne hs hv (by decide)
theorem SSt.ext {w : World} {S m V : Nat} {A : Arn} {wr w' : World} (h : SSt w S m V A wr) (he : Ext wr w') : SSt w S m V A w' := by
  obtain ⟨la, lc, ha, hc, h1, h2, h3⟩ := h.ar
  exact ⟨h.si.ext he, ⟨la, lc, ha, hc, heap_some_ext h1 he, h2.ext he, h3.ext he⟩, h.v0⟩
theorem LRep.drawn {w wr w' : World} {S m a : Nat} {x : Option Addr} {c : Nat} {l : List Int} (h : LRep w.heap.size wr x c l) (hs : SrcIn w S m wr) (hd : Drawn wr S m a w') : LRep w.heap.size w' x c l := by
  obtain ⟨cs, ht⟩ := hs.ok.type
  obtain ⟨at', d, _, _, rfl⟩ := hd
  have h1 : LRep w.heap.size (wr.setCell ⟨S, 1, none⟩ (.int .i64 at')) x c l := h.put (grown_put wr S 1 (.int .i64 at')) ht (by decide) hs.s0
  exact h1.ext (Ext.ext (Ext.refl _) d)
theorem SSt.drawn {w : World} {S m V a : Nat} {A : Arn} {wr w' : World} (h : SSt w S m V A wr) (hd : Drawn wr S m a w') : SSt w S m V A w' := by
  obtain ⟨la, lc, ha, hc, h1, h2, h3⟩ := h.ar
  exact ⟨h.si.drawn hd, ⟨la, lc, ha, hc, drawn_heap hd h1 (fun e => h.ne e.symm), h2.drawn h.si hd, h3.drawn h.si hd⟩, h.v0⟩
theorem SSt.put {w W W' : World} {S m V : Nat} {A B : Arn} {la ha : Option Addr} {lc hc : Nat} (st : SSt w S m V A W) (hg : W.grownBy W' (some V)) (hV : W'.heap[V]? = some (.cells #[.int .i64 (B).Members, .slice la (B).Left.length lc, .bool (B).Open, .int .i64 (B).Eager, .slice ha (B).Holds.length hc, .bool (B).Swept, .int .i64 (B).Winner, .bool (B).Done] 24))
    (o1 : LRep w.heap.size W la lc B.Left) (o2 : LRep w.heap.size W ha hc B.Holds) : SSt w S m V B W' := by
  obtain ⟨_, _, _, _, h, _⟩ := st.ar
  exact ⟨st.si.grown hg st.v0 (fun e => st.ne e.symm), ⟨la, lc, ha, hc, hV, o1.put hg h (by decide) st.v0, o2.put hg h (by decide) st.v0⟩, st.v0⟩
/-- one step of the law over the arena that lies in V, whatever has been drawn since W -/
theorem lstep_at {w W : World} {S m : Nat} {A : Arn} {la ha : Option Addr} {lc hc : Nat} (hs : SrcIn w S m W) (h1 : LRep w.heap.size W la lc A.Left) (h2 : LRep w.heap.size W ha hc A.Holds) (hv : Valid A) (K M : Int) (X : World) (hd : Drawn W S m 0 X) :
    Calls Try.prog 12 #[.agg #[.int .i64 (A).Members, .slice la (A).Left.length lc, .bool (A).Open, .int .i64 (A).Eager, .slice ha (A).Holds.length hc, .bool (A).Swept, .int .i64 (A).Winner, .bool (A).Done], .agg #[.int .i64 K, .int .i64 M]] X fun e X' => ∃ (B : Arn) (vs : List Vd) (x : Int) (la' : Option Addr) (lc' : Nat) (ha' : Option Addr) (hc' : Nat) (va : Option Addr) (vc : Nat) (d : Grow),
      e = .returned (.tuple #[.agg #[.int .i64 (B).Members, .slice la' (B).Left.length lc', .bool (B).Open, .int .i64 (B).Eager, .slice ha' (B).Holds.length hc', .bool (B).Swept, .int .i64 (B).Winner, .bool (B).Done], .slice va vs.length vc, .int .i64 x, .bool true]) ∧ Hid (step A ⟨K, M⟩ = (B, vs, x)) ∧ Hid (LRep w.heap.size (X.ext d) la' lc' B.Left) ∧ Hid (LRep w.heap.size (X.ext d) ha' hc' B.Holds) ∧ X' = X.ext d := by
  have := left_len hv
  have := holds_len hv
  refine (lawStep_ok w.heap.size A K M la ha lc hc X (by omega) (by omega) (h1.drawn hs hd) (h2.drawn hs hd) (Nat.le_trans hs.e.size hd.size)).mono ?_
  rintro _ _ ⟨la', lc', ha', hc', va, vc, rfl, ⟨d, rfl⟩, u1, u2⟩
  exact ⟨_, _, _, la', lc', ha', hc', va, vc, d, rfl, Lib.hid rfl, Lib.hid u1, Lib.hid u2, rfl⟩
theorem lstep_fin {w W wx : World} {S m V T : Nat} {A B : Arn} {la ha : Option Addr} {lc hc : Nat} (st : SSt w S m V A W) (hd : Drawn W S m 0 wx) (hT : wx.heap[T]? = some (.cells #[.int .i64 (B).Members, .slice la (B).Left.length lc, .bool (B).Open, .int .i64 (B).Eager, .slice ha (B).Holds.length hc, .bool (B).Swept, .int .i64 (B).Winner, .bool (B).Done] 24)) (h1 : LRep w.heap.size wx la lc B.Left) (h2 : LRep w.heap.size wx ha hc B.Holds) (hW : W.heap.size ≤ T) :
    SSt w S m V A wx ∧ LAt w.heap.size wx T B ∧ w.heap.size ≤ T ∧ T ≠ V := by
  have hs := st.si.e.size
  obtain ⟨la0, lc0, ha0, hc0, hV, _⟩ := st.ar
  have hVl := (Array.getElem?_eq_some_iff.1 hV).1
  exact ⟨st.drawn hd, ⟨la, lc, ha, hc, hT, h1, h2⟩, by omega, by omega⟩
set_option maxRecDepth 100000 in
set_option maxHeartbeats 4000000 in
theorem script_law (a : Option Addr) (ln cap : Nat) (w : World) (hc : ln ≤ cap) (hm : cap ≤ 9223372036854775807) (hl : ln = 0 ∨ ∃ b off, a = some ⟨b, off, none⟩ ∧ ∀ i, i < ln → ∃ x : Int, -9223372036854775808 ≤ x ∧ x ≤ 9223372036854775807 ∧ w.cell? ⟨b, off + i, none⟩ = some (.int .i64 x)) :
    Calls Try.prog 4 #[.slice a ln cap] w fun e w' => e = .returned (.bool true) ∧ Ext w w' := by
  have hnew := Lib.hid (new_in w a ln cap hc hm hl)
  clear hl
  go_enter Try.func4, Try.ntmps4
  go_wp2_with fail
  refine Calls.mono hnew.out ?_
  rintro _ w1 ⟨S, m, rfl, hsrc⟩
  clear hnew
  have hN := Lib.hid (n_ok w1 S m hsrc.ok 7 (by omega))
  replace hsrc := Lib.hid hsrc
  go_wp2_with fail
  refine Calls.mono hN.out ?_
  rintro _ w2 ⟨x, rfl, x0, x7, hd⟩
  obtain ⟨n, rfl⟩ : ∃ n : Nat, x = n := ⟨x.toNat, by omega⟩
  clear hN
  have hsrc2 := Lib.hid (hsrc.out.drawn hd)
  clear hd hsrc
  have hv := newA_valid n (by omega) (by omega)
  have hA := New_ok n w2 (by omega)
  obtain ⟨A, hAe⟩ : ∃ A, A = (newA n).1 := ⟨_, rfl⟩
  have hAh : A.Holds = [] := by rw [hAe]; unfold newA; rw [if_neg (by omega)]
  simp only [← hAe] at hA hv
  replace hA := Lib.hid hA
  replace hv := Lib.hid hv
  replace hAh := Lib.hid hAh
  clear hAe
  go_wp2_with fail
  refine Calls.mono hA.out ?_
  rintro _ w3 ⟨la, lc, rfl, he3, oL⟩
  replace he3 := Lib.hid he3
  replace oL := Lib.hid oL
  clear hA
  go_upto_region 3 with fail
  refine gen_at5 (p := fun W => Code.wp _ _ _ _ W) ?_
  intro W hW
  have st : Hid (SSt w S m w3.heap.size A W) := Lib.hid (by
    have h1 := hsrc2.out.e.size
    have h2 := he3.out.size
    refine ⟨?_, ?_, by omega⟩
    · rw [hW]
      exact (hsrc2.out.ext he3.out).ext (by (repeat (first | exact Ext.refl _ | assumption | refine Ext.alloc ?_ _ | refine Ext.ext ?_ _ | refine Ext.drew ?_)))
    · refine ⟨la, lc, none, 0, by rw [hW]; exact heap_new _ _ rfl, .inr (by rw [hW]; exact oL.out.ext (by (repeat (first | exact Ext.refl _ | assumption | refine Ext.alloc ?_ _ | refine Ext.ext ?_ _ | refine Ext.drew ?_)))), .inr (by rw [hAh.out]; exact OI.nil _ _)⟩)
  obtain ⟨V, hV0⟩ : ∃ V, w3.heap.size = V := ⟨_, rfl⟩
  rw [hV0] at st
  simp only [hV0]
  clear hW hV0 oL he3 hsrc2
  go_wp2
  go_loopg [6, 7, 8, 9, 10] 30 (fun g v6 v7 v8 v9 v10 wr => ∃ (i : Nat) (A : Arn), v6 = .int .i64 i ∧ i ≤ 30 ∧ g = 30 - i ∧ Hid (Valid A) ∧ Hid (SSt w S m V A wr))
  case atStart => exact ⟨0, A, rfl, by omega, rfl, hv, st⟩
  case round =>
    clear hv st hAh
    obtain ⟨i, A, rfl, hi, hgm, hv, st⟩ := hrel
    replace hgm := Lib.hid hgm
    have hmo := Lib.hid (more_ok wr S m st.out.si.ok)
    have hbr : (decide ((i : Int) < 30) = false ∧ decide (i < 30) = false) ∨ (decide ((i : Int) < 30) = true ∧ decide (i < 30) = true ∧ ((decide ((i : Int) < 4) = true ∧ decide (i < 4) = true) ∨ (decide ((i : Int) < 4) = false ∧ decide (i < 4) = false))) := by
      by_cases h : i < 30
      · by_cases h2 : i < 4
        · exact .inr ⟨decide_eq_true (by omega), decide_eq_true h, .inl ⟨decide_eq_true (by omega), decide_eq_true h2⟩⟩
        · exact .inr ⟨decide_eq_true (by omega), decide_eq_true h, .inr ⟨decide_eq_false (by omega), decide_eq_false h2⟩⟩
      · exact .inl ⟨decide_eq_false (by omega), decide_eq_false h⟩
    go_upto_region 6 with fail
    go_cut [30] (fun v30 wc => ∃ t : Bool, v30 = .bool t ∧ Hid (t = true → i < 30) ∧ Hid (Ext wr wc))
    case first =>
      rcases hbr with ⟨b1, b2⟩ | ⟨b1, b2, ⟨b3, b4⟩ | ⟨b3, b4⟩⟩
      · go_wp2
        go_meet
        case rel => exact ⟨false, rfl, Lib.hid (fun h => by cases h), Lib.hid (Ext.refl _)⟩
      · go_wp2
        go_meet
        case rel => exact ⟨true, rfl, Lib.hid (fun _ => by simpa using b2), Lib.hid (Ext.refl _)⟩
      · go_wp2_with fail
        refine Calls.mono hmo.out ?_
        rintro _ w4 ⟨t, rfl, he⟩
        replace he := Lib.hid he
        go_wp2
        go_meet
        case rel => exact ⟨t, rfl, Lib.hid (fun _ => by simpa using b2), he⟩
    case rest =>
      clear hbr hmo
      obtain ⟨t, rfl, hti, he⟩ := hcut
      replace st := Lib.hid (st.out.ext he.out)
      clear he
      cases t
      · clear hti hgm
        obtain ⟨W, rfl⟩ : ∃ W, W = wc := ⟨_, rfl⟩
        go_wp2_with fail
        refine Calls.mono (awake_ok _) ?_
        rintro _ _ ⟨rfl, d2, rfl⟩
        go_wp2
        go_ret
        exact ⟨rfl, st.out.si.e.ext d2⟩
      · replace hti := hti.out rfl
        obtain ⟨W, rfl⟩ : ∃ W, W = wc := ⟨_, rfl⟩
        obtain ⟨la, lc, ha, hc, hV, oL, oH⟩ := st.out.ar
        have hev := Lib.hid (event_at st.out.si.ok)
        have hst := Lib.hid (lstep_at st.out.si oL oH hv.out)
        have hk : Hid (∀ X, Drawn W S m 0 X → _) := Lib.hid fun X hd => cells_at8 (drawn_heap hd hV (fun e => st.out.ne e.symm))
        have hd0 := Lib.hid (G.Drawn.refl2 st.out.si.ok)
        have hSV := st.out.ne
        have hSl := st.out.si.ok.lt
        have hVl := (Array.getElem?_eq_some_iff.1 hV).1
        have hk0 := hk.out W hd0.out
        clear hV oL oH
        obtain ⟨y0, y1, y2, y3, y4, y5, y6, y7⟩ := hk0
        go_upto_region 8 with fail
        go_cut [7, 8, 9, 10] (fun v7 v8 v9 v10 wx => ∃ (K M : Int) (B : Arn) (vs : List Vd) (x : Int) (T : Nat) (va : Option Addr) (vc : Nat), v7 = .pointer (some ⟨T, 0, none⟩) ∧ v9 = .int .i64 x ∧ v10 = .bool true ∧ Hid (step A ⟨K, M⟩ = (B, vs, x)) ∧ Hid (SSt w S m V A wx) ∧ Hid (LAt w.heap.size wx T B) ∧ Hid (w.heap.size ≤ T) ∧ Hid (T ≠ V))
        case first =>
          go_region_held3 (fun X => X.cell? ⟨V, 0, none⟩ = some (.int .i64 A.Members) ∧ X.cell? ⟨V, 1, none⟩ = some (.slice la A.Left.length lc) ∧ X.cell? ⟨V, 2, none⟩ = some (.bool A.Open) ∧ X.cell? ⟨V, 3, none⟩ = some (.int .i64 A.Eager) ∧ X.cell? ⟨V, 4, none⟩ = some (.slice ha A.Holds.length hc) ∧ X.cell? ⟨V, 5, none⟩ = some (.bool A.Swept) ∧ X.cell? ⟨V, 6, none⟩ = some (.int .i64 A.Winner) ∧ X.cell? ⟨V, 7, none⟩ = some (.bool A.Done))
            (first | exact ⟨y0, y1, y2, y3, y4, y5, y6, y7⟩ | (refine hk.out _ ?_; (first | (apply Drawn.of_ext; (focus assumption); (repeat (first | exact Ext.refl _ | assumption | refine Ext.alloc ?_ _ | refine Ext.ext ?_ _ | refine Ext.drew ?_)); done) | (refine hd0.out.ext ?_; (repeat (first | exact Ext.refl _ | assumption | refine Ext.alloc ?_ _ | refine Ext.ext ?_ _ | refine Ext.drew ?_)); done))))
            (first
              | (go_at_call 20; refine Calls.mono (hev.out _ ?_) ?_; (focus (first | (apply Drawn.of_ext; (focus assumption); (repeat (first | exact Ext.refl _ | assumption | refine Ext.alloc ?_ _ | refine Ext.ext ?_ _ | refine Ext.drew ?_)); done) | (refine hd0.out.ext ?_; (repeat (first | exact Ext.refl _ | assumption | refine Ext.alloc ?_ _ | refine Ext.ext ?_ _ | refine Ext.drew ?_)); done))); rintro _ _ ⟨K, M, a1, d1, rfl, q1, rfl⟩)
              | (go_at_call 12; refine Calls.mono (hst.out _ _ _ ?_) ?_; (focus (first | (apply Drawn.of_ext; (focus assumption); (repeat (first | exact Ext.refl _ | assumption | refine Ext.alloc ?_ _ | refine Ext.ext ?_ _ | refine Ext.drew ?_)); done) | (refine hd0.out.ext ?_; (repeat (first | exact Ext.refl _ | assumption | refine Ext.alloc ?_ _ | refine Ext.ext ?_ _ | refine Ext.drew ?_)); done))); rintro _ _ ⟨B, vs, x, la', lc', ha', hc', va, vc, d2, rfl, hq, u1, u2, rfl⟩))
          all_goals
            clear hev hst hk
            try clear hHeld
          focus
            have hT : ((((W.setCell ⟨S, 1, none⟩ (.int .i64 a1)).drew.ext d1).ext d2).alloc (.cells #[.int .i64 (B).Members, .slice la' (B).Left.length lc', .bool (B).Open, .int .i64 (B).Eager, .slice ha' (B).Holds.length hc', .bool (B).Swept, .int .i64 (B).Winner, .bool (B).Done] 24)).heap[W.heap.size + d1.size + d2.size]? = some (.cells #[.int .i64 (B).Members, .slice la' (B).Left.length lc', .bool (B).Open, .int .i64 (B).Eager, .slice ha' (B).Holds.length hc', .bool (B).Swept, .int .i64 (B).Winner, .bool (B).Done] 24) := heap_new _ _ (by simp)
            have hD : Drawn W S m 0 ((((W.setCell ⟨S, 1, none⟩ (.int .i64 a1)).drew.ext d1).ext d2).alloc (.cells #[.int .i64 (B).Members, .slice la' (B).Left.length lc', .bool (B).Open, .int .i64 (B).Eager, .slice ha' (B).Holds.length hc', .bool (B).Swept, .int .i64 (B).Winner, .bool (B).Done] 24)) := by (first | (apply Drawn.of_ext; (focus assumption); (repeat (first | exact Ext.refl _ | assumption | refine Ext.alloc ?_ _ | refine Ext.ext ?_ _ | refine Ext.drew ?_)); done) | (refine hd0.out.ext ?_; (repeat (first | exact Ext.refl _ | assumption | refine Ext.alloc ?_ _ | refine Ext.ext ?_ _ | refine Ext.drew ?_)); done))
            have hf := Lib.hid (lstep_fin st.out hD hT (LRep.ext u1.out (by (repeat (first | exact Ext.refl _ | assumption | refine Ext.alloc ?_ _ | refine Ext.ext ?_ _ | refine Ext.drew ?_)))) (LRep.ext u2.out (by (repeat (first | exact Ext.refl _ | assumption | refine Ext.alloc ?_ _ | refine Ext.ext ?_ _ | refine Ext.drew ?_)))) (by omega))
            clear hT hD
            go_wp2
            go_meet
            case rel =>
              exact ⟨K, M, B, vs, x, _, va, vc, rfl, rfl, rfl, hq, Lib.hid hf.out.1, Lib.hid hf.out.2.1, Lib.hid hf.out.2.2.1, Lib.hid hf.out.2.2.2⟩
          focus
            have hz : ((((W.setCell ⟨S, 1, none⟩ (.int .i64 a1)).drew.ext d1).alloc (.cells #[.int .i64 0, .slice none 0 0, .bool false, .int .i64 0, .slice none 0 0, .bool false, .int .i64 0, .bool false] 24)).ext d2).heap[W.heap.size + d1.size]? = some (.cells #[.int .i64 0, .slice none 0 0, .bool false, .int .i64 0, .slice none 0 0, .bool false, .int .i64 0, .bool false] 24) := heap_ext1 (heap_new _ _ (by simp))
            have hT : ((((W.setCell ⟨S, 1, none⟩ (.int .i64 a1)).drew.ext d1).alloc (.cells #[.int .i64 (B).Members, .slice la' (B).Left.length lc', .bool (B).Open, .int .i64 (B).Eager, .slice ha' (B).Holds.length hc', .bool (B).Swept, .int .i64 (B).Winner, .bool (B).Done] 24)).ext d2).heap[W.heap.size + d1.size]? = some (.cells #[.int .i64 (B).Members, .slice la' (B).Left.length lc', .bool (B).Open, .int .i64 (B).Eager, .slice ha' (B).Holds.length hc', .bool (B).Swept, .int .i64 (B).Winner, .bool (B).Done] 24) := heap_ext1 (heap_new _ _ (by simp))
            have hD : Drawn W S m 0 ((((W.setCell ⟨S, 1, none⟩ (.int .i64 a1)).drew.ext d1).alloc (.cells #[.int .i64 (B).Members, .slice la' (B).Left.length lc', .bool (B).Open, .int .i64 (B).Eager, .slice ha' (B).Holds.length hc', .bool (B).Swept, .int .i64 (B).Winner, .bool (B).Done] 24)).ext d2) := by (first | (apply Drawn.of_ext; (focus assumption); (repeat (first | exact Ext.refl _ | assumption | refine Ext.alloc ?_ _ | refine Ext.ext ?_ _ | refine Ext.drew ?_)); done) | (refine hd0.out.ext ?_; (repeat (first | exact Ext.refl _ | assumption | refine Ext.alloc ?_ _ | refine Ext.ext ?_ _ | refine Ext.drew ?_)); done))
            have hL : Like (fun k => k = W.heap.size + d1.size) ((((W.setCell ⟨S, 1, none⟩ (.int .i64 a1)).drew.ext d1).alloc (.cells #[.int .i64 0, .slice none 0 0, .bool false, .int .i64 0, .slice none 0 0, .bool false, .int .i64 0, .bool false] 24)).ext d2) ((((W.setCell ⟨S, 1, none⟩ (.int .i64 a1)).drew.ext d1).alloc (.cells #[.int .i64 (B).Members, .slice la' (B).Left.length lc', .bool (B).Open, .int .i64 (B).Eager, .slice ha' (B).Holds.length hc', .bool (B).Swept, .int .i64 (B).Winner, .bool (B).Done] 24)).ext d2) := by (repeat (first | exact Like.refl _ _ | refine Like.ext ?_ _ | refine Like.alloc ?_ _ | refine Like.swap ?_ (by simp <;> omega) _ _))
            have hwW := st.out.si.e.size
            have hf := Lib.hid (lstep_fin st.out hD hT (LRep.turn u1.out hL ⟨rfl, rfl, rfl⟩ hz (by omega)) (LRep.turn u2.out hL ⟨rfl, rfl, rfl⟩ hz (by omega)) (by omega))
            clear hT hD hL hz hwW
            go_wp2
            go_meet
            case rel =>
              exact ⟨K, M, B, vs, x, _, va, vc, rfl, rfl, rfl, hq, Lib.hid hf.out.1, Lib.hid hf.out.2.1, Lib.hid hf.out.2.2.1, Lib.hid hf.out.2.2.2⟩
          focus
            have hz : ((((W.setCell ⟨S, 1, none⟩ (.int .i64 a1)).alloc (.cells #[.int .i64 0, .slice none 0 0, .bool false, .int .i64 0, .slice none 0 0, .bool false, .int .i64 0, .bool false] 24)).drew.ext d1).ext d2).heap[W.heap.size]? = some (.cells #[.int .i64 0, .slice none 0 0, .bool false, .int .i64 0, .slice none 0 0, .bool false, .int .i64 0, .bool false] 24) := heap_ext1 (heap_ext1 (heap_drew1 (heap_new _ _ (by simp))))
            have hT : ((((W.setCell ⟨S, 1, none⟩ (.int .i64 a1)).alloc (.cells #[.int .i64 (B).Members, .slice la' (B).Left.length lc', .bool (B).Open, .int .i64 (B).Eager, .slice ha' (B).Holds.length hc', .bool (B).Swept, .int .i64 (B).Winner, .bool (B).Done] 24)).drew.ext d1).ext d2).heap[W.heap.size]? = some (.cells #[.int .i64 (B).Members, .slice la' (B).Left.length lc', .bool (B).Open, .int .i64 (B).Eager, .slice ha' (B).Holds.length hc', .bool (B).Swept, .int .i64 (B).Winner, .bool (B).Done] 24) := heap_ext1 (heap_ext1 (heap_drew1 (heap_new _ _ (by simp))))
            have hD : Drawn W S m 0 ((((W.setCell ⟨S, 1, none⟩ (.int .i64 a1)).alloc (.cells #[.int .i64 (B).Members, .slice la' (B).Left.length lc', .bool (B).Open, .int .i64 (B).Eager, .slice ha' (B).Holds.length hc', .bool (B).Swept, .int .i64 (B).Winner, .bool (B).Done] 24)).drew.ext d1).ext d2) := by (first | (apply Drawn.of_ext; (focus assumption); (repeat (first | exact Ext.refl _ | assumption | refine Ext.alloc ?_ _ | refine Ext.ext ?_ _ | refine Ext.drew ?_)); done) | (refine hd0.out.ext ?_; (repeat (first | exact Ext.refl _ | assumption | refine Ext.alloc ?_ _ | refine Ext.ext ?_ _ | refine Ext.drew ?_)); done))
            have hL : Like (fun k => k = W.heap.size) ((((W.setCell ⟨S, 1, none⟩ (.int .i64 a1)).alloc (.cells #[.int .i64 0, .slice none 0 0, .bool false, .int .i64 0, .slice none 0 0, .bool false, .int .i64 0, .bool false] 24)).drew.ext d1).ext d2) ((((W.setCell ⟨S, 1, none⟩ (.int .i64 a1)).alloc (.cells #[.int .i64 (B).Members, .slice la' (B).Left.length lc', .bool (B).Open, .int .i64 (B).Eager, .slice ha' (B).Holds.length hc', .bool (B).Swept, .int .i64 (B).Winner, .bool (B).Done] 24)).drew.ext d1).ext d2) := Like.ext (Like.ext (like_drew (Like.swap (Like.refl _ _) (by simp) _ _)) _) _
            have hwW := st.out.si.e.size
            have hf := Lib.hid (lstep_fin st.out hD hT (LRep.turn u1.out hL ⟨rfl, rfl, rfl⟩ hz (by omega)) (LRep.turn u2.out hL ⟨rfl, rfl, rfl⟩ hz (by omega)) (by omega))
            clear hT hD hL hz hwW
            go_wp2
            go_meet
            case rel =>
              exact ⟨K, M, B, vs, x, _, va, vc, rfl, rfl, rfl, hq, Lib.hid hf.out.1, Lib.hid hf.out.2.1, Lib.hid hf.out.2.2.1, Lib.hid hf.out.2.2.2⟩
        case rest =>
          clear y0 y1 y2 y3 y4 y5 y6 y7 hev hst hk hd0 hSV hSl hVl
          clear st
          obtain ⟨K, M, B, vs, x, T, va, vc, rfl, rfl, rfl, hq, st, hT, hwT, hTV⟩ := hcut
          obtain ⟨W2, rfl⟩ : ∃ W, W = wc := ⟨_, rfl⟩
          rcases step_cases A ⟨K, M⟩ with ⟨c1, c2, c3⟩ | ⟨c1, c2, c3⟩
          · rw [hq.out] at c1 c2 c3
            simp only at c1 c2 c3
            have hxb : (x == 0) = false := by simpa using c1
            clear c1 c2 c3 hq hT
            go_wp2
            go_roundg (30 - (i + 1))
            case measure => have := hgm.out; omega
            case rel => exact ⟨i + 1, A, by go_num, by omega, rfl, hv, st⟩
          · rw [hq.out] at c2 c3
            simp only at c2 c3
            subst c2
            have hvB := Lib.hid c3.valid
            obtain ⟨la1, lc1, ha1, hc1, hT1, o1, o2⟩ := hT.out
            obtain ⟨y0, y1, y2, y3, y4, y5, y6, y7⟩ := cells_at8 hT1
            obtain ⟨la0, lc0, ha0, hc0, hV, -, -⟩ := st.out.ar
            obtain ⟨z0, z1, z2, z3, z4, z5, z6, z7⟩ := cells_at8 hV
            have yl := (Array.getElem?_eq_some_iff.1 hV).1
            have yl2 := (Array.getElem?_eq_some_iff.1 hT1).1
            have yf := heap_thaw hV
            replace hV := Lib.hid hV
            replace o1 := Lib.hid o1
            replace o2 := Lib.hid o2
            clear hT hT1 c1 c3
            go_upto_region 7 with fail
            obtain ⟨pg, ph⟩ := put8 (v0 := .int .i64 B.Members) (v1 := .slice la1 B.Left.length lc1) (v2 := .bool B.Open) (v3 := .int .i64 B.Eager) (v4 := .slice ha1 B.Holds.length hc1) (v5 := .bool B.Swept) (v6 := .int .i64 B.Winner) (v7 := .bool B.Done) hV.out
            clear y0 y1 y2 y3 y4 y5 y6 y7 z0 z1 z2 z3 z4 z5 z6 z7 yf yl yl2
            (refine gen_at5 (p := fun W => Code.wp _ _ _ _ W) ?_)
            intro W hW
            rw [← hW] at pg ph
            clear hW
            replace st := Lib.hid (st.out.put pg ph o1.out o2.out)
            clear pg ph hV o1 o2
            go_wp2
            go_roundg (30 - (i + 1))
            case measure => have := hgm.out; omega
            case rel => exact ⟨i + 1, B, by go_num, by omega, rfl, hvB, st⟩
end Go.Proofs.Ytcnmljpabmgieaa.R
