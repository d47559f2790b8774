/- ArenaEnds: the walk. -/
import Derived.Test.YtcnmljpabmgieaaAr39
import Derived.Test.YtcnmljpabmgieaaAr40
import Derived.IntWalk
import Derived.WalkKit
import Derived.WalkSpells
import Derived.WalkLawsBesides
import Derived.Deep.QuietTactic
import Derived.BigQuiet
import Derived.BigRegion
import Derived.Lib.Hide
import Derived.Deep.RegionWith
set_option linter.unusedSimpArgs false
set_option linter.unusedVariables false
namespace Go.Proofs.Ytcnmljpabmgieaa.R
open Go.RowKit
open G (SrcOk SrcIn Drawn drawn_heap arenaEvent_ok more_ok n_ok new_in)
theorem astep_at {w W : World} {S m : Nat} {A : Arn} {la ha : Option Addr} {lc hc : Nat} (hs : SrcIn w S m W) (h1 : LRep w.heap.size W la lc A.Left) (h2 : LRep w.heap.size W ha hc A.Holds) (hv : Valid A) (K M : Int) (X : World) (hd : Drawn W S m 0 X) :
    Calls Try.prog 21 #[.agg #[.int .i64 (A).Members, .slice la (A).Left.length lc, .bool (A).Open, .int .i64 (A).Eager, .slice ha (A).Holds.length hc, .bool (A).Swept, .int .i64 (A).Winner, .bool (A).Done], .agg #[.int .i64 K, .int .i64 M]] X fun e X' => ∃ (B : Arn) (vs : List Vd) (x : Int) (la' : Option Addr) (lc' : Nat) (ha' : Option Addr) (hc' : Nat) (va : Option Addr) (vc : Nat) (d : Grow),
      e = .returned (.tuple #[.agg #[.int .i64 (B).Members, .slice la' (B).Left.length lc', .bool (B).Open, .int .i64 (B).Eager, .slice ha' (B).Holds.length hc', .bool (B).Swept, .int .i64 (B).Winner, .bool (B).Done], .slice va vs.length vc, .int .i64 x]) ∧ Hid (step A ⟨K, M⟩ = (B, vs, x)) ∧ Hid (OI 0 (X.ext d) la' lc' B.Left) ∧ Hid (OI 0 (X.ext d) ha' hc' B.Holds) ∧ X' = X.ext d := by
  have := left_len hv
  have := holds_len hv
  refine (step_ok (B := 0) A K M la ha lc hc X (by omega) (by omega) (h1.drawn hs hd).rep (h2.drawn hs hd).rep (Nat.zero_le _)).mono ?_
  rintro _ _ ⟨la', lc', ha', hc', va, vc, rfl, ⟨d, rfl⟩, u1, u2, u3⟩
  exact ⟨_, _, _, la', lc', ha', hc', va, vc, d, rfl, Lib.hid rfl, Lib.hid u1, Lib.hid u2, rfl⟩
theorem n_at {W : World} {S m : Nat} (hs : SrcOk W S m) (M : Int) (hM : 1 ≤ M ∧ M ≤ 9223372036854775807) (X : World) (hd : Drawn W S m 0 X) :
    Calls Try.prog 18 #[.pointer (some ⟨S, 0, none⟩), .int .i64 M] X fun e X' => ∃ (k : Nat) (a : Nat) (d : Grow), e = .returned (.int .i64 k) ∧ (k : Int) < M ∧ a ≤ m ∧ X' = (X.setCell ⟨S, 1, none⟩ (.int .i64 a)).ext d := by
  refine (n_ok X S m (hs.drawn hd) M hM).mono ?_
  rintro _ _ ⟨x, rfl, x0, x1, a, d, _, h, rfl⟩
  exact ⟨x.toNat, a, d, by rw [Int.toNat_of_nonneg x0], by omega, h, rfl⟩
theorem LRep.spot {w wr : World} {S m : Nat} {x : Option Addr} {c : Nat} {l : List Int} (h : LRep w.heap.size wr x c l) (hs : SrcIn w S m wr) (hl : l ≠ []) : ∃ b off, x = some ⟨b, off, none⟩ ∧ IntsAt wr b off l ∧ b ≠ S ∧ b < wr.heap.size := by
  have hlt : ∀ {W : World} {b off : Nat}, IntsAt W b off l → b < W.heap.size := by
    intro W b off hi
    cases l with
    | nil => exact absurd rfl hl
    | cons y l => exact World.block_lt_of_cell? W _ (hi 0 y rfl)
  rcases h with ⟨X, h0, h1, h2⟩ | h
  · obtain ⟨b, off, ha, hi⟩ := h2.resolve_left hl
    have := hlt hi
    have := hs.s0
    have := h1.size
    exact ⟨b, off, ha, hi.ext h1, by omega, by omega⟩
  · obtain ⟨b, off, ha, hi⟩ := h.rep.resolve_left hl
    refine ⟨b, off, ha, hi, ?_, hlt hi⟩
    obtain ⟨cs, ht⟩ := hs.ok.type
    subst ha
    rcases h.2 with ⟨hv, _⟩ | ⟨g, cap, cur, hv, _⟩
    · cases hv
    · simp only [Value.slice.injEq, Option.some.injEq, Addr.mk.injEq, and_true] at hv
      obtain ⟨⟨rfl, _⟩, _, _⟩ := hv
      exact own_other h ht (by decide) b rfl
def hnth (l : List Int) (k : Nat) : Int := l.getD k 0
theorem hnth_get (l : List Int) (k : Nat) (h : k < l.length) : l[k]? = some (hnth l k) := by
  unfold hnth
  rw [List.getD_eq_getElem?_getD, List.getElem?_eq_getElem h]
  rfl
theorem hnth_mem (l : List Int) (k : Nat) (h : k < l.length) : hnth l k ∈ l := List.mem_iff_getElem?.2 ⟨k, hnth_get l k h⟩
def closing : Array Value := #[.int .i64 1, .int .i64 0, .int .i64 6, .int .i64 0]
set_option maxRecDepth 100000 in
set_option maxHeartbeats 4000000 in
theorem ends_law (a : Option Addr) (ln cap : Nat) (w : World) (hc : ln ≤ cap) (hm : cap ≤ 9223372036854775807) (hl : ln = 0 ∨ ∃ b off, a = some ⟨b, off, none⟩ ∧ ∀ i, i < ln → ∃ x : Int, -9223372036854775808 ≤ x ∧ x ≤ 9223372036854775807 ∧ w.cell? ⟨b, off + i, none⟩ = some (.int .i64 x)) :
    Calls Try.prog 6 #[.slice a ln cap] w fun e w' => e = .returned (.bool true) ∧ Ext w w' := by
  have hnew := Lib.hid (new_in w a ln cap hc hm hl)
  clear hl
  go_enter Try.func6, Try.ntmps6
  go_wp2_with fail
  refine Calls.mono hnew.out ?_
  rintro _ w1 ⟨S, m, rfl, hsrc⟩
  clear hnew
  have hA := Lib.hid (arena_ok w1 S m hsrc.ok)
  replace hsrc := Lib.hid hsrc
  go_wp2_with fail
  refine Calls.mono hA.out ?_
  rintro _ w2 ⟨A, la, lc, ha, hc, rfl, hv, hd, oL, oH⟩
  replace hsrc := Lib.hid (hsrc.out.drawn hd)
  replace hv := Lib.hid hv
  replace oL := Lib.hid oL
  replace oH := Lib.hid oH
  clear hd hA
  go_upto_region 4 with fail
  refine gen_at5 (p := fun W => Code.wp _ _ _ _ W) ?_
  intro W hW
  have st : Hid (SSt w S m w2.heap.size A W) := Lib.hid (by
    have h1 := hsrc.out.e.size
    refine ⟨?_, ⟨la, lc, ha, hc, by rw [hW]; exact heap_alloc1 (heap_new _ _ rfl), .inr (by rw [hW]; exact oL.out.ext (by (repeat (first | exact Ext.refl _ | assumption | refine Ext.alloc ?_ _ | refine Ext.ext ?_ _ | refine Ext.drew ?_)))), .inr (by rw [hW]; exact oH.out.ext (by (repeat (first | exact Ext.refl _ | assumption | refine Ext.alloc ?_ _ | refine Ext.ext ?_ _ | refine Ext.drew ?_))))⟩, by omega⟩
    rw [hW]
    exact hsrc.out.ext (by (repeat (first | exact Ext.refl _ | assumption | refine Ext.alloc ?_ _ | refine Ext.ext ?_ _ | refine Ext.drew ?_))))
  have hcl : Hid (W.heap[w2.heap.size + 1]? = some (.cells closing 26)) := Lib.hid (by rw [hW]; exact heap_new _ _ (by simp))
  obtain ⟨V, hV0⟩ : ∃ V, w2.heap.size = V := ⟨_, rfl⟩
  rw [hV0] at st hcl
  obtain ⟨C, hC0⟩ : ∃ C, V + 1 = C := ⟨_, rfl⟩
  rw [hC0] at hcl
  simp only [hV0, hC0]
  clear hW hV0 hC0 oL oH hsrc
  go_wp2
  go_loopg [6, 7, 8, 9] 2 (fun g v6 v7 v8 v9 wr => ∃ (i : Nat) (A : Arn), v6 = .int .i64 i ∧ i ≤ 2 ∧ g = 2 - i ∧ Hid (Valid A) ∧ Hid ((i = 1 → closedOr A) ∧ (i = 2 → sweptOr A)) ∧ Hid (SSt w S m V A wr) ∧ Hid (wr.heap[C]? = some (.cells closing 26)))
  case atStart => exact ⟨0, A, rfl, by omega, rfl, hv, Lib.hid ⟨fun h => (by cases h), fun h => (by cases h)⟩, st, hcl⟩
  case round =>
    clear hv st hcl
    obtain ⟨i, A, rfl, hi, hgm, hv, hj, st, hcl⟩ := hrel
    obtain ⟨W, rfl⟩ : ∃ W, W = wr := ⟨_, rfl⟩
    replace hgm := Lib.hid hgm
    by_cases hlt : i < 2
    · rcases (show i = 0 ∨ i = 1 by omega) with rfl | rfl
      focus
        obtain ⟨la, lc, ha, hc, hV, oL, oH⟩ := st.out.ar
        have hst := Lib.hid (astep_at st.out.si oL oH hv.out)
        have hd0 := Lib.hid (G.Drawn.refl2 st.out.si.ok)
        have hVl := (Array.getElem?_eq_some_iff.1 hV).1
        have hCl := (Array.getElem?_eq_some_iff.1 hcl.out).1
        have hk : Hid (∀ X : World, Ext W X → X.cell? ⟨V, 0, none⟩ = some (.int .i64 A.Members) ∧ X.cell? ⟨V, 1, none⟩ = some (.slice la A.Left.length lc) ∧ X.cell? ⟨V, 2, none⟩ = some (.bool A.Open) ∧ X.cell? ⟨V, 3, none⟩ = some (.int .i64 A.Eager) ∧ X.cell? ⟨V, 4, none⟩ = some (.slice ha A.Holds.length hc) ∧ X.cell? ⟨V, 5, none⟩ = some (.bool A.Swept) ∧ X.cell? ⟨V, 6, none⟩ = some (.int .i64 A.Winner) ∧ X.cell? ⟨V, 7, none⟩ = some (.bool A.Done) ∧ X.cell? ⟨C, 0, none⟩ = some (.int .i64 1) ∧ X.cell? ⟨C, 1, none⟩ = some (.int .i64 0)) := Lib.hid fun X he => by
          obtain ⟨e0, e1, e2, e3, e4, e5, e6, e7⟩ := cells_at8 (heap_some_ext hV he)
          exact ⟨e0, e1, e2, e3, e4, e5, e6, e7, heap_cell (heap_some_ext hcl.out he) 0, heap_cell (heap_some_ext hcl.out he) 1⟩
        have hk0 := hk.out W (Ext.refl _)
        clear hV oL oH
        obtain ⟨y0, y1, y2, y3, y4, y5, y6, y7, c0, c1⟩ := hk0
        go_upto_region 7 with fail
        go_cut [7, 8, 9] (fun v7 v8 v9 wx => ∃ (B : Arn) (vs : List Vd) (x : Int) (T : Nat), v7 = .pointer (some ⟨T, 0, none⟩) ∧ v9 = .int .i64 x ∧ Hid (step A ⟨1, 0⟩ = (B, vs, x)) ∧ Hid (SSt w S m V A wx) ∧ Hid (LAt w.heap.size wx T B) ∧ Hid (w.heap.size ≤ T) ∧ Hid (T ≠ V) ∧ Hid (wx.heap[C]? = some (.cells closing 26)))
        case first =>
          go_region_held3 (fun X => X.cell? ⟨V, 0, none⟩ = some (.int .i64 A.Members) ∧ X.cell? ⟨V, 1, none⟩ = some (.slice la A.Left.length lc) ∧ X.cell? ⟨V, 2, none⟩ = some (.bool A.Open) ∧ X.cell? ⟨V, 3, none⟩ = some (.int .i64 A.Eager) ∧ X.cell? ⟨V, 4, none⟩ = some (.slice ha A.Holds.length hc) ∧ X.cell? ⟨V, 5, none⟩ = some (.bool A.Swept) ∧ X.cell? ⟨V, 6, none⟩ = some (.int .i64 A.Winner) ∧ X.cell? ⟨V, 7, none⟩ = some (.bool A.Done) ∧ X.cell? ⟨C, 0, none⟩ = some (.int .i64 1) ∧ X.cell? ⟨C, 1, none⟩ = some (.int .i64 0))
            (first | exact ⟨y0, y1, y2, y3, y4, y5, y6, y7, c0, c1⟩ | (refine hk.out _ ?_; (repeat (first | exact Ext.refl _ | assumption | refine Ext.alloc ?_ _ | refine Ext.ext ?_ _ | refine Ext.drew ?_)); done))
            ((go_at_call 21; refine Calls.mono (hst.out _ _ _ ?_) ?_; (focus (refine hd0.out.ext ?_; (repeat (first | exact Ext.refl _ | assumption | refine Ext.alloc ?_ _ | refine Ext.ext ?_ _ | refine Ext.drew ?_)))); rintro _ _ ⟨B, vs, x, la', lc', ha', hc', va, vc, d2, rfl, hq, u1, u2, rfl⟩))
          all_goals
            clear hst hk
            try clear hHeld
          all_goals
            go_wp2
            go_meet
            case rel =>
              refine ⟨B, vs, x, _, rfl, rfl, hq, Lib.hid (st.out.ext ?_), Lib.hid ⟨la', lc', ha', hc', ?_, .inr ?_, .inr ?_⟩, Lib.hid ?_, Lib.hid ?_, Lib.hid (heap_some_ext hcl.out ?_)⟩
              · (repeat (first | exact Ext.refl _ | assumption | refine Ext.alloc ?_ _ | refine Ext.ext ?_ _ | refine Ext.drew ?_))
              · (repeat (first | (refine heap_new _ _ ?_; focus (first | rfl | (simp; done) | (simp <;> omega; done))) | refine heap_ext1 ?_ | refine heap_drew1 ?_ | refine heap_alloc1 ?_))
              · (first | (refine OI.ext u1.out ?_; (repeat (first | exact Ext.refl _ | assumption | refine Ext.alloc ?_ _ | refine Ext.ext ?_ _ | refine Ext.drew ?_)); done) | (refine OI.turnA (b := W.heap.size) (z := #[.int .i64 0, .slice none 0 0, .bool false, .int .i64 0, .slice none 0 0, .bool false, .int .i64 0, .bool false]) u1.out ?_ ?_; (focus ((repeat (first | exact Like.refl _ _ | refine like_drew ?_ | refine Like.ext ?_ _ | refine Like.alloc ?_ _ | (refine Like.swap ?_ ?_ _ _; rotate_left; (focus (first | rfl | (simp; done) | (simp <;> omega; done)))))); done)); (repeat (first | (refine heap_new _ _ ?_; focus (first | rfl | (simp; done) | (simp <;> omega; done))) | refine heap_ext1 ?_ | refine heap_drew1 ?_ | refine heap_alloc1 ?_)); done) | (refine OI.turnA (b := W.heap.size + d1.size) (z := #[.int .i64 0, .slice none 0 0, .bool false, .int .i64 0, .slice none 0 0, .bool false, .int .i64 0, .bool false]) u1.out ?_ ?_; (focus ((repeat (first | exact Like.refl _ _ | refine like_drew ?_ | refine Like.ext ?_ _ | refine Like.alloc ?_ _ | (refine Like.swap ?_ ?_ _ _; rotate_left; (focus (first | rfl | (simp; done) | (simp <;> omega; done)))))); done)); (repeat (first | (refine heap_new _ _ ?_; focus (first | rfl | (simp; done) | (simp <;> omega; done))) | refine heap_ext1 ?_ | refine heap_drew1 ?_ | refine heap_alloc1 ?_)); done) | (refine OI.turnA (b := W.heap.size + d1.size + d2.size) (z := #[.int .i64 0, .slice none 0 0, .bool false, .int .i64 0, .slice none 0 0, .bool false, .int .i64 0, .bool false]) u1.out ?_ ?_; (focus ((repeat (first | exact Like.refl _ _ | refine like_drew ?_ | refine Like.ext ?_ _ | refine Like.alloc ?_ _ | (refine Like.swap ?_ ?_ _ _; rotate_left; (focus (first | rfl | (simp; done) | (simp <;> omega; done)))))); done)); (repeat (first | (refine heap_new _ _ ?_; focus (first | rfl | (simp; done) | (simp <;> omega; done))) | refine heap_ext1 ?_ | refine heap_drew1 ?_ | refine heap_alloc1 ?_)); done))
              · (first | (refine OI.ext u2.out ?_; (repeat (first | exact Ext.refl _ | assumption | refine Ext.alloc ?_ _ | refine Ext.ext ?_ _ | refine Ext.drew ?_)); done) | (refine OI.turnA (b := W.heap.size) (z := #[.int .i64 0, .slice none 0 0, .bool false, .int .i64 0, .slice none 0 0, .bool false, .int .i64 0, .bool false]) u2.out ?_ ?_; (focus ((repeat (first | exact Like.refl _ _ | refine like_drew ?_ | refine Like.ext ?_ _ | refine Like.alloc ?_ _ | (refine Like.swap ?_ ?_ _ _; rotate_left; (focus (first | rfl | (simp; done) | (simp <;> omega; done)))))); done)); (repeat (first | (refine heap_new _ _ ?_; focus (first | rfl | (simp; done) | (simp <;> omega; done))) | refine heap_ext1 ?_ | refine heap_drew1 ?_ | refine heap_alloc1 ?_)); done) | (refine OI.turnA (b := W.heap.size + d1.size) (z := #[.int .i64 0, .slice none 0 0, .bool false, .int .i64 0, .slice none 0 0, .bool false, .int .i64 0, .bool false]) u2.out ?_ ?_; (focus ((repeat (first | exact Like.refl _ _ | refine like_drew ?_ | refine Like.ext ?_ _ | refine Like.alloc ?_ _ | (refine Like.swap ?_ ?_ _ _; rotate_left; (focus (first | rfl | (simp; done) | (simp <;> omega; done)))))); done)); (repeat (first | (refine heap_new _ _ ?_; focus (first | rfl | (simp; done) | (simp <;> omega; done))) | refine heap_ext1 ?_ | refine heap_drew1 ?_ | refine heap_alloc1 ?_)); done) | (refine OI.turnA (b := W.heap.size + d1.size + d2.size) (z := #[.int .i64 0, .slice none 0 0, .bool false, .int .i64 0, .slice none 0 0, .bool false, .int .i64 0, .bool false]) u2.out ?_ ?_; (focus ((repeat (first | exact Like.refl _ _ | refine like_drew ?_ | refine Like.ext ?_ _ | refine Like.alloc ?_ _ | (refine Like.swap ?_ ?_ _ _; rotate_left; (focus (first | rfl | (simp; done) | (simp <;> omega; done)))))); done)); (repeat (first | (refine heap_new _ _ ?_; focus (first | rfl | (simp; done) | (simp <;> omega; done))) | refine heap_ext1 ?_ | refine heap_drew1 ?_ | refine heap_alloc1 ?_)); done))
              · have := st.out.si.e.size
                (first | omega | (simp <;> omega))
              · intro e
                (first | omega | (simp at e; omega))
              · (repeat (first | exact Ext.refl _ | assumption | refine Ext.alloc ?_ _ | refine Ext.ext ?_ _ | refine Ext.drew ?_))
        case rest =>
          clear y0 y1 y2 y3 y4 y5 y6 y7 c0 c1 hst hk hd0 hVl hCl
          clear st hcl
          obtain ⟨B, vs, x, T, rfl, rfl, hq, st, hT, hwT, hTV, hcl⟩ := hcut
          obtain ⟨W2, rfl⟩ : ∃ W, W = wc := ⟨_, rfl⟩
          have hfc := ends_close hv.out
          rcases step_cases A ⟨1, 0⟩ with ⟨c1, c2, c3⟩ | ⟨c1, c2, c3⟩
          · rw [hq.out] at c1 c2 c3 hfc
            simp only at c1 c2 c3 hfc
            have hxb : (x == 0) = false := by simpa using c1
            have hj2 := Lib.hid (hfc.2 c1)
            clear c1 c2 c3 hq hT hfc hj
            go_wp2
            go_roundg (2 - (0 + 1))
            case measure => have := hgm.out; omega
            case rel => exact ⟨0 + 1, A, by go_num, by omega, rfl, hv, Lib.hid ⟨fun _ => hj2.out, fun h => (by cases h)⟩, st, hcl⟩
          · rw [hq.out] at c2 c3 hfc
            simp only at c2 c3 hfc
            subst c2
            have hvB := Lib.hid c3.valid
            have hj2 := Lib.hid (hfc.1 rfl)
            obtain ⟨la1, lc1, ha1, hc1, hT1, o1, o2⟩ := hT.out
            obtain ⟨y0, y1, y2, y3, y4, y5, y6, y7⟩ := cells_at8 hT1
            obtain ⟨la0, lc0, ha0, hc0, hV, -, -⟩ := st.out.ar
            obtain ⟨z0, z1, z2, z3, z4, z5, z6, z7⟩ := cells_at8 hV
            have yl := (Array.getElem?_eq_some_iff.1 hV).1
            have yl2 := (Array.getElem?_eq_some_iff.1 hT1).1
            have yf := heap_thaw hV
            replace hV := Lib.hid hV
            replace o1 := Lib.hid o1
            replace o2 := Lib.hid o2
            clear hT hT1 c1 c3 hfc hj
            go_upto_region 6 with fail
            obtain ⟨pg, ph⟩ := put8 (v0 := .int .i64 B.Members) (v1 := .slice la1 B.Left.length lc1) (v2 := .bool B.Open) (v3 := .int .i64 B.Eager) (v4 := .slice ha1 B.Holds.length hc1) (v5 := .bool B.Swept) (v6 := .int .i64 B.Winner) (v7 := .bool B.Done) hV.out
            clear y0 y1 y2 y3 y4 y5 y6 y7 z0 z1 z2 z3 z4 z5 z6 z7 yf yl yl2
            (refine gen_at5 (p := fun W => Code.wp _ _ _ _ W) ?_)
            intro W hW
            rw [← hW] at pg ph
            clear hW
            replace st := Lib.hid (st.out.put pg ph o1.out o2.out)
            replace hcl : Hid (W.heap[C]? = some (.cells closing 26)) := Lib.hid (heap_kept pg hcl.out (U := 24) (fun k e => by cases e; exact ⟨_, _, hV.out⟩) (by decide))
            clear pg ph hV o1 o2
            go_wp2
            go_roundg (2 - (0 + 1))
            case measure => have := hgm.out; omega
            case rel => exact ⟨0 + 1, B, by go_num, by omega, rfl, hvB, Lib.hid ⟨fun _ => hj2.out, fun h => (by cases h)⟩, st, hcl⟩
      focus
        obtain ⟨la, lc, ha, hc, hV, oL, oH⟩ := st.out.ar
        have hst := Lib.hid (astep_at st.out.si oL oH hv.out)
        have hd0 := Lib.hid (G.Drawn.refl2 st.out.si.ok)
        have hVl := (Array.getElem?_eq_some_iff.1 hV).1
        have hCl := (Array.getElem?_eq_some_iff.1 hcl.out).1
        have hk : Hid (∀ X : World, Ext W X → X.cell? ⟨V, 0, none⟩ = some (.int .i64 A.Members) ∧ X.cell? ⟨V, 1, none⟩ = some (.slice la A.Left.length lc) ∧ X.cell? ⟨V, 2, none⟩ = some (.bool A.Open) ∧ X.cell? ⟨V, 3, none⟩ = some (.int .i64 A.Eager) ∧ X.cell? ⟨V, 4, none⟩ = some (.slice ha A.Holds.length hc) ∧ X.cell? ⟨V, 5, none⟩ = some (.bool A.Swept) ∧ X.cell? ⟨V, 6, none⟩ = some (.int .i64 A.Winner) ∧ X.cell? ⟨V, 7, none⟩ = some (.bool A.Done) ∧ X.cell? ⟨C, 2, none⟩ = some (.int .i64 6) ∧ X.cell? ⟨C, 3, none⟩ = some (.int .i64 0)) := Lib.hid fun X he => by
          obtain ⟨e0, e1, e2, e3, e4, e5, e6, e7⟩ := cells_at8 (heap_some_ext hV he)
          exact ⟨e0, e1, e2, e3, e4, e5, e6, e7, heap_cell (heap_some_ext hcl.out he) 2, heap_cell (heap_some_ext hcl.out he) 3⟩
        have hk0 := hk.out W (Ext.refl _)
        clear hV oL oH
        obtain ⟨y0, y1, y2, y3, y4, y5, y6, y7, c0, c1⟩ := hk0
        go_upto_region 7 with fail
        go_cut [7, 8, 9] (fun v7 v8 v9 wx => ∃ (B : Arn) (vs : List Vd) (x : Int) (T : Nat), v7 = .pointer (some ⟨T, 0, none⟩) ∧ v9 = .int .i64 x ∧ Hid (step A ⟨6, 0⟩ = (B, vs, x)) ∧ Hid (SSt w S m V A wx) ∧ Hid (LAt w.heap.size wx T B) ∧ Hid (w.heap.size ≤ T) ∧ Hid (T ≠ V) ∧ Hid (wx.heap[C]? = some (.cells closing 26)))
        case first =>
          go_region_held3 (fun X => X.cell? ⟨V, 0, none⟩ = some (.int .i64 A.Members) ∧ X.cell? ⟨V, 1, none⟩ = some (.slice la A.Left.length lc) ∧ X.cell? ⟨V, 2, none⟩ = some (.bool A.Open) ∧ X.cell? ⟨V, 3, none⟩ = some (.int .i64 A.Eager) ∧ X.cell? ⟨V, 4, none⟩ = some (.slice ha A.Holds.length hc) ∧ X.cell? ⟨V, 5, none⟩ = some (.bool A.Swept) ∧ X.cell? ⟨V, 6, none⟩ = some (.int .i64 A.Winner) ∧ X.cell? ⟨V, 7, none⟩ = some (.bool A.Done) ∧ X.cell? ⟨C, 2, none⟩ = some (.int .i64 6) ∧ X.cell? ⟨C, 3, none⟩ = some (.int .i64 0))
            (first | exact ⟨y0, y1, y2, y3, y4, y5, y6, y7, c0, c1⟩ | (refine hk.out _ ?_; (repeat (first | exact Ext.refl _ | assumption | refine Ext.alloc ?_ _ | refine Ext.ext ?_ _ | refine Ext.drew ?_)); done))
            ((go_at_call 21; refine Calls.mono (hst.out _ _ _ ?_) ?_; (focus (refine hd0.out.ext ?_; (repeat (first | exact Ext.refl _ | assumption | refine Ext.alloc ?_ _ | refine Ext.ext ?_ _ | refine Ext.drew ?_)))); rintro _ _ ⟨B, vs, x, la', lc', ha', hc', va, vc, d2, rfl, hq, u1, u2, rfl⟩))
          all_goals
            clear hst hk
            try clear hHeld
          all_goals
            go_wp2
            go_meet
            case rel =>
              refine ⟨B, vs, x, _, rfl, rfl, hq, Lib.hid (st.out.ext ?_), Lib.hid ⟨la', lc', ha', hc', ?_, .inr ?_, .inr ?_⟩, Lib.hid ?_, Lib.hid ?_, Lib.hid (heap_some_ext hcl.out ?_)⟩
              · (repeat (first | exact Ext.refl _ | assumption | refine Ext.alloc ?_ _ | refine Ext.ext ?_ _ | refine Ext.drew ?_))
              · (repeat (first | (refine heap_new _ _ ?_; focus (first | rfl | (simp; done) | (simp <;> omega; done))) | refine heap_ext1 ?_ | refine heap_drew1 ?_ | refine heap_alloc1 ?_))
              · (first | (refine OI.ext u1.out ?_; (repeat (first | exact Ext.refl _ | assumption | refine Ext.alloc ?_ _ | refine Ext.ext ?_ _ | refine Ext.drew ?_)); done) | (refine OI.turnA (b := W.heap.size) (z := #[.int .i64 0, .slice none 0 0, .bool false, .int .i64 0, .slice none 0 0, .bool false, .int .i64 0, .bool false]) u1.out ?_ ?_; (focus ((repeat (first | exact Like.refl _ _ | refine like_drew ?_ | refine Like.ext ?_ _ | refine Like.alloc ?_ _ | (refine Like.swap ?_ ?_ _ _; rotate_left; (focus (first | rfl | (simp; done) | (simp <;> omega; done)))))); done)); (repeat (first | (refine heap_new _ _ ?_; focus (first | rfl | (simp; done) | (simp <;> omega; done))) | refine heap_ext1 ?_ | refine heap_drew1 ?_ | refine heap_alloc1 ?_)); done) | (refine OI.turnA (b := W.heap.size + d1.size) (z := #[.int .i64 0, .slice none 0 0, .bool false, .int .i64 0, .slice none 0 0, .bool false, .int .i64 0, .bool false]) u1.out ?_ ?_; (focus ((repeat (first | exact Like.refl _ _ | refine like_drew ?_ | refine Like.ext ?_ _ | refine Like.alloc ?_ _ | (refine Like.swap ?_ ?_ _ _; rotate_left; (focus (first | rfl | (simp; done) | (simp <;> omega; done)))))); done)); (repeat (first | (refine heap_new _ _ ?_; focus (first | rfl | (simp; done) | (simp <;> omega; done))) | refine heap_ext1 ?_ | refine heap_drew1 ?_ | refine heap_alloc1 ?_)); done) | (refine OI.turnA (b := W.heap.size + d1.size + d2.size) (z := #[.int .i64 0, .slice none 0 0, .bool false, .int .i64 0, .slice none 0 0, .bool false, .int .i64 0, .bool false]) u1.out ?_ ?_; (focus ((repeat (first | exact Like.refl _ _ | refine like_drew ?_ | refine Like.ext ?_ _ | refine Like.alloc ?_ _ | (refine Like.swap ?_ ?_ _ _; rotate_left; (focus (first | rfl | (simp; done) | (simp <;> omega; done)))))); done)); (repeat (first | (refine heap_new _ _ ?_; focus (first | rfl | (simp; done) | (simp <;> omega; done))) | refine heap_ext1 ?_ | refine heap_drew1 ?_ | refine heap_alloc1 ?_)); done))
              · (first | (refine OI.ext u2.out ?_; (repeat (first | exact Ext.refl _ | assumption | refine Ext.alloc ?_ _ | refine Ext.ext ?_ _ | refine Ext.drew ?_)); done) | (refine OI.turnA (b := W.heap.size) (z := #[.int .i64 0, .slice none 0 0, .bool false, .int .i64 0, .slice none 0 0, .bool false, .int .i64 0, .bool false]) u2.out ?_ ?_; (focus ((repeat (first | exact Like.refl _ _ | refine like_drew ?_ | refine Like.ext ?_ _ | refine Like.alloc ?_ _ | (refine Like.swap ?_ ?_ _ _; rotate_left; (focus (first | rfl | (simp; done) | (simp <;> omega; done)))))); done)); (repeat (first | (refine heap_new _ _ ?_; focus (first | rfl | (simp; done) | (simp <;> omega; done))) | refine heap_ext1 ?_ | refine heap_drew1 ?_ | refine heap_alloc1 ?_)); done) | (refine OI.turnA (b := W.heap.size + d1.size) (z := #[.int .i64 0, .slice none 0 0, .bool false, .int .i64 0, .slice none 0 0, .bool false, .int .i64 0, .bool false]) u2.out ?_ ?_; (focus ((repeat (first | exact Like.refl _ _ | refine like_drew ?_ | refine Like.ext ?_ _ | refine Like.alloc ?_ _ | (refine Like.swap ?_ ?_ _ _; rotate_left; (focus (first | rfl | (simp; done) | (simp <;> omega; done)))))); done)); (repeat (first | (refine heap_new _ _ ?_; focus (first | rfl | (simp; done) | (simp <;> omega; done))) | refine heap_ext1 ?_ | refine heap_drew1 ?_ | refine heap_alloc1 ?_)); done) | (refine OI.turnA (b := W.heap.size + d1.size + d2.size) (z := #[.int .i64 0, .slice none 0 0, .bool false, .int .i64 0, .slice none 0 0, .bool false, .int .i64 0, .bool false]) u2.out ?_ ?_; (focus ((repeat (first | exact Like.refl _ _ | refine like_drew ?_ | refine Like.ext ?_ _ | refine Like.alloc ?_ _ | (refine Like.swap ?_ ?_ _ _; rotate_left; (focus (first | rfl | (simp; done) | (simp <;> omega; done)))))); done)); (repeat (first | (refine heap_new _ _ ?_; focus (first | rfl | (simp; done) | (simp <;> omega; done))) | refine heap_ext1 ?_ | refine heap_drew1 ?_ | refine heap_alloc1 ?_)); done))
              · have := st.out.si.e.size
                (first | omega | (simp <;> omega))
              · intro e
                (first | omega | (simp at e; omega))
              · (repeat (first | exact Ext.refl _ | assumption | refine Ext.alloc ?_ _ | refine Ext.ext ?_ _ | refine Ext.drew ?_))
        case rest =>
          clear y0 y1 y2 y3 y4 y5 y6 y7 c0 c1 hst hk hd0 hVl hCl
          clear st hcl
          obtain ⟨B, vs, x, T, rfl, rfl, hq, st, hT, hwT, hTV, hcl⟩ := hcut
          obtain ⟨W2, rfl⟩ : ∃ W, W = wc := ⟨_, rfl⟩
          have hfc := ends_sweep hv.out (hj.out.1 rfl)
          rcases step_cases A ⟨6, 0⟩ with ⟨c1, c2, c3⟩ | ⟨c1, c2, c3⟩
          · rw [hq.out] at c1 c2 c3 hfc
            simp only at c1 c2 c3 hfc
            have hxb : (x == 0) = false := by simpa using c1
            have hj2 := Lib.hid (hfc.2 c1)
            clear c1 c2 c3 hq hT hfc hj
            go_wp2
            go_roundg (2 - (1 + 1))
            case measure => have := hgm.out; omega
            case rel => exact ⟨1 + 1, A, by go_num, by omega, rfl, hv, Lib.hid ⟨fun h => (by cases h), fun _ => hj2.out⟩, st, hcl⟩
          · rw [hq.out] at c2 c3 hfc
            simp only at c2 c3 hfc
            subst c2
            have hvB := Lib.hid c3.valid
            have hj2 := Lib.hid (hfc.1 rfl)
            obtain ⟨la1, lc1, ha1, hc1, hT1, o1, o2⟩ := hT.out
            obtain ⟨y0, y1, y2, y3, y4, y5, y6, y7⟩ := cells_at8 hT1
            obtain ⟨la0, lc0, ha0, hc0, hV, -, -⟩ := st.out.ar
            obtain ⟨z0, z1, z2, z3, z4, z5, z6, z7⟩ := cells_at8 hV
            have yl := (Array.getElem?_eq_some_iff.1 hV).1
            have yl2 := (Array.getElem?_eq_some_iff.1 hT1).1
            have yf := heap_thaw hV
            replace hV := Lib.hid hV
            replace o1 := Lib.hid o1
            replace o2 := Lib.hid o2
            clear hT hT1 c1 c3 hfc hj
            go_upto_region 6 with fail
            obtain ⟨pg, ph⟩ := put8 (v0 := .int .i64 B.Members) (v1 := .slice la1 B.Left.length lc1) (v2 := .bool B.Open) (v3 := .int .i64 B.Eager) (v4 := .slice ha1 B.Holds.length hc1) (v5 := .bool B.Swept) (v6 := .int .i64 B.Winner) (v7 := .bool B.Done) hV.out
            clear y0 y1 y2 y3 y4 y5 y6 y7 z0 z1 z2 z3 z4 z5 z6 z7 yf yl yl2
            (refine gen_at5 (p := fun W => Code.wp _ _ _ _ W) ?_)
            intro W hW
            rw [← hW] at pg ph
            clear hW
            replace st := Lib.hid (st.out.put pg ph o1.out o2.out)
            replace hcl : Hid (W.heap[C]? = some (.cells closing 26)) := Lib.hid (heap_kept pg hcl.out (U := 24) (fun k e => by cases e; exact ⟨_, _, hV.out⟩) (by decide))
            clear pg ph hV o1 o2
            go_wp2
            go_roundg (2 - (1 + 1))
            case measure => have := hgm.out; omega
            case rel => exact ⟨1 + 1, B, by go_num, by omega, rfl, hvB, Lib.hid ⟨fun h => (by cases h), fun _ => hj2.out⟩, st, hcl⟩
    · obtain rfl : i = 2 := by omega
      have hsw := Lib.hid (hj.out.2 rfl)
      clear hj hcl hgm hlt hi
      go_wp2
      go_loopg [10, 11, 12, 13] A.Holds.length (fun g v10 v11 v12 v13 wr => ∃ (A : Arn), g = A.Holds.length ∧ Hid (Valid A) ∧ Hid (sweptOr A) ∧ Hid (SSt w S m V A wr))
      case atStart => exact ⟨A, rfl, hv, hsw, st⟩
      case round =>
        clear hv hsw st
        obtain ⟨A, hgm, hv, hsw, st⟩ := hrel
        obtain ⟨W, rfl⟩ : ∃ W, W = wr := ⟨_, rfl⟩
        replace hgm := Lib.hid hgm
        obtain ⟨la, lc, ha, hc, hV, oL, oH⟩ := st.out.ar
        by_cases h0 : A.Holds.length = 0
        · have hD := ends_done hv.out hsw.out h0
          have hck := Check_ok A la ha lc hc W (by have := left_len hv.out; omega) (by have := holds_len hv.out; omega) oL.rep oH.rep
          rw [(check_zero A).2 hv.out] at hck
          obtain ⟨y0, y1, y2, y3, y4, y5, y6, y7⟩ := cells_at8 hV
          have yl := (Array.getElem?_eq_some_iff.1 hV).1
          rw [h0] at hck y4
          rw [hD] at hck y7
          replace hck := Lib.hid hck
          clear hV oL oH h0 hD hgm
          go_wp2_with fail
          refine Calls.mono hck.out ?_
          rintro _ W5 ⟨rfl, d5, rfl⟩
          go_wp2_with fail
          refine Calls.mono (awake_ok _) ?_
          rintro _ _ ⟨rfl, d6, rfl⟩
          go_wp2
          go_ret
          exact ⟨rfl, (st.out.si.e.ext d5).ext d6⟩
        have hne : A.Holds ≠ [] := fun h => h0 (by rw [h]; rfl)
        obtain ⟨b, off, rfl, hi, hbS, hbl⟩ := oH.spot st.out.si hne
        have hi := Lib.hid hi
        have hlen := holds_len hv.out
        obtain ⟨n, hn⟩ : ∃ n, n = A.Holds.length := ⟨_, rfl⟩
        have hst := astep_at st.out.si oL oH hv.out
        have hn1 := Lib.hid (n_at st.out.si.ok 2 (by omega))
        have hn2 := Lib.hid (n_at st.out.si.ok n (by omega))
        have hV0 := hV
        rw [← hn] at hst hV h0 hlen
        replace hst := Lib.hid hst
        have hk : Hid (∀ X : World, Drawn W S m 0 X → X.cell? ⟨V, 0, none⟩ = some (.int .i64 A.Members) ∧ X.cell? ⟨V, 1, none⟩ = some (.slice la A.Left.length lc) ∧ X.cell? ⟨V, 2, none⟩ = some (.bool A.Open) ∧ X.cell? ⟨V, 3, none⟩ = some (.int .i64 A.Eager) ∧ X.cell? ⟨V, 4, none⟩ = some (.slice (some ⟨b, off, none⟩) n hc) ∧ X.cell? ⟨V, 5, none⟩ = some (.bool A.Swept) ∧ X.cell? ⟨V, 6, none⟩ = some (.int .i64 A.Winner) ∧ X.cell? ⟨V, 7, none⟩ = some (.bool A.Done) ∧ (∀ k, k < n → X.cell? ⟨b, off + k, none⟩ = some (.int .i64 (hnth A.Holds k)))) := Lib.hid fun X hd => by
          obtain ⟨e0, e1, e2, e3, e4, e5, e6, e7⟩ := cells_at8 (drawn_heap hd hV (fun e => st.out.ne e.symm))
          refine ⟨e0, e1, e2, e3, e4, e5, e6, e7, fun k hk => ?_⟩
          have h1 := hi.out k _ (hnth_get A.Holds k (by omega))
          obtain ⟨at', d, _, _, rfl⟩ := hd
          refine (Ext.ext (Ext.refl _) d).cell_some ?_
          simp only [World.cell?, sc_heap_ne hbS]
          simpa only [World.cell?] using h1
        have hd0 := Lib.hid (G.Drawn.refl2 st.out.si.ok)
        have hSV := st.out.ne
        have hVS : V ≠ S := fun e => hSV e.symm
        have hSb : S ≠ b := fun e => hbS e.symm
        have hSl := st.out.si.ok.lt
        have hVl := (Array.getElem?_eq_some_iff.1 hV).1
        have hk0 := hk.out W hd0.out
        have hpos : 0 < n := by omega
        have hd1 : decide (0 < (n : Int)) = true := decide_eq_true (by omega)
        replace hn := Lib.hid hn
        obtain ⟨y0, y1, y2, y3, y4, y5, y6, y7, y9⟩ := hk0
        clear hV hV0 oL oH hne
        go_upto_region 12 with fail
        go_cut [11, 12, 13] (fun v11 v12 v13 wx => ∃ (K M : Int) (B : Arn) (vs : List Vd) (x : Int) (T : Nat), v11 = .pointer (some ⟨T, 0, none⟩) ∧ v13 = .int .i64 x ∧ Hid (step A ⟨K, M⟩ = (B, vs, x)) ∧ Hid ((K = 5 ∨ K = 3) ∧ M ∈ A.Holds) ∧ Hid (SSt w S m V A wx) ∧ Hid (LAt w.heap.size wx T B) ∧ Hid (w.heap.size ≤ T) ∧ Hid (T ≠ V))
        case first =>
          go_region_held3 (fun X => X.cell? ⟨V, 0, none⟩ = some (.int .i64 A.Members) ∧ X.cell? ⟨V, 1, none⟩ = some (.slice la A.Left.length lc) ∧ X.cell? ⟨V, 2, none⟩ = some (.bool A.Open) ∧ X.cell? ⟨V, 3, none⟩ = some (.int .i64 A.Eager) ∧ X.cell? ⟨V, 4, none⟩ = some (.slice (some ⟨b, off, none⟩) n hc) ∧ X.cell? ⟨V, 5, none⟩ = some (.bool A.Swept) ∧ X.cell? ⟨V, 6, none⟩ = some (.int .i64 A.Winner) ∧ X.cell? ⟨V, 7, none⟩ = some (.bool A.Done) ∧ (∀ k, k < n → X.cell? ⟨b, off + k, none⟩ = some (.int .i64 (hnth A.Holds k))))
            (first | exact ⟨y0, y1, y2, y3, y4, y5, y6, y7, y9⟩ | (refine hk.out _ ?_; (first | (apply Drawn.of_ext; (focus assumption); (repeat (first | exact Ext.refl _ | assumption | refine Ext.alloc ?_ _ | refine Ext.ext ?_ _ | refine Ext.drew ?_)); done) | (apply Drawn.of_ext; (focus assumption); (repeat (first | exact Ext.refl _ | assumption | refine Ext.alloc ?_ _ | refine Ext.ext ?_ _ | refine Ext.drew ?_)); (rw [sc_twice _ _ _ _ rfl]); exact Ext.refl _) | (refine hd0.out.ext ?_; (repeat (first | exact Ext.refl _ | assumption | refine Ext.alloc ?_ _ | refine Ext.ext ?_ _ | refine Ext.drew ?_)); done))))
            (first
              | (go_at_call_of 18 (Value.int IntKind.i64 2); refine Calls.mono (hn1.out _ ?_) ?_; (focus (first | (apply Drawn.of_ext; (focus assumption); (repeat (first | exact Ext.refl _ | assumption | refine Ext.alloc ?_ _ | refine Ext.ext ?_ _ | refine Ext.drew ?_)); done) | (apply Drawn.of_ext; (focus assumption); (repeat (first | exact Ext.refl _ | assumption | refine Ext.alloc ?_ _ | refine Ext.ext ?_ _ | refine Ext.drew ?_)); (rw [sc_twice _ _ _ _ rfl]); exact Ext.refl _) | (refine hd0.out.ext ?_; (repeat (first | exact Ext.refl _ | assumption | refine Ext.alloc ?_ _ | refine Ext.ext ?_ _ | refine Ext.drew ?_)); done))); rintro _ _ ⟨k1, a1, d1, rfl, hk1, q1, rfl⟩; (have w1 := IntWalk.i64_in ((k1 : Int) * -2) (by omega)); (have w2 := IntWalk.i64_in (5 + (k1 : Int) * -2) (by omega)))
              | (go_at_call_of 18 (Value.int IntKind.i64 (n : Int)); refine Calls.mono (hn2.out _ ?_) ?_; (focus (first | (apply Drawn.of_ext; (focus assumption); (repeat (first | exact Ext.refl _ | assumption | refine Ext.alloc ?_ _ | refine Ext.ext ?_ _ | refine Ext.drew ?_)); done) | (apply Drawn.of_ext; (focus assumption); (repeat (first | exact Ext.refl _ | assumption | refine Ext.alloc ?_ _ | refine Ext.ext ?_ _ | refine Ext.drew ?_)); (rw [sc_twice _ _ _ _ rfl]); exact Ext.refl _) | (refine hd0.out.ext ?_; (repeat (first | exact Ext.refl _ | assumption | refine Ext.alloc ?_ _ | refine Ext.ext ?_ _ | refine Ext.drew ?_)); done))); rintro _ _ ⟨k2, a2, d2, rfl, hk2, q2, rfl⟩; (have hk3 : k2 < n := by omega); (have hmem := Lib.hid (hnth_mem A.Holds k2 (by have := hn.out; omega))))
              | (go_at_call 21; refine Calls.mono (hst.out _ _ _ ?_) ?_; (focus (first | (apply Drawn.of_ext; (focus assumption); (repeat (first | exact Ext.refl _ | assumption | refine Ext.alloc ?_ _ | refine Ext.ext ?_ _ | refine Ext.drew ?_)); done) | (apply Drawn.of_ext; (focus assumption); (repeat (first | exact Ext.refl _ | assumption | refine Ext.alloc ?_ _ | refine Ext.ext ?_ _ | refine Ext.drew ?_)); (rw [sc_twice _ _ _ _ rfl]); exact Ext.refl _) | (refine hd0.out.ext ?_; (repeat (first | exact Ext.refl _ | assumption | refine Ext.alloc ?_ _ | refine Ext.ext ?_ _ | refine Ext.drew ?_)); done))); rintro _ _ ⟨B, vs, x, la', lc', ha', hc', va, vc, d3, rfl, hq, u1, u2, rfl⟩))
          all_goals
            clear hst hk hn1 hn2
            try clear hHeld
          all_goals
            go_wp2
            go_meet
            case rel =>
              refine ⟨_, _, B, vs, x, _, rfl, rfl, hq, Lib.hid ⟨?_, hmem.out⟩, Lib.hid (st.out.drawn (a := 0) ?_), Lib.hid ⟨la', lc', ha', hc', ?_, .inr ?_, .inr ?_⟩, Lib.hid ?_, Lib.hid ?_⟩
              · (first | omega | (simp only [w1, w2]; omega))
              · (first | (apply Drawn.of_ext; (focus assumption); (repeat (first | exact Ext.refl _ | assumption | refine Ext.alloc ?_ _ | refine Ext.ext ?_ _ | refine Ext.drew ?_)); done) | (apply Drawn.of_ext; (focus assumption); (repeat (first | exact Ext.refl _ | assumption | refine Ext.alloc ?_ _ | refine Ext.ext ?_ _ | refine Ext.drew ?_)); (rw [sc_twice _ _ _ _ rfl]); exact Ext.refl _) | (refine hd0.out.ext ?_; (repeat (first | exact Ext.refl _ | assumption | refine Ext.alloc ?_ _ | refine Ext.ext ?_ _ | refine Ext.drew ?_)); done))
              · (repeat (first | (refine heap_new _ _ ?_; focus (first | rfl | (simp; done) | (simp <;> omega; done))) | refine heap_ext1 ?_ | refine heap_drew1 ?_ | refine heap_alloc1 ?_))
              · (first | (refine OI.ext u1.out ?_; (repeat (first | exact Ext.refl _ | assumption | refine Ext.alloc ?_ _ | refine Ext.ext ?_ _ | refine Ext.drew ?_)); done) | (refine OI.turnA (b := W.heap.size) (z := #[.int .i64 0, .slice none 0 0, .bool false, .int .i64 0, .slice none 0 0, .bool false, .int .i64 0, .bool false]) u1.out ?_ ?_; (focus ((repeat (first | exact Like.refl _ _ | refine like_drew ?_ | refine Like.ext ?_ _ | refine Like.alloc ?_ _ | (refine Like.swap ?_ ?_ _ _; rotate_left; (focus (first | rfl | (simp; done) | (simp <;> omega; done)))))); done)); (repeat (first | (refine heap_new _ _ ?_; focus (first | rfl | (simp; done) | (simp <;> omega; done))) | refine heap_ext1 ?_ | refine heap_drew1 ?_ | refine heap_alloc1 ?_)); done) | (refine OI.turnA (b := W.heap.size + d1.size) (z := #[.int .i64 0, .slice none 0 0, .bool false, .int .i64 0, .slice none 0 0, .bool false, .int .i64 0, .bool false]) u1.out ?_ ?_; (focus ((repeat (first | exact Like.refl _ _ | refine like_drew ?_ | refine Like.ext ?_ _ | refine Like.alloc ?_ _ | (refine Like.swap ?_ ?_ _ _; rotate_left; (focus (first | rfl | (simp; done) | (simp <;> omega; done)))))); done)); (repeat (first | (refine heap_new _ _ ?_; focus (first | rfl | (simp; done) | (simp <;> omega; done))) | refine heap_ext1 ?_ | refine heap_drew1 ?_ | refine heap_alloc1 ?_)); done) | (refine OI.turnA (b := W.heap.size + d1.size + d2.size) (z := #[.int .i64 0, .slice none 0 0, .bool false, .int .i64 0, .slice none 0 0, .bool false, .int .i64 0, .bool false]) u1.out ?_ ?_; (focus ((repeat (first | exact Like.refl _ _ | refine like_drew ?_ | refine Like.ext ?_ _ | refine Like.alloc ?_ _ | (refine Like.swap ?_ ?_ _ _; rotate_left; (focus (first | rfl | (simp; done) | (simp <;> omega; done)))))); done)); (repeat (first | (refine heap_new _ _ ?_; focus (first | rfl | (simp; done) | (simp <;> omega; done))) | refine heap_ext1 ?_ | refine heap_drew1 ?_ | refine heap_alloc1 ?_)); done))
              · (first | (refine OI.ext u2.out ?_; (repeat (first | exact Ext.refl _ | assumption | refine Ext.alloc ?_ _ | refine Ext.ext ?_ _ | refine Ext.drew ?_)); done) | (refine OI.turnA (b := W.heap.size) (z := #[.int .i64 0, .slice none 0 0, .bool false, .int .i64 0, .slice none 0 0, .bool false, .int .i64 0, .bool false]) u2.out ?_ ?_; (focus ((repeat (first | exact Like.refl _ _ | refine like_drew ?_ | refine Like.ext ?_ _ | refine Like.alloc ?_ _ | (refine Like.swap ?_ ?_ _ _; rotate_left; (focus (first | rfl | (simp; done) | (simp <;> omega; done)))))); done)); (repeat (first | (refine heap_new _ _ ?_; focus (first | rfl | (simp; done) | (simp <;> omega; done))) | refine heap_ext1 ?_ | refine heap_drew1 ?_ | refine heap_alloc1 ?_)); done) | (refine OI.turnA (b := W.heap.size + d1.size) (z := #[.int .i64 0, .slice none 0 0, .bool false, .int .i64 0, .slice none 0 0, .bool false, .int .i64 0, .bool false]) u2.out ?_ ?_; (focus ((repeat (first | exact Like.refl _ _ | refine like_drew ?_ | refine Like.ext ?_ _ | refine Like.alloc ?_ _ | (refine Like.swap ?_ ?_ _ _; rotate_left; (focus (first | rfl | (simp; done) | (simp <;> omega; done)))))); done)); (repeat (first | (refine heap_new _ _ ?_; focus (first | rfl | (simp; done) | (simp <;> omega; done))) | refine heap_ext1 ?_ | refine heap_drew1 ?_ | refine heap_alloc1 ?_)); done) | (refine OI.turnA (b := W.heap.size + d1.size + d2.size) (z := #[.int .i64 0, .slice none 0 0, .bool false, .int .i64 0, .slice none 0 0, .bool false, .int .i64 0, .bool false]) u2.out ?_ ?_; (focus ((repeat (first | exact Like.refl _ _ | refine like_drew ?_ | refine Like.ext ?_ _ | refine Like.alloc ?_ _ | (refine Like.swap ?_ ?_ _ _; rotate_left; (focus (first | rfl | (simp; done) | (simp <;> omega; done)))))); done)); (repeat (first | (refine heap_new _ _ ?_; focus (first | rfl | (simp; done) | (simp <;> omega; done))) | refine heap_ext1 ?_ | refine heap_drew1 ?_ | refine heap_alloc1 ?_)); done))
              · have := st.out.si.e.size
                (first | omega | (simp <;> omega))
              · intro e
                (first | omega | (simp at e; omega))
        case rest =>
          clear y0 y1 y2 y3 y4 y5 y6 y7 y9 hst hk hd0 hVl hSV hVS hSl hn1 hn2
          clear st
          obtain ⟨K, M, B, vs, x, T, rfl, rfl, hq, hKM, st, hT, hwT, hTV⟩ := hcut
          obtain ⟨W2, rfl⟩ : ∃ W, W = wc := ⟨_, rfl⟩
          have hes := ends_step hv.out hsw.out hKM.out.1 hKM.out.2
          rw [hq.out] at hes
          simp only at hes
          obtain ⟨rfl, e2, e3, e4⟩ := hes
          replace e2 := Lib.hid e2
          replace e3 := Lib.hid e3
          rw [← hn.out] at e4
          obtain ⟨la1, lc1, ha1, hc1, hT1, o1, o2⟩ := hT.out
          obtain ⟨y0, y1, y2, y3, y4, y5, y6, y7⟩ := cells_at8 hT1
          obtain ⟨la0, lc0, ha0, hc0, hV, -, -⟩ := st.out.ar
          obtain ⟨z0, z1, z2, z3, z4, z5, z6, z7⟩ := cells_at8 hV
          have yl := (Array.getElem?_eq_some_iff.1 hV).1
          have yl2 := (Array.getElem?_eq_some_iff.1 hT1).1
          have yf := heap_thaw hV
          have dd : decide ((n : Int) ≤ (B.Holds.length : Int)) = false := decide_eq_false (by omega)
          have dd2 : decide (n ≤ B.Holds.length) = false := decide_eq_false (by omega)
          replace hV := Lib.hid hV
          replace o1 := Lib.hid o1
          replace o2 := Lib.hid o2
          clear hT hT1
          obtain ⟨pg, ph⟩ := put8 (v0 := .int .i64 B.Members) (v1 := .slice la1 B.Left.length lc1) (v2 := .bool B.Open) (v3 := .int .i64 B.Eager) (v4 := .slice ha1 B.Holds.length hc1) (v5 := .bool B.Swept) (v6 := .int .i64 B.Winner) (v7 := .bool B.Done) hV.out
          obtain ⟨W8, hW8⟩ : ∃ W8, W8 = (((((((W2.setCell ⟨V, 0, none⟩ (.int .i64 B.Members)).setCell ⟨V, 1, none⟩ (.slice la1 B.Left.length lc1)).setCell ⟨V, 2, none⟩ (.bool B.Open)).setCell ⟨V, 3, none⟩ (.int .i64 B.Eager)).setCell ⟨V, 4, none⟩ (.slice ha1 B.Holds.length hc1)).setCell ⟨V, 5, none⟩ (.bool B.Swept)).setCell ⟨V, 6, none⟩ (.int .i64 B.Winner)).setCell ⟨V, 7, none⟩ (.bool B.Done) := ⟨_, rfl⟩
          rw [← hW8] at pg ph
          replace st := Lib.hid (st.out.put pg ph o1.out o2.out)
          replace hW8 := Lib.hid hW8
          clear pg ph hV o1 o2
          go_wp2
          rw [← hW8.out]
          go_roundg B.Holds.length
          case measure => have := hgm.out; have := hn.out; omega
          case rel => exact ⟨B, rfl, e2, e3, st⟩
end Go.Proofs.Ytcnmljpabmgieaa.R
