/- ArenaVerdicts: the walk. -/
import Derived.Test.YtcnmljpabmgieaaAr21
import Derived.Test.YtcnmljpabmgieaaAr22
import Derived.Test.YtcnmljpabmgieaaDr1
import Derived.Deep.RegionHeld3
import Derived.WalkKit
import Derived.WalkSpells
import Derived.WalkLawsBesides
import Derived.Deep.QuietTactic
import Derived.BigQuiet
import Derived.BigRegion
import Derived.Lib.Hide
import Derived.Deep.RegionWith
set_option linter.unusedSimpArgs false
set_option linter.unusedVariables false
namespace Go.Proofs.Ytcnmljpabmgieaa.R
open Go.RowKit
open G (SrcOk SrcIn Drawn drawn_heap arenaEvent_ok more_ok n_ok new_in)
/-- an arena lies in a variable, none of its rows at the block G -/
def ArN (W : World) (V G : Nat) (a : Arn) : Prop := ∃ la lc ha hc, W.heap[V]? = some (.cells #[.int .i64 (a).Members, .slice la (a).Left.length lc, .bool (a).Open, .int .i64 (a).Eager, .slice ha (a).Holds.length hc, .bool (a).Swept, .int .i64 (a).Winner, .bool (a).Done] 24) ∧ OI 0 W la lc a.Left ∧ OI 0 W ha hc a.Holds ∧ (∀ k, (Value.slice la a.Left.length lc).ownBlock = some k → k ≠ G) ∧ (∀ k, (Value.slice ha a.Holds.length hc).ownBlock = some k → k ≠ G)
/-- what the law keeps: a reader at S, the arena at V, the verdicts' numbers at G -/
structure VSt (w : World) (S m V G n : Nat) (A : Arn) (p : Int → Bool) (wr : World) : Prop where
  si : SrcIn w S m wr
  ar : ArN wr V G A
  got : wr.heap[G]? = some (.cells ((gotL n p).map (Value.int .i64)).toArray 3)
  v0 : w.heap.size ≤ V
  g0 : w.heap.size ≤ G
theorem VSt.e {w : World} {S m V G n : Nat} {A : Arn} {p : Int → Bool} {wr : World} (h : VSt w S m V G n A p wr) : Ext w wr := h.si.e
theorem VSt.src {w : World} {S m V G n : Nat} {A : Arn} {p : Int → Bool} {wr : World} (h : VSt w S m V G n A p wr) : SrcOk wr S m := h.si.ok
theorem VSt.ar_at {w : World} {S m V G n : Nat} {A : Arn} {p : Int → Bool} {wr : World} (h : VSt w S m V G n A p wr) : ArAt wr V A := let ⟨la, lc, ha, hc, h1, h2, h3, _⟩ := h.ar; ⟨la, lc, ha, hc, h1, h2, h3⟩
theorem type_ne {w : World} {a b : Nat} {x y : Array Value} {T U : TypeId} {f g : Nat × Nat} (h1 : w.heap[a]? = some (.cells x T f)) (h2 : w.heap[b]? = some (.cells y U g)) (h : T ≠ U) : a ≠ b := by
  rintro rfl
  rw [h1] at h2
  simp only [Option.some.injEq, Obj.cells.injEq] at h2
  exact h h2.2.1
theorem VSt.ne {w : World} {S m V G n : Nat} {A : Arn} {p : Int → Bool} {wr : World} (h : VSt w S m V G n A p wr) : S ≠ V ∧ S ≠ G ∧ V ≠ G := by
  obtain ⟨cs, hs⟩ := h.src.type
  obtain ⟨la, lc, ha, hc, hv, _⟩ := h.ar
  exact ⟨type_ne hs hv (by decide), type_ne hs h.got (by decide), type_ne hv h.got (by decide)⟩
theorem VSt.ext {w : World} {S m V G n : Nat} {A : Arn} {p : Int → Bool} {wr w' : World} (h : VSt w S m V G n A p wr) (he : Ext wr w') : VSt w S m V G n A p w' := by
  refine ⟨h.si.ext he, ?_, heap_some_ext h.got he, h.v0, h.g0⟩
  obtain ⟨la, lc, ha, hc, h1, h2, h3, h4, h5⟩ := h.ar
  exact ⟨la, lc, ha, hc, heap_some_ext h1 he, h2.ext he, h3.ext he, h4, h5⟩
theorem OI.drawn {B : Nat} {w w' : World} {S m a : Nat} {x : Option Addr} {c : Nat} {l : List Int} (h : OI B w x c l) (hs : SrcOk w S m) (hd : Drawn w S m a w') : OI B w' x c l := by
  obtain ⟨cs, ht⟩ := hs.type
  obtain ⟨at', d, _, _, rfl⟩ := hd
  have h1 : OI B (w.setCell ⟨S, 1, none⟩ (.int .i64 at')) x c l := row_kept h (grown_put w S 1 (.int .i64 at')) (e' := 57) (by decide) (fun b e => by cases e; exact ⟨_, _, ht⟩)
  exact h1.ext (Ext.ext (Ext.refl _) d)
theorem VSt.drawn {w : World} {S m V G n a : Nat} {A : Arn} {p : Int → Bool} {wr w' : World} (h : VSt w S m V G n A p wr) (hd : Drawn wr S m a w') : VSt w S m V G n A p w' := by
  obtain ⟨n1, n2, n3⟩ := h.ne
  refine ⟨h.si.drawn hd, ?_, drawn_heap hd h.got (fun e => n2 e.symm), h.v0, h.g0⟩
  · obtain ⟨la, lc, ha, hc, h1, h2, h3, h4, h5⟩ := h.ar
    exact ⟨la, lc, ha, hc, drawn_heap hd h1 (fun e => n1 e.symm), h2.drawn h.src hd, h3.drawn h.src hd, h4, h5⟩
theorem ArN.of {W : World} {V G : Nat} {a : Arn} {B : Nat} {la ha : Option Addr} {lc hc : Nat} (h : W.heap[V]? = some (.cells #[.int .i64 (a).Members, .slice la (a).Left.length lc, .bool (a).Open, .int .i64 (a).Eager, .slice ha (a).Holds.length hc, .bool (a).Swept, .int .i64 (a).Winner, .bool (a).Done] 24)) (h1 : OI B W la lc a.Left) (h2 : OI B W ha hc a.Holds) (hG : G < B) : ArN W V G a :=
  ⟨la, lc, ha, hc, h, h1.low, h2.low, fun k hk => by have := (own_ge h1 k hk).1; omega, fun k hk => by have := (own_ge h2 k hk).1; omega⟩
theorem made (n : Nat) (h : n < 7) (w : World) : (Instr.makeSlice 22 (.int .i64 n) (.int .i64 n)).run Try.prog w = .ok (.slice (some ⟨w.heap.size, 0, none⟩) n n) (w.alloc (.cells ((List.replicate n (0 : Int)).map (Value.int .i64)).toArray 3)) := by
  rcases (show n = 0 ∨ n = 1 ∨ n = 2 ∨ n = 3 ∨ n = 4 ∨ n = 5 ∨ n = 6 by omega) with rfl | rfl | rfl | rfl | rfl | rfl | rfl <;> kernel_rfl
/-- one step of the arena that lies in V, whatever has been drawn since W -/
theorem step_at {W : World} {S m : Nat} {A : Arn} {la ha : Option Addr} {lc hc : Nat} (hs : SrcOk W S m) (h1 : OI 0 W la lc A.Left) (h2 : OI 0 W ha hc A.Holds) (hv : Valid A) (K M : Int) (X : World) (hd : Drawn W S m 0 X) :
    Calls Try.prog 21 #[.agg #[.int .i64 (A).Members, .slice la (A).Left.length lc, .bool (A).Open, .int .i64 (A).Eager, .slice ha (A).Holds.length hc, .bool (A).Swept, .int .i64 (A).Winner, .bool (A).Done], .agg #[.int .i64 K, .int .i64 M]] X fun e X' => ∃ (B : Arn) (vs : List Vd) (x : Int) (la' : Option Addr) (lc' : Nat) (ha' : Option Addr) (hc' : Nat) (va : Option Addr) (vc : Nat) (d : Grow),
      e = .returned (.tuple #[.agg #[.int .i64 (B).Members, .slice la' (B).Left.length lc', .bool (B).Open, .int .i64 (B).Eager, .slice ha' (B).Holds.length hc', .bool (B).Swept, .int .i64 (B).Winner, .bool (B).Done], .slice va vs.length vc, .int .i64 x]) ∧ Hid (step A ⟨K, M⟩ = (B, vs, x)) ∧ Hid (OI X.heap.size (X.ext d) la' lc' B.Left) ∧ Hid (OI X.heap.size (X.ext d) ha' hc' B.Holds) ∧ Hid (OV (X.ext d) va vc vs) ∧ X' = X.ext d := by
  have := left_len hv
  have := holds_len hv
  refine (step_ok (B := X.heap.size) A K M la ha lc hc X (by omega) (by omega) (h1.drawn hs hd).rep (h2.drawn hs hd).rep (Nat.le_refl _)).mono ?_
  rintro _ _ ⟨la', lc', ha', hc', va, vc, rfl, ⟨d, rfl⟩, u1, u2, u3⟩
  exact ⟨_, _, _, la', lc', ha', hc', va, vc, d, rfl, Lib.hid rfl, Lib.hid u1, Lib.hid u2, Lib.hid u3, rfl⟩
theorem event_at {W : World} {S m : Nat} (hs : SrcOk W S m) (X : World) (hd : Drawn W S m 0 X) :
    Calls Try.prog 20 #[.pointer (some ⟨S, 0, none⟩)] X fun e X' => ∃ (K M : Int) (a : Nat) (d : Grow), e = .returned (.agg #[.int .i64 K, .int .i64 M]) ∧ a ≤ m ∧ X' = (X.setCell ⟨S, 1, none⟩ (.int .i64 a)).ext d := by
  refine (arenaEvent_ok X S m (hs.drawn hd)).mono ?_
  rintro _ _ ⟨K, M, rfl, _, _, _, _, a, d, _, h, rfl⟩
  exact ⟨K, M, a, d, rfl, h, rfl⟩
theorem cells_at8 {w : World} {V : Nat} {v0 v1 v2 v3 v4 v5 v6 v7 : Value} {T : TypeId} (h : w.heap[V]? = some (.cells #[v0, v1, v2, v3, v4, v5, v6, v7] T)) :
    w.cell? ⟨V, 0, none⟩ = some v0 ∧ w.cell? ⟨V, 1, none⟩ = some v1 ∧ w.cell? ⟨V, 2, none⟩ = some v2 ∧ w.cell? ⟨V, 3, none⟩ = some v3 ∧ w.cell? ⟨V, 4, none⟩ = some v4 ∧ w.cell? ⟨V, 5, none⟩ = some v5 ∧ w.cell? ⟨V, 6, none⟩ = some v6 ∧ w.cell? ⟨V, 7, none⟩ = some v7 :=
  ⟨heap_cell h 0, heap_cell h 1, heap_cell h 2, heap_cell h 3, heap_cell h 4, heap_cell h 5, heap_cell h 6, heap_cell h 7⟩
theorem heap_drew1 {W : World} {O : Obj} {k : Nat} (h : W.heap[k]? = some O) : W.drew.heap[k]? = some O := h
theorem like_drew {P : Nat → Prop} {X Y : World} (h : Like P X Y) : Like P X.drew Y.drew := by
  obtain ⟨h1, h2⟩ := h
  refine ⟨?_, h2⟩
  first | exact h1 | (simp only [World.drew] at h1 ⊢; simp_all)
theorem step_fin {w W wx : World} {S m V G n T b : Nat} {A B : Arn} {p : Int → Bool} {la ha : Option Addr} {lc hc : Nat} (st : VSt w S m V G n A p W) (hd : Drawn W S m 0 wx) (hT : wx.heap[T]? = some (.cells #[.int .i64 (B).Members, .slice la (B).Left.length lc, .bool (B).Open, .int .i64 (B).Eager, .slice ha (B).Holds.length hc, .bool (B).Swept, .int .i64 (B).Winner, .bool (B).Done] 24)) (h1 : OI b wx la lc B.Left) (h2 : OI b wx ha hc B.Holds) (hb : W.heap.size ≤ b) (hW : W.heap.size ≤ T) (_ : True) :
    VSt w S m V G n A p wx ∧ ArN wx T G B ∧ w.heap.size ≤ T ∧ T ≠ V := by
  have hGl := (Array.getElem?_eq_some_iff.1 st.got).1
  have hs := st.e.size
  obtain ⟨la0, lc0, ha0, hc0, hV, _⟩ := st.ar
  have hVl := (Array.getElem?_eq_some_iff.1 hV).1
  exact ⟨st.drawn hd, ArN.of hT h1 h2 (by omega), by omega, by omega⟩
theorem ownB_put {B : Nat} {w w' : World} {b : Nat} {x : Option Addr} {c : Nat} {l : List Int} (h : OI B w x c l) (hg : w.grownBy w' (some b)) (hne : ∀ k, (Value.slice x l.length c).ownBlock = some k → k ≠ b) : OI B w' x c l := by
  refine World.ownsRow.kept h hg ?_
  rcases hv : (Value.slice x l.length c).ownBlock with _ | k
  · exact .inl rfl
  · exact .inr fun e => hne k hv (by simpa using e)
theorem VSt.put {w W W' : World} {S m V G n : Nat} {A B : Arn} {p : Int → Bool} {la ha : Option Addr} {lc hc : Nat} (st : VSt w S m V G n A p W) (hg : W.grownBy W' (some V)) (hV : W'.heap[V]? = some (.cells #[.int .i64 (B).Members, .slice la (B).Left.length lc, .bool (B).Open, .int .i64 (B).Eager, .slice ha (B).Holds.length hc, .bool (B).Swept, .int .i64 (B).Winner, .bool (B).Done] 24))
    (o1 : OI 0 W la lc B.Left) (o2 : OI 0 W ha hc B.Holds) (o3 : ∀ k, (Value.slice la B.Left.length lc).ownBlock = some k → k ≠ G) (o4 : ∀ k, (Value.slice ha B.Holds.length hc).ownBlock = some k → k ≠ G) :
    VSt w S m V G n B p W' := by
  obtain ⟨n1, n2, n3⟩ := st.ne
  have hVt : ∀ b, some V = some b → ∃ cur fr, W.heap[b]? = some (.cells cur 24 fr) := fun b e => by
    cases e
    obtain ⟨_, _, _, _, h, _⟩ := st.ar
    exact ⟨_, _, h⟩
  refine ⟨st.si.grown hg st.v0 (fun e => n1 e.symm), ⟨la, lc, ha, hc, hV, o1.grownA hg hVt, o2.grownA hg hVt, o3, o4⟩, ?_, st.v0, st.g0⟩
  rw [hg.block G (Array.getElem?_eq_some_iff.1 st.got).1 (fun e => n3 (by first | simpa using e | simpa using e.symm))]
  exact st.got
theorem VSt.mark {w W : World} {S m V G n i : Nat} {B : Arn} {p q : Int → Bool} (st : VSt w S m V G n B p W) (hi : i < n) (hp : q i = false) (ho : ∀ j : Nat, j ≠ i → q j = p j) :
    VSt w S m V G n B q (W.setCell ⟨G, i, none⟩ (.int .i64 1)) := by
  obtain ⟨n1, n2, n3⟩ := st.ne
  have hg := grown_put W G i (.int .i64 1)
  refine ⟨st.si.grown hg st.g0 (fun e => n2 e.symm), ?_, ?_, st.v0, st.g0⟩
  · obtain ⟨la, lc, ha, hc, h1, h2, h3, h4, h5⟩ := st.ar
    refine ⟨la, lc, ha, hc, ?_, ownB_put h2 hg h4, ownB_put h3 hg h5, h4, h5⟩
    rw [hg.block V (Array.getElem?_eq_some_iff.1 h1).1 (fun e => n3 (by first | simpa using e | simpa using e.symm))]
    exact h1
  · rw [setCell_heap st.got, ← gotL_set n p q i hi hp ho]
    congr 2
    apply Array.ext_getElem?
    intro k
    simp only [Array.getElem?_setIfInBounds, List.getElem?_toArray, List.getElem?_map, List.getElem?_set, gotL_len, List.size_toArray, List.length_map]
    by_cases hk : i = k
    · subst hk
      simp [hi]
    · simp [hk]
theorem VSt.cell {w W : World} {S m V G n i : Nat} {B : Arn} {p : Int → Bool} (st : VSt w S m V G n B p W) (hi : i < n) : W.cell? ⟨G, i, none⟩ = some (.int .i64 (if p i then 0 else 1)) := by
  rw [heap_cell st.got]
  simp only [List.getElem?_toArray, List.getElem?_map, gotL_get n p i hi]
  rfl
theorem VSt.thaw {w W : World} {S m V G n : Nat} {B : Arn} {p : Int → Bool} (st : VSt w S m V G n B p W) (i : Nat) : W.frozen? ⟨G, i, none⟩ = false := heap_thaw st.got i
theorem VSt.same {w W : World} {S m V G n : Nat} {B : Arn} {p q : Int → Bool} (st : VSt w S m V G n B p W) (h : ∀ i : Nat, i < n → p i = q i) : VSt w S m V G n B q W :=
  ⟨st.si, st.ar, by rw [← gotL_congr n p q h]; exact st.got, st.v0, st.g0⟩
theorem OV.mark {W : World} {G i : Nat} {va : Option Addr} {vc : Nat} {vs : List Vd} {cs : Array Value} (h : OV W va vc vs) (hG : W.heap[G]? = some (.cells cs 3)) (v : Value) : OV (W.setCell ⟨G, i, none⟩ v) va vc vs :=
  row_kept h (grown_put W G i v) (e' := 3) (by decide) (fun b e => by cases e; exact ⟨_, _, hG⟩)
set_option maxRecDepth 100000 in
set_option maxHeartbeats 4000000 in
theorem verdicts_law (a : Option Addr) (ln cap : Nat) (w : World) (hc : ln ≤ cap) (hm : cap ≤ 9223372036854775807) (hl : ln = 0 ∨ ∃ b off, a = some ⟨b, off, none⟩ ∧ ∀ i, i < ln → ∃ x : Int, -9223372036854775808 ≤ x ∧ x ≤ 9223372036854775807 ∧ w.cell? ⟨b, off + i, none⟩ = some (.int .i64 x)) :
    Calls Try.prog 5 #[.slice a ln cap] w fun e w' => e = .returned (.bool true) ∧ Ext w w' := by
  have hnew := Lib.hid (new_in w a ln cap hc hm hl)
  clear hl
  go_enter Try.func5, Try.ntmps5
  go_wp2_with fail
  refine Calls.mono hnew.out ?_
  rintro _ w1 ⟨S, m, rfl, hsrc⟩
  clear hnew
  have hN := Lib.hid (n_ok w1 S m hsrc.ok 7 (by omega))
  replace hsrc := Lib.hid hsrc
  go_wp2_with fail
  refine Calls.mono hN.out ?_
  rintro _ w2 ⟨x, rfl, x0, x7, hd⟩
  obtain ⟨n, rfl⟩ : ∃ n : Nat, x = n := ⟨x.toNat, by omega⟩
  clear hN
  have hsrc2 := Lib.hid (hsrc.out.drawn hd)
  clear hd hsrc
  have hv := newA_valid n (by omega) (by omega)
  have hA := New_ok n w2 (by omega)
  obtain ⟨A, hAe⟩ : ∃ A, A = (newA n).1 := ⟨_, rfl⟩
  have hAm : A.Members = n := by rw [hAe]; unfold newA; rw [if_neg (by omega)]
  have hAh : A.Holds = [] := by rw [hAe]; unfold newA; rw [if_neg (by omega)]
  have hAw : winsA A = 0 := by rw [hAe]; exact start_wins n (by omega) (by omega)
  have hAg : gotL n (leftP A) = List.replicate n 0 := by rw [hAe]; exact start_got n (by omega)
  simp only [← hAe] at hA hv
  replace hA := Lib.hid hA
  replace hv := Lib.hid hv
  replace hAm := Lib.hid hAm
  replace hAh := Lib.hid hAh
  replace hAw := Lib.hid hAw
  replace hAg := Lib.hid hAg
  clear hAe
  go_wp2_with fail
  refine Calls.mono hA.out ?_
  rintro _ w3 ⟨la, lc, rfl, he3, oL⟩
  replace he3 := Lib.hid he3
  replace oL := Lib.hid oL
  clear hA
  have hmk := made n (by omega)
  go_upto_region 7 with fail
  refine gen_at5 (p := fun W => Code.wp _ _ _ _ W) ?_
  intro W hW
  have st : Hid (VSt w S m w3.heap.size (w3.heap.size + 1) n A (leftP A) W) := Lib.hid (by
    have h1 := hsrc2.out.e.size
    have h2 := he3.out.size
    refine ⟨?_, ?_, ?_, by omega, by omega⟩
    · rw [hW]
      exact (hsrc2.out.ext he3.out).ext (by (repeat (first | exact Ext.refl _ | assumption | refine Ext.alloc ?_ _ | refine Ext.ext ?_ _ | refine Ext.drew ?_)))
    · refine ⟨la, lc, none, 0, by rw [hW]; (repeat (first | (refine heap_new _ _ ?_; focus (first | with_reducible rfl | (simp only [World.size_ext, World.size_alloc]; done))) | refine heap_ext1 ?_ | refine heap_alloc1 ?_)), by rw [hW]; exact oL.out.ext (by (repeat (first | exact Ext.refl _ | assumption | refine Ext.alloc ?_ _ | refine Ext.ext ?_ _ | refine Ext.drew ?_))), by rw [hAh.out]; exact OI.nil _ _, fun k hk => ?_, fun k hk => by cases hk⟩
      have := (own_ge oL.out k hk).2
      omega
    · rw [hW, hAg.out]
      refine (heap_new _ _ (by simp)).trans ?_
      simp)
  obtain ⟨V, hV0⟩ : ∃ V, w3.heap.size = V := ⟨_, rfl⟩
  rw [hV0] at st
  obtain ⟨G, hG0⟩ : ∃ G, V + 1 = G := ⟨_, rfl⟩
  rw [hG0] at st
  simp only [hV0, hG0]
  clear hW hV0 hG0 hAg hmk oL he3 hsrc2
  go_wp2
  go_loopg [8, 9, 10, 11, 12, 13, 14] 30 (fun g v8 v9 v10 v11 v12 v13 v14 wr => ∃ (i : Nat) (A : Arn), v8 = .int .i64 (winsA A) ∧ v9 = .int .i64 i ∧ i ≤ 30 ∧ g = 30 - i ∧ Hid (Valid A) ∧ Hid (A.Members = n) ∧ Hid (VSt w S m V G n A (leftP A) wr))
  case atStart => exact ⟨0, A, by rw [hAw.out], rfl, by omega, rfl, hv, hAm, st⟩
  case round =>
    clear hv hAm st hAw hAh
    obtain ⟨i, A, rfl, rfl, hi, hgm, hv, hAm, st⟩ := hrel
    obtain ⟨wl, hwl⟩ : ∃ wl, wl = wr := ⟨_, rfl⟩
    replace hgm := Lib.hid hgm
    have hmo := Lib.hid (more_ok wr S m st.out.src)
    have hbr : (decide ((i : Int) < 30) = false ∧ decide (i < 30) = false) ∨ (decide ((i : Int) < 30) = true ∧ decide (i < 30) = true ∧ ((decide ((i : Int) < 4) = true ∧ decide (i < 4) = true) ∨ (decide ((i : Int) < 4) = false ∧ decide (i < 4) = false))) := by
      by_cases h : i < 30
      · by_cases h2 : i < 4
        · exact .inr ⟨decide_eq_true (by omega), decide_eq_true h, .inl ⟨decide_eq_true (by omega), decide_eq_true h2⟩⟩
        · exact .inr ⟨decide_eq_true (by omega), decide_eq_true h, .inr ⟨decide_eq_false (by omega), decide_eq_false h2⟩⟩
      · exact .inl ⟨decide_eq_false (by omega), decide_eq_false h⟩
    go_upto_region 8 with fail
    go_cut [38] (fun v38 wc => ∃ t : Bool, v38 = .bool t ∧ Hid (t = true → i < 30) ∧ Hid (Ext wr wc))
    case first =>
      rcases hbr with ⟨b1, b2⟩ | ⟨b1, b2, ⟨b3, b4⟩ | ⟨b3, b4⟩⟩
      · go_wp2
        go_meet
        case rel => exact ⟨false, rfl, Lib.hid (fun h => by cases h), Lib.hid (Ext.refl _)⟩
      · go_wp2
        go_meet
        case rel => exact ⟨true, rfl, Lib.hid (fun _ => by simpa using b2), Lib.hid (Ext.refl _)⟩
      · go_wp2_with fail
        refine Calls.mono hmo.out ?_
        rintro _ w4 ⟨t, rfl, he⟩
        replace he := Lib.hid he
        go_wp2
        go_meet
        case rel => exact ⟨t, rfl, Lib.hid (fun _ => by simpa using b2), he⟩
    case rest =>
      clear hbr hmo
      obtain ⟨t, rfl, hti, he⟩ := hcut
      replace st := Lib.hid (st.out.ext he.out)
      clear he
      cases t
      · clear hti hwl hgm
        obtain ⟨W, rfl⟩ : ∃ W, W = wc := ⟨_, rfl⟩
        obtain ⟨la, lc, ha, hc, hV, -, -, -, -⟩ := st.out.ar
        have z6 := heap_cell hV 6
        have z7 := heap_cell hV 7
        simp only [List.getElem?_toArray, List.getElem?_cons_succ, List.getElem?_cons_zero] at z6 z7
        have zl := (Array.getElem?_eq_some_iff.1 hV).1
        have Gl := (Array.getElem?_eq_some_iff.1 st.out.got).1
        clear hV
        go_wp2
        go_loopg [15] n (fun g v15 wr => ∃ (k : Nat), v15 = .int .i64 k ∧ k ≤ n ∧ g = n - k ∧ wr = W)
        case atStart => exact ⟨0, rfl, Nat.zero_le _, rfl, rfl⟩
        case round =>
          obtain ⟨k, rfl, hk, hgk, hwr⟩ := hrel
          subst hwr
          replace hgk := Lib.hid hgk
          by_cases hlt : k < n
          · have hc := st.out.cell hlt
            rcases hD : A.Done with _ | _
            · rw [hD] at z7
              clear hc
              go_wp2
              go_roundg (n - (k + 1))
              case measure => have := hgk.out; omega
              case rel => exact ⟨k + 1, by go_num, by omega, rfl, rfl⟩
            · rw [hD] at z7
              have h1 := done_got hv.out hD n k hlt
              rw [gotL_get n _ k hlt] at h1
              simp only [Option.some.injEq] at h1
              rw [h1] at hc
              clear h1
              go_wp2
              go_roundg (n - (k + 1))
              case measure => have := hgk.out; omega
              case rel => exact ⟨k + 1, by go_num, by omega, rfl, rfl⟩
          · obtain rfl : k = n := by omega
            have he := winsA_eq hv.out
            obtain ⟨wi, hwi⟩ : ∃ wi, winsA A = wi := ⟨_, rfl⟩
            rw [hwi] at he ⊢
            rcases hb : decide (0 ≤ A.Winner) with _ | _
            all_goals
              rw [hb] at he
              clear hwi
              go_wp2_with fail
              refine Calls.mono (awake_ok _) ?_
              rintro _ _ ⟨rfl, d2, rfl⟩
              go_wp2
              go_ret
              exact ⟨rfl, st.out.e.ext d2⟩
      · replace hti := hti.out rfl
        obtain ⟨W, rfl⟩ : ∃ W, W = wc := ⟨_, rfl⟩
        clear hwl
        obtain ⟨la, lc, ha, hc, hV, oL, oH, -, -⟩ := st.out.ar
        have hev := Lib.hid (event_at st.out.src)
        have hst := Lib.hid (step_at st.out.src oL oH hv.out)
        have hk : Hid (∀ X, Drawn W S m 0 X → _) := Lib.hid fun X hd => cells_at8 (drawn_heap hd hV (fun e => st.out.ne.1 e.symm))
        have hd0 := Lib.hid (Drawn.refl2 st.out.src)
        have hSV := st.out.ne.1
        have hSl := st.out.src.lt
        have hVl := (Array.getElem?_eq_some_iff.1 hV).1
        have hk0 := hk.out W hd0.out
        clear hV oL oH
        obtain ⟨y0, y1, y2, y3, y4, y5, y6, y7⟩ := hk0
        go_upto_region 10 with fail
        go_cut [10, 11, 12] (fun v10 v11 v12 wx => ∃ (K M : Int) (B : Arn) (vs : List Vd) (x : Int) (T : Nat) (va : Option Addr) (vc : Nat), v10 = .pointer (some ⟨T, 0, none⟩) ∧ v11 = .slice va vs.length vc ∧ v12 = .int .i64 x ∧ Hid (step A ⟨K, M⟩ = (B, vs, x)) ∧ Hid (VSt w S m V G n A (leftP A) wx) ∧ Hid (ArN wx T G B) ∧ Hid (OV wx va vc vs) ∧ Hid (w.heap.size ≤ T) ∧ Hid (T ≠ V))
        case first =>
          go_region_held3 (fun X => X.cell? ⟨V, 0, none⟩ = some (.int .i64 A.Members) ∧ X.cell? ⟨V, 1, none⟩ = some (.slice la A.Left.length lc) ∧ X.cell? ⟨V, 2, none⟩ = some (.bool A.Open) ∧ X.cell? ⟨V, 3, none⟩ = some (.int .i64 A.Eager) ∧ X.cell? ⟨V, 4, none⟩ = some (.slice ha A.Holds.length hc) ∧ X.cell? ⟨V, 5, none⟩ = some (.bool A.Swept) ∧ X.cell? ⟨V, 6, none⟩ = some (.int .i64 A.Winner) ∧ X.cell? ⟨V, 7, none⟩ = some (.bool A.Done))
            (first | exact ⟨y0, y1, y2, y3, y4, y5, y6, y7⟩ | (refine hk.out _ ?_; (first | (apply Drawn.of_ext; (focus assumption); (repeat (first | exact Ext.refl _ | assumption | refine Ext.alloc ?_ _ | refine Ext.ext ?_ _ | refine Ext.drew ?_)); done) | (refine hd0.out.ext ?_; (repeat (first | exact Ext.refl _ | assumption | refine Ext.alloc ?_ _ | refine Ext.ext ?_ _ | refine Ext.drew ?_)); done))))
            (first
              | (go_at_call 20; refine Calls.mono (hev.out _ ?_) ?_; (focus (first | (apply Drawn.of_ext; (focus assumption); (repeat (first | exact Ext.refl _ | assumption | refine Ext.alloc ?_ _ | refine Ext.ext ?_ _ | refine Ext.drew ?_)); done) | (refine hd0.out.ext ?_; (repeat (first | exact Ext.refl _ | assumption | refine Ext.alloc ?_ _ | refine Ext.ext ?_ _ | refine Ext.drew ?_)); done))); rintro _ _ ⟨K, M, a1, d1, rfl, q1, rfl⟩)
              | (go_at_call 21; refine Calls.mono (hst.out _ _ _ ?_) ?_; (focus (first | (apply Drawn.of_ext; (focus assumption); (repeat (first | exact Ext.refl _ | assumption | refine Ext.alloc ?_ _ | refine Ext.ext ?_ _ | refine Ext.drew ?_)); done) | (refine hd0.out.ext ?_; (repeat (first | exact Ext.refl _ | assumption | refine Ext.alloc ?_ _ | refine Ext.ext ?_ _ | refine Ext.drew ?_)); done))); rintro _ _ ⟨B, vs, x, la', lc', ha', hc', va, vc, d2, rfl, hq, u1, u2, u3, rfl⟩))
          all_goals
            clear hev hst hk
            try clear hHeld
          focus
            have hT : ((((W.setCell ⟨S, 1, none⟩ (.int .i64 a1)).drew.ext d1).ext d2).alloc (.cells #[.int .i64 (B).Members, .slice la' (B).Left.length lc', .bool (B).Open, .int .i64 (B).Eager, .slice ha' (B).Holds.length hc', .bool (B).Swept, .int .i64 (B).Winner, .bool (B).Done] 24)).heap[W.heap.size + d1.size + d2.size]? = some (.cells #[.int .i64 (B).Members, .slice la' (B).Left.length lc', .bool (B).Open, .int .i64 (B).Eager, .slice ha' (B).Holds.length hc', .bool (B).Swept, .int .i64 (B).Winner, .bool (B).Done] 24) := heap_new _ _ (by simp)
            have hD : Drawn W S m 0 ((((W.setCell ⟨S, 1, none⟩ (.int .i64 a1)).drew.ext d1).ext d2).alloc (.cells #[.int .i64 (B).Members, .slice la' (B).Left.length lc', .bool (B).Open, .int .i64 (B).Eager, .slice ha' (B).Holds.length hc', .bool (B).Swept, .int .i64 (B).Winner, .bool (B).Done] 24)) := by (first | (apply Drawn.of_ext; (focus assumption); (repeat (first | exact Ext.refl _ | assumption | refine Ext.alloc ?_ _ | refine Ext.ext ?_ _ | refine Ext.drew ?_)); done) | (refine hd0.out.ext ?_; (repeat (first | exact Ext.refl _ | assumption | refine Ext.alloc ?_ _ | refine Ext.ext ?_ _ | refine Ext.drew ?_)); done))
            have hf := Lib.hid (step_fin st.out hD hT (OI.ext u1.out (by (repeat (first | exact Ext.refl _ | assumption | refine Ext.alloc ?_ _ | refine Ext.ext ?_ _ | refine Ext.drew ?_)))) (OI.ext u2.out (by (repeat (first | exact Ext.refl _ | assumption | refine Ext.alloc ?_ _ | refine Ext.ext ?_ _ | refine Ext.drew ?_)))) (by simp <;> omega) (by omega) trivial)
            have hv := Lib.hid (OV.ext (w' := (((W.setCell ⟨S, 1, none⟩ (.int .i64 a1)).drew.ext d1).ext d2).alloc (.cells #[.int .i64 (B).Members, .slice la' (B).Left.length lc', .bool (B).Open, .int .i64 (B).Eager, .slice ha' (B).Holds.length hc', .bool (B).Swept, .int .i64 (B).Winner, .bool (B).Done] 24)) u3.out (by (repeat (first | exact Ext.refl _ | assumption | refine Ext.alloc ?_ _ | refine Ext.ext ?_ _ | refine Ext.drew ?_))))
            clear hT hD
            go_wp2
            go_meet
            case rel =>
              exact ⟨K, M, B, vs, x, _, va, vc, rfl, rfl, rfl, hq, Lib.hid hf.out.1, Lib.hid hf.out.2.1, hv, Lib.hid hf.out.2.2.1, Lib.hid hf.out.2.2.2⟩
          focus
            have hz : ((((W.setCell ⟨S, 1, none⟩ (.int .i64 a1)).drew.ext d1).alloc (.cells #[.int .i64 0, .slice none 0 0, .bool false, .int .i64 0, .slice none 0 0, .bool false, .int .i64 0, .bool false] 24)).ext d2).heap[W.heap.size + d1.size]? = some (.cells #[.int .i64 0, .slice none 0 0, .bool false, .int .i64 0, .slice none 0 0, .bool false, .int .i64 0, .bool false] 24) := heap_ext1 (heap_new _ _ (by simp))
            have hT : ((((W.setCell ⟨S, 1, none⟩ (.int .i64 a1)).drew.ext d1).alloc (.cells #[.int .i64 (B).Members, .slice la' (B).Left.length lc', .bool (B).Open, .int .i64 (B).Eager, .slice ha' (B).Holds.length hc', .bool (B).Swept, .int .i64 (B).Winner, .bool (B).Done] 24)).ext d2).heap[W.heap.size + d1.size]? = some (.cells #[.int .i64 (B).Members, .slice la' (B).Left.length lc', .bool (B).Open, .int .i64 (B).Eager, .slice ha' (B).Holds.length hc', .bool (B).Swept, .int .i64 (B).Winner, .bool (B).Done] 24) := heap_ext1 (heap_new _ _ (by simp))
            have hD : Drawn W S m 0 ((((W.setCell ⟨S, 1, none⟩ (.int .i64 a1)).drew.ext d1).alloc (.cells #[.int .i64 (B).Members, .slice la' (B).Left.length lc', .bool (B).Open, .int .i64 (B).Eager, .slice ha' (B).Holds.length hc', .bool (B).Swept, .int .i64 (B).Winner, .bool (B).Done] 24)).ext d2) := by (first | (apply Drawn.of_ext; (focus assumption); (repeat (first | exact Ext.refl _ | assumption | refine Ext.alloc ?_ _ | refine Ext.ext ?_ _ | refine Ext.drew ?_)); done) | (refine hd0.out.ext ?_; (repeat (first | exact Ext.refl _ | assumption | refine Ext.alloc ?_ _ | refine Ext.ext ?_ _ | refine Ext.drew ?_)); done))
            have hL : Like (fun k => k = W.heap.size + d1.size) ((((W.setCell ⟨S, 1, none⟩ (.int .i64 a1)).drew.ext d1).alloc (.cells #[.int .i64 0, .slice none 0 0, .bool false, .int .i64 0, .slice none 0 0, .bool false, .int .i64 0, .bool false] 24)).ext d2) ((((W.setCell ⟨S, 1, none⟩ (.int .i64 a1)).drew.ext d1).alloc (.cells #[.int .i64 (B).Members, .slice la' (B).Left.length lc', .bool (B).Open, .int .i64 (B).Eager, .slice ha' (B).Holds.length hc', .bool (B).Swept, .int .i64 (B).Winner, .bool (B).Done] 24)).ext d2) := by (repeat (first | exact Like.refl _ _ | refine Like.ext ?_ _ | refine Like.alloc ?_ _ | refine Like.swap ?_ (by simp <;> omega) _ _))
            have hf := Lib.hid (step_fin st.out hD hT (OI.turnA u1.out hL hz) (OI.turnA u2.out hL hz) (by simp <;> omega) (by omega) trivial)
            have hv := Lib.hid (OV.turnA u3.out hL hz)
            clear hT hD hL hz
            go_wp2
            go_meet
            case rel =>
              exact ⟨K, M, B, vs, x, _, va, vc, rfl, rfl, rfl, hq, Lib.hid hf.out.1, Lib.hid hf.out.2.1, hv, Lib.hid hf.out.2.2.1, Lib.hid hf.out.2.2.2⟩
          focus
            have hz : ((((W.setCell ⟨S, 1, none⟩ (.int .i64 a1)).alloc (.cells #[.int .i64 0, .slice none 0 0, .bool false, .int .i64 0, .slice none 0 0, .bool false, .int .i64 0, .bool false] 24)).drew.ext d1).ext d2).heap[W.heap.size]? = some (.cells #[.int .i64 0, .slice none 0 0, .bool false, .int .i64 0, .slice none 0 0, .bool false, .int .i64 0, .bool false] 24) := heap_ext1 (heap_ext1 (heap_drew1 (heap_new _ _ (by simp))))
            have hT : ((((W.setCell ⟨S, 1, none⟩ (.int .i64 a1)).alloc (.cells #[.int .i64 (B).Members, .slice la' (B).Left.length lc', .bool (B).Open, .int .i64 (B).Eager, .slice ha' (B).Holds.length hc', .bool (B).Swept, .int .i64 (B).Winner, .bool (B).Done] 24)).drew.ext d1).ext d2).heap[W.heap.size]? = some (.cells #[.int .i64 (B).Members, .slice la' (B).Left.length lc', .bool (B).Open, .int .i64 (B).Eager, .slice ha' (B).Holds.length hc', .bool (B).Swept, .int .i64 (B).Winner, .bool (B).Done] 24) := heap_ext1 (heap_ext1 (heap_drew1 (heap_new _ _ (by simp))))
            have hD : Drawn W S m 0 ((((W.setCell ⟨S, 1, none⟩ (.int .i64 a1)).alloc (.cells #[.int .i64 (B).Members, .slice la' (B).Left.length lc', .bool (B).Open, .int .i64 (B).Eager, .slice ha' (B).Holds.length hc', .bool (B).Swept, .int .i64 (B).Winner, .bool (B).Done] 24)).drew.ext d1).ext d2) := by (first | (apply Drawn.of_ext; (focus assumption); (repeat (first | exact Ext.refl _ | assumption | refine Ext.alloc ?_ _ | refine Ext.ext ?_ _ | refine Ext.drew ?_)); done) | (refine hd0.out.ext ?_; (repeat (first | exact Ext.refl _ | assumption | refine Ext.alloc ?_ _ | refine Ext.ext ?_ _ | refine Ext.drew ?_)); done))
            have hL : Like (fun k => k = W.heap.size) ((((W.setCell ⟨S, 1, none⟩ (.int .i64 a1)).alloc (.cells #[.int .i64 0, .slice none 0 0, .bool false, .int .i64 0, .slice none 0 0, .bool false, .int .i64 0, .bool false] 24)).drew.ext d1).ext d2) ((((W.setCell ⟨S, 1, none⟩ (.int .i64 a1)).alloc (.cells #[.int .i64 (B).Members, .slice la' (B).Left.length lc', .bool (B).Open, .int .i64 (B).Eager, .slice ha' (B).Holds.length hc', .bool (B).Swept, .int .i64 (B).Winner, .bool (B).Done] 24)).drew.ext d1).ext d2) := Like.ext (Like.ext (like_drew (Like.swap (Like.refl _ _) (by simp) _ _)) _) _
            have hf := Lib.hid (step_fin st.out hD hT (OI.turnA u1.out hL hz) (OI.turnA u2.out hL hz) (by simp <;> omega) (by omega) trivial)
            have hv := Lib.hid (OV.turnA u3.out hL hz)
            clear hT hD hL hz
            go_wp2
            go_meet
            case rel =>
              exact ⟨K, M, B, vs, x, _, va, vc, rfl, rfl, rfl, hq, Lib.hid hf.out.1, Lib.hid hf.out.2.1, hv, Lib.hid hf.out.2.2.1, Lib.hid hf.out.2.2.2⟩
        case rest =>
          clear y0 y1 y2 y3 y4 y5 y6 y7 hev hst hk hd0 hSV hSl hVl
          clear st
          obtain ⟨K, M, B, vs, x, T, va, vc, rfl, rfl, rfl, hq, st, hT, hv3, hwT, hTV⟩ := hcut
          obtain ⟨W2, rfl⟩ : ∃ W, W = wc := ⟨_, rfl⟩
          rcases step_cases A ⟨K, M⟩ with ⟨c1, c2, c3⟩ | ⟨c1, c2, c3⟩
          · rw [hq.out] at c1 c2 c3
            simp only at c1 c2 c3
            have hxb : (x == 0) = false := by simpa using c1
            clear c1 c2 c3 hq hT hv3
            go_wp2
            go_roundg (30 - (i + 1))
            case measure => have := hgm.out; omega
            case rel => exact ⟨i + 1, A, rfl, by go_num, by omega, rfl, hv, hAm, st⟩
          · rw [hq.out] at c2 c3
            simp only at c2 c3
            subst c2
            obtain ⟨la1, lc1, ha1, hc1, hT1, o1, o2, o3, o4⟩ := hT.out
            obtain ⟨y0, y1, y2, y3, y4, y5, y6, y7⟩ := cells_at8 hT1
            obtain ⟨la0, lc0, ha0, hc0, hV, -, -, -, -⟩ := st.out.ar
            obtain ⟨z0, z1, z2, z3, z4, z5, z6, z7⟩ := cells_at8 hV
            have yl := (Array.getElem?_eq_some_iff.1 hV).1
            have yl2 := (Array.getElem?_eq_some_iff.1 hT1).1
            have yf := heap_thaw hV
            replace hV := Lib.hid hV
            replace o1 := Lib.hid o1
            replace o2 := Lib.hid o2
            replace o3 := Lib.hid o3
            replace o4 := Lib.hid o4
            replace c1 := Lib.hid c1
            replace c3 := Lib.hid c3
            clear hT hT1
            go_upto_region 13 with fail
            obtain ⟨pg, ph⟩ := put8 (v0 := .int .i64 B.Members) (v1 := .slice la1 B.Left.length lc1) (v2 := .bool B.Open) (v3 := .int .i64 B.Eager) (v4 := .slice ha1 B.Holds.length hc1) (v5 := .bool B.Swept) (v6 := .int .i64 B.Winner) (v7 := .bool B.Done) hV.out
            clear y0 y1 y2 y3 y4 y5 y6 y7 z0 z1 z2 z3 z4 z5 z6 z7 yf yl yl2
            (refine gen_at5 (p := fun W => Code.wp _ _ _ _ W) ?_)
            intro W hW
            rw [← hW] at pg ph
            clear hW
            have hbV : ∀ b, some V = some b → ∃ cur fr, W2.heap[b]? = some (.cells cur 24 fr) := fun b e => by cases e; exact ⟨_, _, hV.out⟩
            replace hv3 := Lib.hid (hv3.out.grownA pg hbV)
            replace st := Lib.hid (st.out.put pg ph o1.out o2.out o3.out o4.out)
            clear pg ph hbV hV o1 o2 o3 o4
            have hAw0 : Hid (winsA A = winsK B vs 0) := Lib.hid (by rw [wins_open c1.out, wins_zero])
            have hvl : vs.length ≤ 24 := vd_len c3.out hv.out
            have hn : A.Members = n := hAm.out
            rw [hAw0.out]
            replace st := Lib.hid (st.out.same (q := free A vs 0) (fun i _ => (free_zero A vs i).symm))
            clear hAw0
            go_wp2
            go_loopg [8, 13, 14] vs.length (fun g v8 v13 v14 wr => ∃ (k : Nat), v8 = .int .i64 (winsK B vs k) ∧ v13 = .int .i64 k ∧ k ≤ vs.length ∧ g = vs.length - k ∧ Hid (VSt w S m V G n B (free A vs k) wr) ∧ Hid (OV wr va vc vs))
            case atStart => exact ⟨0, rfl, rfl, Nat.zero_le _, rfl, st, hv3⟩
            case round =>
              clear st hv3
              obtain ⟨k, rfl, rfl, hk, hgk, st, hv3⟩ := hrel
              obtain ⟨W, rfl⟩ : ∃ W, W = wr := ⟨_, rfl⟩
              replace hgk := Lib.hid hgk
              by_cases hlt : k < vs.length
              · obtain ⟨y, hy⟩ : ∃ y, vs[k]? = some y := ⟨_, List.getElem?_eq_getElem hlt⟩
                obtain ⟨f1, f2, f3, f4, f5, f6, f7⟩ := free_one c3.out hv.out hy
                obtain ⟨mm, hmm⟩ : ∃ mm : Nat, y.Member = mm := ⟨y.Member.toNat, by omega⟩
                rw [hn] at f2
                have hmn : mm < n := by omega
                obtain ⟨g, rfl, hvd⟩ := hv3.out.rep.resolve_left (by intro h; rw [h] at hy; cases hy)
                obtain ⟨k0, k1⟩ := hvd k y hy
                rw [hmm] at k0 f3 f4 f5
                have hc := st.out.cell hmn
                rw [f3] at hc
                simp only [if_true] at hc
                have hth := st.out.thaw mm
                have gl := World.block_lt_of_cell? W _ k0
                simp only at gl
                have Gl := World.block_lt_of_cell? W _ hc
                simp only at Gl
                have hst2 := Lib.hid (st.out.mark hmn f4 (fun j hj => f5 j (by omega)))
                have hv4 := Lib.hid (hv3.out.mark (i := mm) st.out.got (.int .i64 1))
                have hvd2 := (hv4.out.rep.resolve_left (by intro h; rw [h] at hy; cases hy))
                obtain ⟨g', hgg, hvd2⟩ := hvd2
                obtain rfl : g = g' := by simpa using hgg
                obtain ⟨-, k3⟩ := hvd2 k y hy
                replace hy := Lib.hid hy
                have d1 : decide ((mm : Int) < 0) = false := decide_eq_false (by omega)
                have d2 : decide ((n : Int) ≤ (mm : Int)) = false := decide_eq_false (by omega)
                have d3 : decide (n ≤ mm) = false := decide_eq_false (by omega)
                obtain ⟨la2, lc2, ha2, hc2, hV2, -, -, -, -⟩ := hst2.out.ar
                have z6 := heap_cell hV2 6
                simp only [List.getElem?_toArray, List.getElem?_cons_succ, List.getElem?_cons_zero] at z6
                have zl := (Array.getElem?_eq_some_iff.1 hV2).1
                obtain ⟨W', hW'⟩ : ∃ W', W' = W.setCell ⟨G, mm, none⟩ (.int .i64 1) := ⟨_, rfl⟩
                rw [← hW'] at hst2 hv4 k3 z6 zl
                have gl2 := World.block_lt_of_cell? W' _ k3
                simp only at gl2
                clear hvd hvd2 hgg f1 f2 f3 f4 f5 k1 st hv3 hV2
                have hW2 := Lib.hid hW'
                clear hW'
                go_upto_region 20 with fail
                rw [← hW2.out]
                clear hW2 k0 hc hth gl Gl
                rcases hw : y.Won with _ | _
                · rw [hw] at k3
                  have f8 := f7 hw
                  clear f6 f7 hw z6
                  go_wp2
                  go_roundg (vs.length - (k + 1))
                  case measure => have := hgk.out; omega
                  case rel => exact ⟨k + 1, by rw [f8], by go_num, by omega, rfl, hst2, hv4⟩
                · rw [hw] at k3
                  obtain ⟨e1, e2, e3⟩ := f6 hw
                  rw [e1, hmm] at z6
                  replace e3 := Lib.hid e3
                  rw [e2]
                  clear f6 f7 hw e1 e2
                  go_wp2
                  go_roundg (vs.length - (k + 1))
                  case measure => have := hgk.out; omega
                  case rel => exact ⟨k + 1, by rw [e3.out], by go_num, by omega, rfl, hst2, hv4⟩
              · obtain rfl : k = vs.length := by omega
                replace st := Lib.hid (st.out.same (q := leftP B) (fun i _ => free_all c3.out i))
                have hwa := wins_all c3.out hv.out
                rw [hwa]
                have hwb := winsA_bound B
                have d1 : decide (1 < winsA B) = false := decide_eq_false (by omega)
                have hvB := Lib.hid c3.out.valid
                have hmB : Hid (B.Members = n) := Lib.hid (by rw [c3.out.members, hn])
                obtain ⟨la2, lc2, ha2, hc2, hV2, oL2, oH2, -, -⟩ := st.out.ar
                have hck := Check_ok B la2 ha2 lc2 hc2 W (by have := left_len hvB.out; omega) (by have := holds_len hvB.out; omega) oL2.rep oH2.rep
                rw [(check_zero B).2 hvB.out] at hck
                replace hck := Lib.hid hck
                obtain ⟨y0, y1, y2, y3, y4, y5, y6, y7⟩ := cells_at8 hV2
                have yl := (Array.getElem?_eq_some_iff.1 hV2).1
                obtain ⟨wi, hwi⟩ : ∃ wi, winsA B = wi := ⟨_, rfl⟩
                rw [hwi] at d1 ⊢
                clear oL2 oH2 hV2 hwa hwb hv3
                go_wp2_with fail
                refine Calls.mono hck.out ?_
                rintro _ W5 ⟨rfl, he5⟩
                replace st := Lib.hid (st.out.ext he5)
                clear he5 hck y0 y1 y2 y3 y4 y5 y6 y7 yl
                go_wp2
                go_roundg (30 - (i + 1))
                case measure => have := hgm.out; omega
                case rel => exact ⟨i + 1, B, by rw [hwi], by go_num, by omega, rfl, hvB, hmB, st⟩
end Go.Proofs.Ytcnmljpabmgieaa.R
