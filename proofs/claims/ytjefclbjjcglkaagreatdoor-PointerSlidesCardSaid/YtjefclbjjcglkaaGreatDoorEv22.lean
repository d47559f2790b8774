/- The evaluator: a law's call. -/
import Derived.Test.YtjefclbjjcglkaaGreatDoorEv21
import Derived.OpenShut
import Derived.DataReads
import Derived.ProofKit
import Derived.Lib.LaidU8
import Derived.Below
set_option linter.unusedVariables false
set_option linter.unusedSimpArgs false
namespace Go.Ev
open Go Go.ChangeShapes Go.RowKit
theorem mapM_get {α β : Type} {f : α → Option β} : ∀ {l : List α} {r : List β}, l.mapM f = some r → ∀ (i : Nat) (y : β), r[i]? = some y → ∃ x, l[i]? = some x ∧ f x = some y
  | [], r, h, i, y, hy => by simp at h; subst h; simp at hy
  | x :: l, r, h, i, y, hy => by
    simp only [List.mapM_cons, Option.bind_eq_bind, Option.pure_def] at h
    cases hx : f x with
    | none => simp [hx] at h
    | some z =>
      cases hl : l.mapM f with
      | none => simp [hx, hl] at h
      | some r' =>
        simp [hx, hl] at h
        subst h
        cases i with
        | zero => simp at hy; subst hy; exact ⟨x, rfl, hx⟩
        | succ i => exact mapM_get hl i y hy
theorem mapM_len {α β : Type} {f : α → Option β} : ∀ {l : List α} {r : List β}, l.mapM f = some r → r.length = l.length
  | [], r, h => by simp at h; subst h; rfl
  | x :: l, r, h => by
    simp only [List.mapM_cons, Option.bind_eq_bind, Option.pure_def] at h
    cases hx : f x with
    | none => simp [hx] at h
    | some z =>
      cases hl : l.mapM f with
      | none => simp [hx, hl] at h
      | some r' =>
        simp [hx, hl] at h
        subst h
        simp [mapM_len hl]
def sumN : List Nat → Nat
  | [] => 0
  | z :: l => z + sumN l
theorem chunks {α : Type} : ∀ (zs : List Nat) (l : List (List α)) (cs : List α), l.length = zs.length → cs.length = sumN zs → (∀ (i : Nat) (z : Nat), zs[i]? = some z → (cs.drop (sumN (zs.take i))).take z = l.getD i []) → cs = l.flatten
  | [], [], cs, _, h, _ => by
    have : cs = [] := List.length_eq_zero_iff.1 h
    subst this; rfl
  | [], x :: l, cs, h, _, _ => by simp at h
  | z :: zs, [], cs, h, _, _ => by simp at h
  | z :: zs, x :: l, cs, hl, hc, h => by
    have h0 := h 0 z rfl
    simp only [List.take_zero, sumN, List.drop_zero, List.getD_cons_zero] at h0
    have := chunks zs l (cs.drop z) (by simpa using hl) (by rw [List.length_drop, hc]; simp [sumN]) fun i y hi => by
      have := h (i + 1) y (by simpa using hi)
      simp only [List.take_succ_cons, sumN, List.getD_cons_succ] at this
      rw [List.drop_drop, this]
    rw [List.flatten_cons, ← this, ← h0, List.take_append_drop]
/-- a datum of numbers and bools, as cells -/
def flatD : Nat → DataW Unit → Option (List Value)
  | 0, _ => none
  | _ + 1, .lit (.int k i) => some [.int k i]
  | _ + 1, .lit (.bool b) => some [.bool b]
  | n + 1, .agg ps => (ps.mapM (flatD n)).map List.flatten
  | _, _ => none
def offsOk : Nat → List (Nat × Nat) → Bool
  | _, [] => true
  | o, f :: fs => f.1 == o && offsOk (o + f.2) fs
/-- a type of such, all of whose cells are in its fields -/
def flatT (P : Program) : Nat → TypeId → Bool
  | 0, _ => false
  | n + 1, T => match P.underlying T with
    | some (.int _) => true
    | some .bool => true
    | some (.array len e) => flatT P n e && decide (P.cellsOf T = len * P.cellsOf e)
    | some (.struct F) => offsOk 0 (F.toList.map fun f => (f.offset, P.cellsOf f.type)) && F.toList.all (fun f => flatT P n f.type) && decide (P.cellsOf T = sumN (F.toList.map fun f => P.cellsOf f.type))
    | _ => false
theorem sumN_rep (z : Nat) : ∀ n, sumN (List.replicate n z) = n * z
  | 0 => by simp [sumN]
  | n + 1 => by rw [List.replicate_succ, sumN, sumN_rep z n, Nat.succ_mul, Nat.add_comm]
theorem offs_get : ∀ (fs : List (Nat × Nat)) (o : Nat), offsOk o fs = true → ∀ (i : Nat) (f : Nat × Nat), fs[i]? = some f → f.1 = o + sumN ((fs.map fun f => f.2).take i)
  | [], _, _, i, f, h => by simp at h
  | g :: fs, o, h, i, f, hi => by
    simp only [offsOk, Bool.and_eq_true, beq_iff_eq] at h
    cases i with
    | zero => simp at hi; subst hi; simp [sumN, h.1]
    | succ i =>
      have := offs_get fs _ h.2 i f (by simpa using hi)
      simp only [List.map_cons, List.take_succ_cons, sumN]
      omega
theorem flat_trod {P : Program} {enc : TypeId × Value → Unit} {w : World} {base : Nat} {sp : Nat → Bool} {held : Bool} : ∀ (n k : Nat) (T : TypeId) (m : Nat) (cs : List Value) (d : DataW Unit) (p : List MemPlace) (vs : List Value), flatT P n T = true → DataW.trod enc P w base sp held m T cs = some (d, p) → flatD k d = some vs → cs = vs
  | 0, _, _, _, _, _, _, _, h, _, _ => by simp [flatT] at h
  | n + 1, k, T, m, cs, d, p, vs, hT, ht, hd => by
    unfold flatT at hT
    split at hT
    · rename_i kd hti
      obtain ⟨x, rfl, hx, _⟩ := DataW.trod_int hti ht
      simp only [Prod.mk.injEq] at hx
      obtain ⟨rfl, _⟩ := hx
      cases k with
      | zero => simp [flatD] at hd
      | succ k => simp only [flatD, Option.some.injEq] at hd; exact hd
    · rename_i hti
      obtain ⟨x, rfl, hx⟩ := DataW.trod_bool hti ht
      simp only [Prod.mk.injEq] at hx
      obtain ⟨rfl, _⟩ := hx
      cases k with
      | zero => simp [flatD] at hd
      | succ k => simp only [flatD, Option.some.injEq] at hd; exact hd
    · rename_i len e hti
      simp only [Bool.and_eq_true, decide_eq_true_eq] at hT
      obtain ⟨hT1, hT2⟩ := hT
      obtain ⟨xs, m', rfl, hx, hlen, hxn, hel⟩ := DataW.trod_array hti ht
      simp only [Prod.mk.injEq] at hx
      obtain ⟨rfl, _⟩ := hx
      cases k with
      | zero => simp [flatD] at hd
      | succ k =>
        simp only [flatD, Option.map_eq_some_iff] at hd
        obtain ⟨l, hl, rfl⟩ := hd
        have hll := mapM_len hl
        rw [List.length_map, hxn] at hll
        refine chunks (List.replicate len (P.cellsOf e)) l cs (by simp [hll]) (by rw [sumN_rep, hlen, hT2]) fun i z hi => ?_
        have hi' : i < len := by have := (List.getElem?_eq_some_iff.1 hi).1; simpa using this
        have hz : z = P.cellsOf e := by rw [List.getElem?_replicate, if_pos hi'] at hi; exact (Option.some.inj hi).symm
        subst hz
        rw [List.take_replicate, Nat.min_eq_left (Nat.le_of_lt hi'), sumN_rep]
        have h1 := hel i hi'
        have hxi : i < xs.length := by omega
        rw [List.getElem?_eq_getElem hxi] at h1
        have hli : i < l.length := by omega
        obtain ⟨y, hy, hyf⟩ := mapM_get hl i _ (List.getElem?_eq_getElem hli)
        rw [List.getElem?_map, List.getElem?_eq_getElem hxi] at hy
        simp only [Option.map_some, Option.some.injEq] at hy
        subst hy
        rw [List.getD_eq_getElem?_getD, List.getElem?_eq_getElem hli]
        exact flat_trod n k e m' _ _ _ _ hT1 h1 hyf
    · rename_i F hti
      simp only [Bool.and_eq_true, decide_eq_true_eq] at hT
      obtain ⟨⟨hT1, hT2⟩, hT3⟩ := hT
      obtain ⟨xs, m', rfl, hx, hlen, hxn, hel⟩ := DataW.trod_struct hti ht
      simp only [Prod.mk.injEq] at hx
      obtain ⟨rfl, _⟩ := hx
      cases k with
      | zero => simp [flatD] at hd
      | succ k =>
        simp only [flatD, Option.map_eq_some_iff] at hd
        obtain ⟨l, hl, rfl⟩ := hd
        have hll := mapM_len hl
        rw [List.length_map, hxn] at hll
        have hFl : F.size = F.toList.length := by simp
        refine chunks (F.toList.map fun f => P.cellsOf f.type) l cs (by simp [hll]) (by rw [hlen]; exact hT3) fun i z hi => ?_
        rw [List.getElem?_map] at hi
        simp only [Option.map_eq_some_iff] at hi
        obtain ⟨f, hf, rfl⟩ := hi
        have hi' : i < F.toList.length := (List.getElem?_eq_some_iff.1 hf).1
        have ho := offs_get (F.toList.map fun f => (f.offset, P.cellsOf f.type)) 0 hT1 i (f.offset, P.cellsOf f.type) (by rw [List.getElem?_map, hf]; rfl)
        simp only [Nat.zero_add, List.map_map] at ho
        have h1 := hel i f (by rw [← Array.getElem?_toList]; exact hf)
        have hxi : i < xs.length := by omega
        rw [List.getElem?_eq_getElem hxi] at h1
        have hli : i < l.length := by omega
        obtain ⟨y, hy, hyf⟩ := mapM_get hl i _ (List.getElem?_eq_getElem hli)
        rw [List.getElem?_map, List.getElem?_eq_getElem hxi] at hy
        simp only [Option.map_some, Option.some.injEq] at hy
        subst hy
        rw [show sumN ((F.toList.map fun f => P.cellsOf f.type).take i) = f.offset from ho.symm, List.getD_eq_getElem?_getD, List.getElem?_eq_getElem hli]
        exact flat_trod n k f.type m' _ _ _ _ (List.all_eq_true.1 hT2 _ (List.mem_of_getElem? hf)) h1 hyf
    · cases hT
/-- a variable of the program reads as these cells -/
theorem var_cells {P : Program} {W : World} {name : String} {g : Nat} {T : TypeId} {d : DataW Unit} {vs : List Value} (n k : Nat) (h : Lib.VarReads P W name d) (hg : P.globalNamed name = some g) (ht : (P.globals[g]?).map (·.type) = some T) (hT : flatT P n T = true) (hd : flatD k d = some vs) : ∃ cs T' fr, W.heap[g]? = some (.cells cs T' fr) ∧ cs.toList = vs := by
  obtain ⟨g', t', cs, fuel, p, h1, h2, h3, h4⟩ := h
  obtain rfl := Option.some.inj (hg.symm.trans h1)
  obtain rfl := Option.some.inj (ht.symm.trans h2)
  have hcs := flat_trod n k T fuel cs.toList d p vs hT h4 hd
  unfold World.var? at h3
  rw [hg] at h3
  simp only [Option.bind_some] at h3
  split at h3
  · rename_i cs' T' fr hb
    obtain rfl := Option.some.inj h3
    exact ⟨_, _, _, hb, hcs⟩
  · cases h3
theorem var_there {P : Program} {W : World} {name : String} {g : Nat} {d : DataW Unit} (h : Lib.VarReads P W name d) (hg : P.globalNamed name = some g) : g < W.heap.size := by
  obtain ⟨g', t', cs, fuel, p, h1, h2, h3, h4⟩ := h
  unfold World.var? at h3
  rw [hg] at h3
  simp only [Option.bind_some] at h3
  split at h3
  · rename_i hb; exact (Array.getElem?_eq_some_iff.1 hb).1
  · cases h3
/-- the start: the program's variables, that are numbers and bools -/
def phS (W : World) (va : Nat → Int) : Ph := ⟨fun g => if g < 3 then some (g, 0, match W.heap[g]? with | some (.cells cs _ _) => cs.size | _ => 0) else none, fun _ => none, va⟩
theorem start_hr {W : World} {t : GM} {va : Nat → Int} (h3 : 3 ≤ W.heap.size) (h : ∀ g o, t g = some o → ∃ l vs cs T fr, o = .ro l ∧ g < 3 ∧ ofVs vs = some l ∧ W.heap[g]? = some (.cells cs T fr) ∧ cs.toList = vs) : HR ⟨W, (· < W.heap.size), (· < W.heap.size)⟩ (phS W va) t W := by
  have hlt : ∀ g b x, (phS W va).blk g = some (b, x) → b < W.heap.size := by
    intro g b x hg
    have hg : (if g < 3 then some (g, 0, _) else none) = some (b, x) := hg
    split at hg
    · cases hg; omega
    · cases hg
  refine ⟨fun _ _ => rfl, ⟨fun _ h => h, fun _ h => h⟩, Nat.le_refl _, rfl, rfl, rfl, fun g o hg => ?_, fun g o b x hg ho => ?_, fun g l b x hg hb => hlt g b x hb, fun g m o p b y z hne hg hm ho => ?_, hlt⟩
  · obtain ⟨l, vs, cs, T, fr, rfl, h1, h2, h4, h5⟩ := h g o hg
    refine ⟨g, 0, cs, T, fr, ?_, h4, fun i x hx => ?_⟩
    · show (if g < 3 then some (g, 0, _) else none) = _
      rw [if_pos h1, h4]
    · have ha := ofVs_spec h2 (phS W va)
      obtain ⟨y, hy, hr⟩ := ha.get hx
      refine ⟨y, ?_, hr⟩
      rw [Nat.zero_add, ← Array.getElem?_toList, h5]; exact hy
  · obtain ⟨l, vs, cs, T, fr, rfl, _⟩ := h g o hg; cases ho
  · obtain ⟨l, vs, cs, T, fr, rfl, _⟩ := h g o hg; cases ho
theorem start_glob {W : World} {va : Nat → Int} : Glob (phS W va) := fun g hg => ⟨_, if_pos hg⟩
/-- a law answers true and turns nothing that lay there -/
theorem law_calls {P : Program} {E : Env} (hE : EOk P E) {n F k : Nat} {t : T AO} {args : List AV} {vs : List Value} {W : World} {va : Nat → Int} (hk : 3 ≤ k) (hrun : (callK E n F args (H.mk k t) fun v _ => withC v fun v => withB v fun b => some b) = some true)
    (h3 : 3 ≤ W.heap.size) (h : ∀ g o, T.get t g = some o → ∃ l vs cs T fr, o = .ro l ∧ g < 3 ∧ ofVs vs = some l ∧ W.heap[g]? = some (.cells cs T fr) ∧ cs.toList = vs) (ha : A2 (AR (phS W va)) args vs) :
    Calls P F vs.toArray W fun e W' => e = .returned (.bool true) ∧ Below W.heap.size W W' := by
  obtain ⟨v, h', N, h2, h4, h5, h6⟩ := callA_ok hE (run_ok' hE n) _ _ _ _ (show callA E (run E n) (.enter F args) (H.mk k t) _ = some true from hrun)
  obtain ⟨x, rfl, h2⟩ := withC_spec (x := v) (K := fun v => withB v fun b => some b) h2
  obtain ⟨b, rfl, h2⟩ := withB_spec h2
  cases h2
  obtain ⟨q1, v', w2, fr, ⟨ψ, p1, p2, p3, p4⟩, q3, q4, q5⟩ := h6 _ (phS W va) W vs (start_hr h3 h) start_glob (fun m hm => ⟨if_neg (by have := (h5 m hm).1; have : k ≤ m := this; omega), rfl⟩) ha
  have p4 : v' = .bool true := p4
  subst p4
  exact fun cs => ⟨.returned (.bool true), w2, fr, ⟨rfl, p3.os, p3.tape, p3.out, p3.size, fun b hb => p3.keep b hb⟩, q5 cs, q3, q4⟩
end Go.Ev
