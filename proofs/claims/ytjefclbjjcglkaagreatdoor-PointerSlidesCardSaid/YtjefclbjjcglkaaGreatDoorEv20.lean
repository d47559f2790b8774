/- The evaluator: a call that was run once is known ever after. -/
import Derived.Test.YtjefclbjjcglkaaGreatDoorEv19
set_option linter.unusedVariables false
set_option linter.unusedSimpArgs false
namespace Go.Ev
open Go
variable {R : Type}
noncomputable section
/-- the names within are below k -/
def nmLt (k : Nat) (x : CV) : Bool := (@CV.rec (fun _ => Nat → Bool) (fun _ => fun _ => true) (fun _ _ => fun _ => true) (fun _ _ _ => fun _ => true) (fun _ => fun _ => true) (fun _ => true) (fun n _ => fun k => Nat.blt n k) (fun _ => true) (fun _ => true) (fun n _ _ _ _ _ => fun k => Nat.blt n k) (fun _ => true) (fun n => fun k => Nat.blt n k) (fun _ => true) (fun _ c => fun k => Nat.blt c k) (fun n => fun k => Nat.blt n k)) x k
def allC (p : CV → Bool) (l : List CV) : Bool := (@List.rec CV (fun _ => (CV → Bool) → Bool) (fun _ => true) (fun a l ih => fun p => bf (p a) (ih p) false)) l p
def avLt (k : Nat) (v : AV) : Bool := (@AV.rec (fun _ => Nat → Bool) (fun _ => true) (fun x => fun k => nmLt k x) (fun l => fun k => allC (nmLt k) l) (fun _ => fun _ => false)) v k
def plainC (x : CV) : Bool := nmLt 0 x
def mkH (l : List (Nat × List CV)) : (T AO → Option R) → Option R := (@List.rec (Nat × List CV) (fun _ => (T AO → Option R) → Option R) (fun K => K .e) (fun p _ ih => fun K => ih fun t => T.setK 12 t p.1 (some (.ro p.2)) K)) l
def footLt (k : Nat) (l : List (Nat × List CV)) : Bool := (@List.rec (Nat × List CV) (fun _ => Nat → Bool) (fun _ => true) (fun p _ ih => fun k => bf (bf (Nat.blt p.1 k) (allC (nmLt k) p.2) false) (ih k) false)) l k
def avsLt (k : Nat) (l : List AV) : Bool := (@List.rec AV (fun _ => Nat → Bool) (fun _ => true) (fun p _ ih => fun k => bf (avLt k p) (ih k) false)) l k
def resPl (s : SmR) : Bool := (@SmR.rec (fun _ => Bool) (fun v => plainC v) (fun l _ _ _ => allC plainC l)) s
def smWf (k : Nat) (s : Sm) : Bool := bf (Nat.ble 8 k) (bf (footLt k s.foot) (bf (avsLt k s.args) (resPl s.res) false) false) false
/-- a row, and nothing else in it -/
def ownIs (o : Option AO) : List CV → Bool := (@Option.rec AO (fun _ => List CV → Bool) (fun _ => false) (fun o => (@AO.rec (fun _ => List CV → Bool) (fun m s => fun l => eqCs m l) (fun _ => fun _ => false) (fun _ _ => fun _ => false) (fun _ => fun _ => false) (fun _ => fun _ => false) (fun _ => fun _ => false)) o)) o
def resIs (s : SmR) : CV → H → Bool := (@SmR.rec (fun _ => CV → H → Bool) (fun v => fun x _ => eqC x v) (fun l len cap sz => fun x h => (@CV.rec (fun _ => List CV → Nat → Nat → Nat → H → Bool) (fun _ => fun _ _ _ _ _ => false) (fun _ _ => fun _ _ _ _ _ => false) (fun _ _ _ => fun _ _ _ _ _ => false) (fun _ => fun _ _ _ _ _ => false) (fun _ _ _ _ _ => false) (fun _ _ => fun _ _ _ _ _ => false) (fun _ _ _ _ _ => false) (fun _ _ _ _ _ => false) (fun n off len' cap' z _ => fun l len cap sz h => bf (bf (Nat.beq off 0) (bf (Nat.beq len len') (bf (Nat.beq cap cap') (Nat.beq z sz) false) false) false) (ownIs (hget h n) l) false) (fun _ _ _ _ _ => false) (fun _ => fun _ _ _ _ _ => false) (fun _ _ _ _ _ => false) (fun _ _ => fun _ _ _ _ _ => false) (fun _ => fun _ _ _ _ _ => false)) x l len cap sz h)) s
def runSm (E : Env) (n k : Nat) (f : FuncId) (s : Sm) : Option Bool := bf (smWf k s) (mkH s.foot fun t => callK E n f s.args (H.mk k t) fun v h => withC v fun v => bf (resIs s.res v h) (some true) none) none
end
variable {P : Program} {E : Env} {r : R}
def Ph.cut (φ : Ph) (k : Nat) : Ph := ⟨fun m => if m < k then φ.blk m else none, fun m => if m < k then φ.cap m else none, φ.va⟩
theorem CR.cut {φ : Ph} {k : Nat} {x : CV} {v : Value} (h : nmLt k x = true) (hv : CR φ x v) : CR (φ.cut k) x v := by
  have hb : ∀ {n}, Nat.blt n k = true → (φ.cut k).blk n = φ.blk n := fun {n} h => by
    show (if n < k then _ else _) = _
    rw [if_pos (by simpa [Nat.blt_eq] using h)]
  cases x with
  | ptr n o => obtain ⟨b, f, S, q, e⟩ := hv; exact ⟨b, f, S, by rw [hb h]; exact q, e⟩
  | sl n o l c z e => obtain ⟨b, f, S, c', q, e⟩ := hv; exact ⟨b, f, S, c', by rw [hb h]; exact q, e⟩
  | mp n => obtain ⟨b, f, S, q, e⟩ := hv; exact ⟨b, f, S, by rw [hb h]; exact q, e⟩
  | yl n => obtain ⟨b, f, S, q, e⟩ := hv; exact ⟨b, f, S, by rw [hb h]; exact q, e⟩
  | fn f c =>
    cases c with
    | zero => exact hv
    | succ n =>
      obtain ⟨cs, q, e⟩ := hv
      refine ⟨cs, ?_, e⟩
      have h' : n + 1 < k := by simpa [Nat.blt_eq] using (show Nat.blt (n + 1) k = true from h)
      show (if n < k then _ else _) = _
      rw [if_pos (by omega)]; exact q
  | _ => exact hv
theorem allC_spec {p : CV → Bool} : ∀ {l : List CV}, allC p l = true → ∀ x, x ∈ l → p x = true
  | [], _, x, hx => absurd hx (by simp)
  | a :: l, h, x, hx => by
    obtain ⟨h1, h2⟩ := bf_and (show bf (p a) (allC p l) false = true from h)
    rcases List.mem_cons.1 hx with rfl | hx
    · exact h1
    · exact allC_spec h2 x hx
theorem A2.mono_mem {α β : Type} {Q Q' : α → β → Prop} : ∀ {l : List α} {m : List β}, A2 Q l m → (∀ a b, a ∈ l → Q a b → Q' a b) → A2 Q' l m
  | _, _, .nil, _ => .nil
  | _, _, .cons hq ht, k => .cons (k _ _ (List.mem_cons_self ..) hq) (A2.mono_mem ht fun a b ha => k a b (List.mem_cons_of_mem _ ha))
theorem AR.cut {φ : Ph} {k : Nat} {x : AV} {v : Value} (h : avLt k x = true) (hv : AR φ x v) : AR (φ.cut k) x v := by
  cases x with
  | u => exact hv
  | c x => exact CR.cut h hv
  | agg l => obtain ⟨vs, e, q⟩ := hv; exact ⟨vs, e, A2.mono_mem q fun a b ha => CR.cut (allC_spec h a ha)⟩
  | tup l => cases h
theorem avsLt_spec {k : Nat} : ∀ {l : List AV}, avsLt k l = true → ∀ x, x ∈ l → avLt k x = true
  | [], _, x, hx => absurd hx (by simp)
  | a :: l, h, x, hx => by
    obtain ⟨h1, h2⟩ := bf_and (show bf (avLt k a) (avsLt k l) false = true from h)
    rcases List.mem_cons.1 hx with rfl | hx
    · exact h1
    · exact avsLt_spec h2 x hx
theorem footLt_spec {k : Nat} : ∀ {l : List (Nat × List CV)}, footLt k l = true → ∀ p, p ∈ l → p.1 < k ∧ ∀ x, x ∈ p.2 → nmLt k x = true
  | [], _, x, hx => absurd hx (by simp)
  | a :: l, h, x, hx => by
    obtain ⟨h1, h2⟩ := bf_and (show bf (bf (Nat.blt a.1 k) (allC (nmLt k) a.2) false) (footLt k l) false = true from h)
    obtain ⟨h3, h4⟩ := bf_and h1
    rcases List.mem_cons.1 hx with rfl | hx
    · exact ⟨by simpa [Nat.blt_eq] using h3, allC_spec h4⟩
    · exact footLt_spec h2 x hx
theorem mkH_spec : ∀ {l : List (Nat × List CV)} {K : T AO → Option R} {r : R}, mkH l K = some r → ∃ t, K t = some r ∧ ∀ m o, T.get t m = some o → ∃ p, p ∈ l ∧ p.1 = m ∧ o = .ro p.2
  | [], K, r, h => ⟨.e, h, fun m o hm => by cases hm⟩
  | p :: l, K, r, h => by
    obtain ⟨t, h1, h2⟩ := mkH_spec (l := l) (K := fun t => T.setK 12 t p.1 (some (.ro p.2)) K) h
    obtain ⟨t', h3, h4⟩ := T.setK_spec 12 t p.1 (some (.ro p.2)) K r h1
    refine ⟨t', h3, fun m o hm => ?_⟩
    rw [h4] at hm
    split at hm
    · rename_i e
      cases hm
      exact ⟨p, List.mem_cons_self .., e.symm, rfl⟩
    · obtain ⟨q, hq, e1, e2⟩ := h2 m o hm
      exact ⟨q, List.mem_cons_of_mem _ hq, e1, e2⟩
theorem CR.plain {φ ψ : Ph} {x : CV} {v : Value} (h : plainC x = true) (hva : ψ.va = φ.va) (hv : CR φ x v) : CR ψ x v := by
  have no : ∀ {n}, Nat.blt n 0 = true → False := fun {n} h => by simp [Nat.blt_eq] at h
  cases x with
  | ptr n o => exact (no (n := n) h).elim
  | sl n o l c z e => exact (no (n := n) h).elim
  | mp n => exact (no (n := n) h).elim
  | yl n => exact (no (n := n) h).elim
  | fn f c => exact (no (n := c) h).elim
  | y k c l => unfold CR at hv ⊢; rw [hva]; exact hv
  | _ => exact hv
theorem sm_ok {k n : Nat} {f : FuncId} {s : Sm} (hE : EOk P E) (h : runSm E n k f s = some true) : SmOK P f s := by
  obtain ⟨hwf, h⟩ := bf_some h
  obtain ⟨t, h1, ht⟩ := mkH_spec h
  obtain ⟨w1, hwf⟩ := bf_and hwf
  obtain ⟨w2, hwf⟩ := bf_and hwf
  obtain ⟨w3, w4⟩ := bf_and hwf
  have hk8 : 8 ≤ k := Nat.le_of_ble_eq_true w1
  obtain ⟨v, h', N, h2, h3, h4, h5⟩ := callA_ok hE (run_ok' hE n) _ _ _ _ (show callA E (run E n) (.enter f s.args) (H.mk k t) _ = some true from h1)
  obtain ⟨x, rfl, h2⟩ := withC_spec (x := v) (K := fun v => bf (resIs s.res v h') (some true) none) h2
  obtain ⟨h2, -⟩ := bf_some h2
  intro g nn hfoot B φ w vs hw hg hf hargs
  have hblk : ∀ m, m < k → (φ.cut k).blk m = φ.blk m := fun m hm => if_pos hm
  have hsub : ∀ m y, (φ.cut k).blk m = some y → φ.blk m = some y := by
    intro m y hm
    have hm : (if m < k then φ.blk m else none) = some y := hm
    split at hm
    · exact hm
    · cases hm
  have hr0 : HR ⟨w, (· < w.heap.size), (· < w.heap.size)⟩ (φ.cut k) t.get w := by
    refine ⟨fun _ _ => rfl, ⟨fun _ h => h, fun _ h => h⟩, Nat.le_refl _, rfl, rfl, rfl, fun m o hm => ?_, fun m o b y hm ho => ?_, fun m l b y hm hb => ?_, fun m q o p b y z hne hm hq ho => ?_, fun m b y hm => hw.lt m b y (hsub m _ hm)⟩
    · obtain ⟨p, hp, rfl, rfl⟩ := ht m o hm
      obtain ⟨l1, l2⟩ := footLt_spec w2 p hp
      have hcov : ∀ {c : Array Value} {f : Nat}, Cov φ c f p.2 → Cov (φ.cut k) c f p.2 := fun hc i x hx => by
        obtain ⟨v, q1, q2⟩ := hc i x hx
        exact ⟨v, q1, CR.cut (l2 x (List.mem_of_getElem? hx)) q2⟩
      rcases hfoot p hp with ⟨sb, hgp⟩ | hgp
      · obtain ⟨b, f, c, T, q1, q2, q3, q4⟩ := hw.obj _ _ hgp
        exact ⟨b, f, c, T, _, by rw [hblk _ l1]; exact q1, q2, hcov q3⟩
      · obtain ⟨b, f, c, T, fz, q1, q2, q3⟩ := hw.obj _ _ hgp
        exact ⟨b, f, c, T, fz, by rw [hblk _ l1]; exact q1, q2, hcov q3⟩
    · obtain ⟨p, hp, rfl, rfl⟩ := ht m o hm; cases ho
    · exact hw.lt m b y (hsub m _ hb)
    · obtain ⟨p, hp, rfl, rfl⟩ := ht m o hm; cases ho
  have hg0 : Glob (φ.cut k) := fun j hj => by obtain ⟨S, q⟩ := hg j hj; exact ⟨S, by rw [hblk j (by omega)]; exact q⟩
  have hf0 : Fresh (φ.cut k) N := fun m hm => by
    have : k ≤ m := (h4 m hm).1
    exact ⟨if_neg (by omega), if_neg (by omega)⟩
  have ha0 : A2 (AR (φ.cut k)) s.args vs := A2.mono_mem hargs fun a b ha => AR.cut (avsLt_spec w3 a ha)
  obtain ⟨q1, v', w', fr, ⟨ψ, p1, p2, p3, p4⟩, q3, q4, q5⟩ := h5 _ _ _ vs hr0 hg0 hf0 ha0
  refine ⟨q1, v', w', fr, ?_, q3, q4, q5⟩
  have hold : ∀ b, b < w.heap.size → w'.heap[b]? = w.heap[b]? := fun b hb => p3.keep b hb
  have hva : φ.va = ψ.va := p1.v.symm
  have p4 : CR ψ x v' := p4
  cases hres : s.res with
  | val z =>
    rw [hres] at h2 w4
    have hxz : x = z := eqC_spec (show eqC x z = true from h2)
    rw [hxz] at p4
    refine ⟨φ, .refl φ, fun _ _ => ⟨rfl, rfl⟩, ⟨fun b hb => (hold b (Nat.lt_of_lt_of_le (hw.fb.1 b hb) hw.size)).trans (hw.keep b hb), hw.fb, Nat.le_trans hw.size p3.size, p3.os.trans hw.os, p3.out.trans hw.out, p3.tape.trans hw.tape, fun m o hm => (hw.obj m o hm).mono (.refl φ) fun b y hb => hold b (hw.lt m b y hb), hw.own, hw.ro, hw.apart, fun m b y hb => Nat.lt_of_lt_of_le (hw.lt m b y hb) p3.size⟩, CR.plain w4 hva p4⟩
  | row l len cap sz =>
    rw [hres] at h2 w4 hf
    have hfn := hf nn rfl
    cases x with
    | sl n1 off len' cap' z ex =>
      obtain ⟨h6, h7⟩ := bf_and (show bf (bf (Nat.beq off 0) (bf (Nat.beq len len') (bf (Nat.beq cap cap') (Nat.beq z sz) false) false) false) (ownIs (hget h' n1) l) false = true from h2)
      obtain ⟨e1, h6⟩ := bf_and h6
      obtain ⟨e2, h6⟩ := bf_and h6
      obtain ⟨e3, e4⟩ := bf_and h6
      cases Nat.eq_of_beq_eq_true e1
      cases Nat.eq_of_beq_eq_true e2
      cases Nat.eq_of_beq_eq_true e3
      cases Nat.eq_of_beq_eq_true e4
      obtain ⟨m, sb, hm, hml⟩ : ∃ m sb, h'.t.get n1 = some (.cells m sb) ∧ m = l := by
        cases ho : hget h' n1 with
        | none => rw [ho] at h7; cases h7
        | some o =>
          rw [ho] at h7
          cases o with
          | cells m sb => exact ⟨m, sb, ho, eqCs_spec h7⟩
          | _ => cases h7
      subst hml
      obtain ⟨b, f, c, T, z1, z2, z3, z4⟩ := p3.obj _ _ hm
      obtain ⟨b', f', S', c', y1, y2, y3, y4, y5⟩ := p4
      rw [z1] at y1
      cases y1
      have hbig : ¬ b < w.heap.size := p3.own n1 _ b _ hm rfl z1
      have hle : φ.le (φ.put nn (b, f, c.size)) := Ph.le_put hfn.1
      have hput : ∀ j, j ≠ nn → (φ.put nn (b, f, c.size)).blk j = φ.blk j := fun j hj => if_neg hj
      have hputn : (φ.put nn (b, f, c.size)).blk nn = some (b, f, c.size) := if_pos rfl
      refine ⟨φ.put nn (b, f, c.size), hle, fun j hj => ⟨hput j hj, rfl⟩, ⟨fun b hb => (hold b (Nat.lt_of_lt_of_le (hw.fb.1 b hb) hw.size)).trans (hw.keep b hb), hw.fb, Nat.le_trans hw.size p3.size, p3.os.trans hw.os, p3.out.trans hw.out, p3.tape.trans hw.tape, fun j o hj => ?_, fun j o k' y hj ho hk => ?_, fun j l' k' y hj hk => ?_, fun j q o p k' y z' hne hj hq ho hp hk hk' => ?_, fun j k' y hk => ?_⟩, ?_⟩
      · by_cases e : j = nn
        · subst e
          rw [show (SmR.row m len cap sz).g g j = GM.set g j (some (.cells m none)) from rfl, GM.set_same] at hj
          cases hj
          exact ⟨b, f, c, T, hputn, z2, fun i x hx => by
            obtain ⟨u, u1, u2⟩ := z3 i x hx
            exact ⟨u, u1, CR.plain (allC_spec w4 x (List.mem_of_getElem? hx)) hva u2⟩, z4⟩
        · rw [show (SmR.row m len cap sz).g g nn = GM.set g nn (some (.cells m none)) from rfl, GM.set_ne g _ e] at hj
          exact (hw.obj j o hj).mono hle fun b y hb => hold b (hw.lt j b y hb)
      · by_cases e : j = nn
        · subst e
          rw [hputn] at hk; cases hk
          exact fun hF => hbig (Nat.lt_of_lt_of_le (hw.fb.1 _ hF) hw.size)
        · rw [show (SmR.row m len cap sz).g g nn = GM.set g nn (some (.cells m none)) from rfl, GM.set_ne g _ e] at hj
          rw [hput j e] at hk
          exact hw.own j o k' y hj ho hk
      · by_cases e : j = nn
        · subst e
          rw [show (SmR.row m len cap sz).g g j = GM.set g j (some (.cells m none)) from rfl, GM.set_same] at hj
          cases hj
        · rw [show (SmR.row m len cap sz).g g nn = GM.set g nn (some (.cells m none)) from rfl, GM.set_ne g _ e] at hj
          rw [hput j e] at hk
          exact hw.ro j l' k' y hj hk
      · by_cases e : j = nn
        · subst e
          rw [hputn] at hk; cases hk
          rw [hput q (Ne.symm hne)] at hk'
          exact absurd (hw.lt q _ _ hk') hbig
        · rw [hput j e] at hk
          by_cases e' : q = nn
          · subst e'
            rw [hputn] at hk'; cases hk'
            exact absurd (hw.lt j _ _ hk) hbig
          · rw [show (SmR.row m len cap sz).g g nn = GM.set g nn (some (.cells m none)) from rfl, GM.set_ne g _ e] at hj
            rw [show (SmR.row m len cap sz).g g nn = GM.set g nn (some (.cells m none)) from rfl, GM.set_ne g _ e'] at hq
            rw [hput q e'] at hk'
            exact hw.apart j q o p k' y z' hne hj hq ho hp hk hk'
      · by_cases e : j = nn
        · subst e
          rw [hputn] at hk; cases hk
          exact p3.lt n1 _ _ z1
        · rw [hput j e] at hk
          exact Nat.lt_of_lt_of_le (hw.lt j k' y hk) p3.size
      · exact ⟨b, f, c.size, c', hputn, y2, y3, fun h => (by cases h), y5⟩
    | _ => cases h2
end Go.Ev
