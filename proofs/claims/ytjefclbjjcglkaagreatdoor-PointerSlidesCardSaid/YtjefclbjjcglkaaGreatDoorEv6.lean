/- The evaluator: new blocks and writes. -/
import Derived.Test.YtjefclbjjcglkaaGreatDoorEv5
set_option linter.unusedVariables false
set_option linter.unusedSimpArgs false
namespace Go.Ev
open Go
variable {R : Type} {P : Program} {E : Env} {tm : TM} {h : H} {K : AV → H → Option R} {r : R} {o : Oper}
theorem hset_spec {n : Nat} {o : Option AO} {K : H → Option R} {r : R} (h1 : hset h n o K = some r) : ∃ h', K h' = some r ∧ h'.nx = h.nx ∧ h'.t.get = GM.set h.t.get n o := by
  obtain ⟨nx, t⟩ := h
  obtain ⟨t', h2, h3⟩ := T.setK_spec 12 t n o (fun t => K (H.mk nx t)) r h1
  exact ⟨_, h2, rfl, funext h3⟩
theorem hnew_spec {o : AO} {K : Nat → H → Option R} {r : R} (h1 : hnew h o K = some r) : ∃ h', K h.nx h' = some r ∧ h'.nx = h.nx + 1 ∧ h'.t.get = GM.set h.t.get h.nx (some o) := by
  obtain ⟨nx, t⟩ := h
  obtain ⟨t', h2, h3⟩ := T.setK_spec 12 t nx (some o) (fun t => fN (Nat.succ nx) fun nx' => K nx (H.mk nx' t)) r h1
  rw [fN_eq] at h2
  exact ⟨_, h2, rfl, funext h3⟩
def GM.killO (g : GM) (s : Option Nat) : GM := fun m => if s = some m then none else g m
theorem GM.killO_sub {g : GM} {s : Option Nat} {m : Nat} {o : AO} (h : GM.killO g s m = some o) : g m = some o ∧ s ≠ some m := by
  unfold GM.killO at h
  split at h
  · cases h
  · rename_i e; exact ⟨h, e⟩
theorem hkill_spec {s : Option Nat} {K : H → Option R} {r : R} (h1 : hkill h s K = some r) : ∃ h', K h' = some r ∧ h'.nx = h.nx ∧ h'.t.get = GM.killO h.t.get s := by
  cases s with
  | none => exact ⟨h, h1, rfl, funext fun m => by simp [GM.killO]⟩
  | some m =>
    obtain ⟨h', h2, h3, h4⟩ := hset_spec (show hset h m none K = some r from h1)
    refine ⟨h', h2, h3, h4.trans (funext fun k => ?_)⟩
    unfold GM.set GM.killO
    by_cases e : k = m
    · subst e; simp
    · rw [if_neg e, if_neg (by intro h; exact e (Option.some.inj h).symm)]
/-! ### the relation, turned -/
def Ph.put (φ : Ph) (n : Nat) (x : Nat × Nat × Nat) : Ph := ⟨fun m => if m = n then some x else φ.blk m, φ.cap, φ.va⟩
def Ph.putC (φ : Ph) (n : Nat) (x : Array Value) : Ph := ⟨φ.blk, fun m => if m = n then some x else φ.cap m, φ.va⟩
theorem Ph.le_put {φ : Ph} {n : Nat} {x : Nat × Nat × Nat} (h : φ.blk n = none) : φ.le (φ.put n x) := by
  refine ⟨fun m y hm => ?_, fun _ _ h => h, rfl⟩
  show (if m = n then some x else φ.blk m) = some y
  rw [if_neg]
  · exact hm
  · rintro rfl; rw [h] at hm; cases hm
theorem Ph.le_putC {φ : Ph} {n : Nat} {x : Array Value} (h : φ.cap n = none) : φ.le (φ.putC n x) := by
  refine ⟨fun _ _ h => h, fun m y hm => ?_, rfl⟩
  show (if m = n then some x else φ.cap m) = some y
  rw [if_neg]
  · exact hm
  · rintro rfl; rw [h] at hm; cases hm
theorem GM.set_same (g : GM) (n : Nat) (o : Option AO) : GM.set g n o n = o := if_pos rfl
theorem GM.set_ne (g : GM) {n m : Nat} (o : Option AO) (h : m ≠ n) : GM.set g n o m = g m := if_neg h
/-- what is forgotten -/
theorem HR.sub {B : Base} {φ : Ph} {g g' : GM} {w : World} (h : HR B φ g w) (k : ∀ n o, g' n = some o → g n = some o) : HR B φ g' w :=
  ⟨h.keep, h.fb, h.size, h.os, h.out, h.tape, fun n o q => h.obj n o (k n o q), fun n o b x q => h.own n o b x (k n o q), fun n l b x q => h.ro n l b x (k n _ q), fun n m o p b x y e q q' => h.apart n m o p b x y e (k n o q) (k m p q'), h.lt⟩
theorem HR.kill {B : Base} {φ : Ph} {g : GM} {w : World} (h : HR B φ g w) (n : Nat) : HR B φ (GM.set g n none) w := h.sub fun m o q => by
  unfold GM.set at q
  split at q
  · cases q
  · exact q
theorem HR.fresh {B : Base} {φ : Ph} {g : GM} {w : World} (h : HR B φ g w) {n : Nat} (hf : φ.blk n = none ∧ φ.cap n = none) : g n = none := by
  cases hg : g n with
  | none => rfl
  | some o =>
    exfalso
    have := h.obj n o hg
    cases o with
    | caps l => obtain ⟨vs, q, _⟩ := this; rw [hf.2] at q; cases q
    | cells l s => obtain ⟨b, f, c, T, q, _⟩ := this; rw [hf.1] at q; cases q
    | ro l => obtain ⟨b, f, c, T, fz, q, _⟩ := this; rw [hf.1] at q; cases q
    | map l c => obtain ⟨b, f, S, es, q, _⟩ := this; rw [hf.1] at q; cases q
    | loop l => obtain ⟨b, f, S, es, q, _⟩ := this; rw [hf.1] at q; cases q
    | dfr l => obtain ⟨b, f, S, q, _⟩ := this; rw [hf.1] at q; cases q
/-- a new block -/
theorem HR.alloc {B : Base} {φ : Ph} {g : GM} {w : World} (h : HR B φ g w) {n : Nat} (hf : φ.blk n = none ∧ φ.cap n = none) {o : AO} (hro : ∀ l, o ≠ .ro l) {ob : Obj} {S : Nat} {w' : World} (hw' : w' = w.alloc ob ∨ w' = w.drew.alloc ob) (hO : OR (φ.put n (w.heap.size, 0, S)) o n w') :
    HR B (φ.put n (w.heap.size, 0, S)) (GM.set g n (some o)) w' := by
  have hold : ∀ b, b < w.heap.size → w'.heap[b]? = w.heap[b]? := by
    intro b hb
    rcases hw' with rfl | rfl
    · show (w.heap.push ob)[b]? = _; rw [Array.getElem?_push, if_neg (by omega)]
    · show (w.heap.push ob)[b]? = _; rw [Array.getElem?_push, if_neg (by omega)]
  have hsz : w'.heap.size = w.heap.size + 1 := by rcases hw' with rfl | rfl <;> exact Array.size_push _
  have hblk : ∀ m x, m ≠ n → (φ.put n (w.heap.size, 0, S)).blk m = some x → φ.blk m = some x := by
    intro m x hm hx
    unfold Ph.put at hx
    simp only [if_neg hm] at hx; exact hx
  have hn : (φ.put n (w.heap.size, 0, S)).blk n = some (w.heap.size, 0, S) := by simp [Ph.put]
  have hle := Ph.le_put (x := (w.heap.size, 0, S)) hf.1
  refine ⟨fun b hb => (hold b (Nat.lt_of_lt_of_le (h.fb.1 b hb) h.size)).trans (h.keep b hb), h.fb, by have := h.size; omega, ?_, ?_, ?_, ?_, ?_, ?_, ?_, ?_⟩
  · rcases hw' with rfl | rfl <;> exact h.os
  · rcases hw' with rfl | rfl <;> exact h.out
  · rcases hw' with rfl | rfl <;> exact h.tape
  · intro m p hm
    by_cases e : m = n
    · subst e
      rw [GM.set_same] at hm
      cases hm; exact hO
    · rw [GM.set_ne g _ e] at hm
      exact (h.obj m p hm).mono hle fun b x hb => hold b (h.lt m b x hb)
  · intro m p b x hm ho hb
    by_cases e : m = n
    · subst e
      rw [hn] at hb
      cases hb
      intro hF
      have := h.fb.1 _ hF
      have := h.size
      omega
    · rw [GM.set_ne g _ e] at hm
      exact h.own m p b x hm ho (hblk m _ e hb)
  · intro m l b x hm hb
    by_cases e : m = n
    · subst e
      rw [GM.set_same] at hm
      cases hm
      exact absurd rfl (hro l)
    · rw [GM.set_ne g _ e] at hm
      exact h.ro m l b x hm (hblk m _ e hb)
  · intro a m p q b x y hne ha hm hp hq hb hb'
    by_cases e : a = n
    · subst e
      rw [hn] at hb
      cases hb
      have := h.lt m _ _ (hblk m _ (Ne.symm hne) hb')
      omega
    · by_cases e' : m = n
      · subst e'
        rw [hn] at hb'
        cases hb'
        have := h.lt a _ _ (hblk a _ e hb)
        omega
      · rw [GM.set_ne g _ e] at ha
        rw [GM.set_ne g _ e'] at hm
        exact h.apart a m p q b x y hne ha hm hp hq (hblk a _ e hb) (hblk m _ e' hb')
  · intro m b x hb
    by_cases e : m = n
    · subst e; rw [hn] at hb; cases hb; omega
    · have := h.lt m b x (hblk m _ e hb); omega
/-- captured values, laid -/
theorem HR.newCaps {B : Base} {φ : Ph} {g : GM} {w : World} (h : HR B φ g w) {n : Nat} (hf : φ.blk n = none ∧ φ.cap n = none) {l : List AS} {vs : Array Value} (hl : A2 (SR φ) l vs.toList) :
    HR B (φ.putC n vs) (GM.set g n (some (.caps l))) w := by
  have hle := Ph.le_putC (x := vs) hf.2
  refine ⟨h.keep, h.fb, h.size, h.os, h.out, h.tape, ?_, ?_, ?_, ?_, h.lt⟩
  · intro m p hm
    by_cases e : m = n
    · subst e
      rw [GM.set_same] at hm
      cases hm
      exact ⟨vs, by simp [Ph.putC], hl.mono (SR.mono hle)⟩
    · rw [GM.set_ne g _ e] at hm
      exact (h.obj m p hm).mono hle fun b x hb => rfl
  · intro m p b x hm ho hb
    by_cases e : m = n
    · subst e; rw [GM.set_same] at hm; cases hm; cases ho
    · rw [GM.set_ne g _ e] at hm; exact h.own m p b x hm ho hb
  · intro m q b x hm hb
    by_cases e : m = n
    · subst e; rw [GM.set_same] at hm; cases hm
    · rw [GM.set_ne g _ e] at hm; exact h.ro m q b x hm hb
  · intro a m p q b x y hne ha hm hp hq hb hb'
    by_cases e : a = n
    · subst e; rw [GM.set_same] at ha; cases ha; cases hp
    · by_cases e' : m = n
      · subst e'; rw [GM.set_same] at hm; cases hm; cases hq
      · rw [GM.set_ne g _ e] at ha
        rw [GM.set_ne g _ e'] at hm
        exact h.apart a m p q b x y hne ha hm hp hq hb hb'
/-- one object turned, whose block nobody shares -/
theorem HR.upd {B : Base} {φ : Ph} {g0 g : GM} {w w' : World} (h : HR B φ g0 w) (hsub : ∀ m p, g m = some p → g0 m = some p) {n : Nat} {o0 o : AO} (hg : g0 n = some o0) (h0 : o0.own = true) (h1 : ∀ l, o ≠ .ro l) {b : Nat} {x : Nat × Nat} (hb : φ.blk n = some (b, x)) (hO : OR φ o n w')
    (halone : ∀ m p y, m ≠ n → g m = some p → p.own = true → φ.blk m = some (b, y) → False) (hother : ∀ k, k ≠ b → w'.heap[k]? = w.heap[k]?) (hsz : w'.heap.size = w.heap.size) (hos : w'.os = w.os) (hout : w'.output = w.output) (htape : w'.tape = w.tape) :
    HR B φ (GM.set g n (some o)) w' := by
  have hnF : ¬ B.F b := h.own n o0 b x hg h0 hb
  refine ⟨fun k hk => (hother k fun e => hnF (e ▸ hk)).trans (h.keep k hk), h.fb, by rw [hsz]; exact h.size, hos.trans h.os, hout.trans h.out, htape.trans h.tape, ?_, ?_, ?_, ?_, fun m b x hb => by rw [hsz]; exact h.lt m b x hb⟩
  · intro m p hm
    by_cases e : m = n
    · subst e; rw [GM.set_same] at hm; cases hm; exact hO
    · rw [GM.set_ne g _ e] at hm
      have hmo := h.obj m p (hsub m p hm)
      cases hc : (match p with | .caps _ => true | _ => false : Bool) with
      | true => cases p <;> first | (cases hc; done) | exact hmo
      | false =>
      refine hmo.mono (.refl φ) fun k y hk => ?_
      by_cases hkb : k = b
      · subst hkb
        exfalso
        cases hp : p.own with
        | true => exact halone m p y e hm hp hk
        | false =>
          cases p with
          | ro l => exact hnF (h.fb.2 _ (h.ro m l k y (hsub _ _ hm) hk))
          | caps l => cases hc
          | _ => cases hp
      · exact hother k hkb
  · intro m p b' x' hm ho hb'
    by_cases e : m = n
    · subst e; rw [hb] at hb'; cases hb'; exact hnF
    · rw [GM.set_ne g _ e] at hm; exact h.own m p b' x' (hsub _ _ hm) ho hb'
  · intro m l b' x' hm hb'
    by_cases e : m = n
    · subst e; rw [GM.set_same] at hm; cases hm; exact absurd rfl (h1 l)
    · rw [GM.set_ne g _ e] at hm; exact h.ro m l b' x' (hsub _ _ hm) hb'
  · intro a m p q b' x' y' hne ha hm hp hq hb1 hb2
    by_cases e : a = n
    · subst e
      rw [hb] at hb1
      cases hb1
      rw [GM.set_ne g _ (Ne.symm hne)] at hm
      exact (halone m q y' (Ne.symm hne) hm hq hb2).elim
    · by_cases e' : m = n
      · subst e'
        rw [hb] at hb2
        cases hb2
        rw [GM.set_ne g _ e] at ha
        exact (halone a p x' e ha hp hb1).elim
      · rw [GM.set_ne g _ e] at ha
        rw [GM.set_ne g _ e'] at hm
        exact h.apart a m p q b' x' y' hne (hsub _ _ ha) (hsub _ _ hm) hp hq hb1 hb2
theorem cov_of {φ : Ph} {l : List CV} {us : List Value} (h : A2 (CR φ) l us) : Cov φ us.toArray 0 l := by
  intro i x hi
  obtain ⟨v, h1, h2⟩ := h.get hi
  exact ⟨v, by simpa using h1, h2⟩
/-- a write to a row -/
theorem write_run {n off : Nat} {vs : List CV} {K : H → Option R} {r : R} (h1 : hwrite h n off vs K = some r) : ∃ h', K h' = some r ∧ h'.nx = h.nx ∧
    ∀ B φ w, HR B φ h.t.get w → ∀ us, A2 (CR φ) vs us → ∀ b f S, φ.blk n = some (b, f, S) → ∃ w', (storeCells ⟨b, f + off, none⟩ us).run P w = .ok () w' ∧ HR B φ h'.t.get w' := by
  cases vs with
  | nil => exact ⟨h, h1, rfl, fun B φ w hw us hu b f S hb => by cases hu; exact ⟨w, rfl, hw⟩⟩
  | cons v0 vr =>
    obtain ⟨o, ho, h2⟩ := ob_some (show ob (hget h n) _ = some r from h1)
    cases o with
    | cells l s =>
      obtain ⟨h3, h4, h5, h6⟩ := hkill_spec (show hkill h s _ = some r from h2)
      obtain ⟨h7, h8⟩ := putK_spec _ _ _ _ _ h4
      obtain ⟨h9, h10, h11, h12⟩ := hset_spec h8
      refine ⟨h9, h10, h11.trans h5, fun B φ w hw us hu b f S hb => ?_⟩
      obtain ⟨b', f', c, T, q, hh, hc, hsz⟩ := hw.obj _ _ (show h.t.get n = some (.cells l s) from ho)
      rw [hb] at q
      obtain ⟨rfl, rfl, rfl⟩ : b = b' ∧ f = f' ∧ S = c.size := by simpa using q
      have hul := hu.len
      have hone : ∀ y ∈ us, y.oneCell' = true := fun y hy => by obtain ⟨a, _, ha⟩ := hu.mem hy; exact (CR.one ha).1
      have hrun := run_storeCells_at P b (f + off) T us 0 c w hh (by rw [← hul]; omega) hone
      refine ⟨_, hrun, ?_⟩
      simp only [Nat.add_zero]
      rw [h12, h6]
      have hsz' : ((List.take (f + off) c.toList ++ us ++ List.drop (f + off + us.length) c.toList).toArray).size = c.size := by simp; omega
      · refine hw.upd (b := b) (x := (f, c.size)) (o := .cells (List.take off l ++ ((v0 :: vr) ++ List.drop (off + (v0 :: vr).length) l)) none) (fun m p hm => (GM.killO_sub hm).1) ho rfl (fun l hl => by cases hl) hb ?_ ?_ (fun k hk => setRow_other w b k _ hk) (setRow_size w b _) rfl rfl rfl
        · refine ⟨b, f, _, T, by rw [hsz']; exact hb, setRow_heap w b c _ T _ hh, ?_, by rw [hsz']; have h7' := h7; simp only [List.length_append, List.length_take, List.length_drop, List.length_cons] at h7' ⊢; omega⟩
          intro i x hi
          have hi' : (List.take off l ++ ((v0 :: vr) ++ List.drop (off + (v0 :: vr).length) l))[i]? = some x := hi
          rw [List.getElem?_toArray]
          by_cases c1 : i < off
          · rw [List.getElem?_append_left (by simp; omega), List.getElem?_take, if_pos c1] at hi'
            obtain ⟨v, e1, e2⟩ := hc i x hi'
            refine ⟨v, ?_, e2⟩
            rw [List.append_assoc, List.getElem?_append_left (by simp; omega), List.getElem?_take, if_pos (by omega), Array.getElem?_toList]; exact e1
          · rw [List.getElem?_append_right (by simp; omega)] at hi'
            simp only [List.length_take, Nat.min_eq_left (show off ≤ l.length by omega)] at hi'
            by_cases c2 : i < off + (v0 :: vr).length
            · rw [List.getElem?_append_left (by omega)] at hi'
              obtain ⟨v, e1, e2⟩ := hu.get hi'
              refine ⟨v, ?_, e2⟩
              rw [List.append_assoc, List.getElem?_append_right (by simp; omega)]
              simp only [List.length_take, Array.length_toList, Nat.min_eq_left (show f + off ≤ c.size by omega)]
              rw [List.getElem?_append_left (by omega)]
              rw [show f + i - (f + off) = i - off by omega]; exact e1
            · rw [List.getElem?_append_right (by omega), List.getElem?_drop] at hi'
              rw [show off + (v0 :: vr).length + (i - off - (v0 :: vr).length) = i by omega] at hi'
              obtain ⟨v, e1, e2⟩ := hc i x hi'
              refine ⟨v, ?_, e2⟩
              rw [List.append_assoc, List.getElem?_append_right (by simp; omega)]
              simp only [List.length_take, Array.length_toList, Nat.min_eq_left (show f + off ≤ c.size by omega)]
              rw [List.getElem?_append_right (by omega), List.getElem?_drop, Array.getElem?_toList]
              rw [show f + off + us.length + (f + i - (f + off) - us.length) = f + i by omega]; exact e1
        · intro m p y hmn hgm hp hbm
          obtain ⟨hgm1, hgm2⟩ := GM.killO_sub hgm
          exact hgm2 (hw.apart n m _ p b _ y (Ne.symm hmn) ho hgm1 rfl hp hb hbm)
    | _ => cases h2
/-- a new row, and nothing else -/
def OpA (P : Program) (o : Oper) (tm : TM) (v : AV) (n : Nat) (ob : AO) : Prop := (ob.own = true ∧ ob.sib = none) ∧ ∀ g, OpS P o tm g v (GM.set g n (some ob)) (· = n)
theorem OpA.mk {v : AV} {n : Nat} {l : List CV} (hv : ∀ φ a, Glob φ → On φ tm o.op.operands.toList a → ∃ us T, A2 (CR φ) l us ∧ ∀ w, ∃ y, (execOp a.eval o).run P w = .ok (.value y) (w.alloc (.cells us.toArray T)) ∧ ∀ ψ : Ph, ψ.blk n = some (w.heap.size, 0, us.length) → AR ψ v y)   : OpA P o tm v n (.cells l none) := by
  refine ⟨⟨rfl, rfl⟩, ?_⟩
  intro g B φ a w hw hg hn hf
  obtain ⟨us, T, hu, hr⟩ := hv φ a hg hn
  obtain ⟨y, hy, hay⟩ := hr w
  have hfn := hf n rfl
  refine ⟨_, _, hy, φ.put n (w.heap.size, 0, us.length), Ph.le_put hfn.1, ?_, hw.alloc hfn (fun l hl => by cases hl) (.inl rfl) ?_, hay _ (by simp [Ph.put])⟩
  · intro m hm
    exact ⟨by show (if m = n then _ else _) = _; rw [if_neg hm], rfl⟩
  · refine ⟨w.heap.size, 0, us.toArray, T, by simp [Ph.put], by show (w.heap.push _)[_]? = _; simp, (cov_of hu).mono (Ph.le_put hfn.1), by have := hu.len; simp; omega⟩
theorem alloc_s (hE : EOk P E) {t : TypeId} (ho : o.op = .alloc t) (h1 : oAlloc E t h K = some r) : ∃ v h' ob, K v h' = some r ∧ h'.nx = h.nx + 1 ∧ h'.t.get = GM.set h.t.get h.nx (some ob) ∧ OpA P o tm v h.nx ob := by
  obtain ⟨ti, ht, h1⟩ := ob_some h1
  obtain ⟨h', h2, h3, h4⟩ := hnew_spec h1
  refine ⟨_, h', _, h2, h3, h4, .mk fun φ a hg hn => ?_⟩
  obtain ⟨z, hz, hzs, hzc, _⟩ := (hE.ty _ _ ht).zero
  refine ⟨z.cells.toList, t, hzc φ, fun w => ⟨.pointer (some ⟨w.heap.size, 0, none⟩), ?_, fun ψ hψ => ⟨_, _, _, hψ, rfl⟩⟩⟩
  unfold execOp
  simp only [ho]
  refine run_v ?_
  unfold Instr.alloc
  rw [Sem.run_bind, hz, Result.andThen_ok]
  simp only [newVar, newRow, Sem.run_bind, run_newObj_alloc, Result.andThen_ok, Sem.run_pure]
theorem box_s {t : TypeId} {x : Operand} (ho : o.op = .box t x) (h1 : oBox tm x h K = some r) : ∃ v h' ob, K v h' = some r ∧ h'.nx = h.nx + 1 ∧ h'.t.get = GM.set h.t.get h.nx (some ob) ∧ OpA P o tm v h.nx ob := by
  obtain ⟨c, h1, hx⟩ := evK_spec (K := fun v => withFlat v fun l => hnew h (.cells l none) fun n h => K (.c (.ptr n 0)) h) h1
  obtain ⟨l, h1, hl⟩ := flat_spec h1
  obtain ⟨h', h2, h3, h4⟩ := hnew_spec h1
  refine ⟨_, h', _, h2, h3, h4, .mk fun φ a hg hn => ?_⟩
  obtain ⟨q1, q2, q3⟩ := hl φ _ (hx φ a hg (hn.sub (by rw [ho]; simp [Op.operands])))
  refine ⟨(a.eval x).cells.toList, t, q1, fun w => ⟨.pointer (some ⟨w.heap.size, 0, none⟩), ?_, fun ψ hψ => ⟨_, _, _, hψ, rfl⟩⟩⟩
  unfold execOp
  simp only [ho]
  refine run_v ?_
  simp only [Instr.box, newVar, newRow, Sem.run_bind, run_newObj_alloc, Result.andThen_ok, Sem.run_pure]
end Go.Ev
