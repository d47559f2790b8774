/- The evaluator: append, copy, clear. -/
import Derived.Test.YtjefclbjjcglkaaGreatDoorEv7
set_option linter.unusedVariables false
set_option linter.unusedSimpArgs false
namespace Go.Ev
open Go
variable {R : Type} {P : Program} {E : Env} {tm : TM} {h : H} {K : AV → H → Option R} {r : R} {o : Oper}
/-- a row grown in place: two names for one block -/
theorem HR.share {B : Base} {φ : Ph} {g : GM} {w : World} (hw : HR B φ g w) {n nx : Nat} (hne : n ≠ nx) (hf : φ.blk nx = none ∧ φ.cap nx = none) {l keep all : List CV} {s : Option Nat} (hg : g n = some (.cells l s)) {b f S : Nat} (hb : φ.blk n = some (b, f, S))
    {c c' : Array Value} {T : TypeId} (hh : w.heap[b]? = some (.cells c T (0, 0))) (hS : c'.size = S) {fo : Nat} (hk : Cov φ c' f keep) (hkl : f + keep.length ≤ S) (ha : Cov φ c' fo all) (hal : fo + all.length ≤ S) :
    HR B (φ.put nx (b, fo, S)) (GM.set (GM.set (GM.killO g s) n (some (.cells keep (some nx)))) nx (some (.cells all (some n)))) (w.setRow b c') := by
  have hle := Ph.le_put (x := (b, fo, S)) hf.1
  have hnF : ¬ B.F b := hw.own n _ b _ hg rfl hb
  have hblk : ∀ m x, m ≠ nx → (φ.put nx (b, fo, S)).blk m = some x → φ.blk m = some x := by
    intro m x hm hx
    unfold Ph.put at hx
    simp only [if_neg hm] at hx; exact hx
  have hn : (φ.put nx (b, fo, S)).blk nx = some (b, fo, S) := by simp [Ph.put]
  have hbn : (φ.put nx (b, fo, S)).blk n = some (b, f, S) := hle.b _ _ hb
  have hrow := setRow_heap w b c c' T (0, 0) hh
  -- nobody else has the block
  have hal1 : ∀ m p y, m ≠ n → GM.killO g s m = some p → p.own = true → φ.blk m = some (b, y) → False := by
    intro m p y hm hp ho hy
    obtain ⟨q1, q2⟩ := GM.killO_sub hp
    exact q2 (hw.apart n m _ p b _ y (Ne.symm hm) hg q1 rfl ho hb hy)
  have get : ∀ m p, (GM.set (GM.set (GM.killO g s) n (some (.cells keep (some nx)))) nx (some (.cells all (some n)))) m = some p → (m = nx ∧ p = .cells all (some n)) ∨ (m ≠ nx ∧ m = n ∧ p = .cells keep (some nx)) ∨ (m ≠ nx ∧ m ≠ n ∧ GM.killO g s m = some p) := by
    intro m p hm
    by_cases e : m = nx
    · subst e; rw [GM.set_same] at hm; cases hm; exact .inl ⟨rfl, rfl⟩
    · rw [GM.set_ne _ _ e] at hm
      by_cases e2 : m = n
      · subst e2; rw [GM.set_same] at hm; cases hm; exact .inr (.inl ⟨e, rfl, rfl⟩)
      · rw [GM.set_ne _ _ e2] at hm; exact .inr (.inr ⟨e, e2, hm⟩)
  refine ⟨fun k hk => (setRow_other w b k _ fun e => hnF (e ▸ hk)).trans (hw.keep k hk), hw.fb, by rw [setRow_size]; exact hw.size, hw.os, hw.out, hw.tape, ?_, ?_, ?_, ?_, ?_⟩
  · intro m p hm
    rcases get m p hm with ⟨rfl, rfl⟩ | ⟨e1, rfl, rfl⟩ | ⟨e1, e2, hp⟩
    · exact ⟨b, fo, c', T, by rw [hS]; exact hn, hrow, ha.mono hle, by rw [hS]; exact hal⟩
    · exact ⟨b, f, c', T, by rw [hS]; exact hbn, hrow, hk.mono hle, by rw [hS]; exact hkl⟩
    · obtain ⟨q1, q2⟩ := GM.killO_sub hp
      have hmo := hw.obj m p q1
      cases hc : (match p with | .caps _ => true | _ => false : Bool) with
      | true => cases p <;> first | (cases hc; done) | (obtain ⟨vs, q, k⟩ := hmo; exact ⟨vs, q, k.mono (SR.mono hle)⟩)
      | false =>
        refine hmo.mono hle fun k y hk => ?_
        by_cases hkb : k = b
        · subst hkb
          exfalso
          cases hp2 : p.own with
          | true => exact hal1 m p y e2 hp hp2 hk
          | false =>
            cases p with
            | ro l => exact hnF (hw.fb.2 _ (hw.ro m l k y q1 hk))
            | caps l => cases hc
            | _ => cases hp2
        · exact setRow_other w b k _ hkb
  · intro m p b' x hm ho hb'
    rcases get m p hm with ⟨rfl, rfl⟩ | ⟨e1, rfl, rfl⟩ | ⟨e1, e2, hp⟩
    · rw [hn] at hb'; cases hb'; exact hnF
    · rw [hbn] at hb'; cases hb'; exact hnF
    · exact hw.own m p b' x (GM.killO_sub hp).1 ho (hblk m _ e1 hb')
  · intro m l' b' x hm hb'
    rcases get m _ hm with ⟨rfl, e⟩ | ⟨e1, rfl, e⟩ | ⟨e1, e2, hp⟩
    · cases e
    · cases e
    · exact hw.ro m l' b' x (GM.killO_sub hp).1 (hblk m _ e1 hb')
  · intro m k p q b' x y hmk hm hk ho hq hb1 hb2
    rcases get m p hm with ⟨rfl, rfl⟩ | ⟨e1, rfl, rfl⟩ | ⟨e1, e2, hp⟩
    · rcases get k q hk with ⟨rfl, rfl⟩ | ⟨f1, rfl, rfl⟩ | ⟨f1, f2, hp'⟩
      · exact absurd rfl hmk
      · rfl
      · rw [hn] at hb1; cases hb1
        exact (hal1 k q y f2 hp' hq (hblk k _ f1 hb2)).elim
    · rcases get k q hk with ⟨rfl, rfl⟩ | ⟨f1, rfl, rfl⟩ | ⟨f1, f2, hp'⟩
      · rfl
      · exact absurd rfl hmk
      · rw [hbn] at hb1; cases hb1
        exact (hal1 k q y f2 hp' hq (hblk k _ f1 hb2)).elim
    · rcases get k q hk with ⟨rfl, rfl⟩ | ⟨f1, rfl, rfl⟩ | ⟨f1, f2, hp'⟩
      · rw [hn] at hb2; cases hb2
        exact (hal1 m p x e2 hp ho (hblk m _ e1 hb1)).elim
      · rw [hbn] at hb2; cases hb2
        exact (hal1 m p x e2 hp ho (hblk m _ e1 hb1)).elim
      · exact hw.apart m k p q b' x y hmk (GM.killO_sub hp).1 (GM.killO_sub hp').1 ho hq (hblk m _ e1 hb1) (hblk k _ f1 hb2)
  · intro m b' x hb'
    rw [setRow_size]
    by_cases e : m = nx
    · subst e; rw [hn] at hb'; cases hb'; exact hw.lt n _ _ hb
    · exact hw.lt m b' x (hblk m _ e hb')
/-- a grown row laid anew: what it covers -/
theorem grown_or {φ : Ph} {w w' : World} {n S : Nat} {all : List CV} {us rest : List Value} {sib : Option Nat} {T : TypeId} (ha : A2 (CR φ) all us) (hS : S = us.length + rest.length) (hh : w'.heap[w.heap.size]? = some (.cells (us ++ rest).toArray T (0, 0))) (hf : φ.blk n = none) :
    OR (φ.put n (w.heap.size, 0, S)) (.cells all sib) n w' := by
  have hl := ha.len
  refine ⟨w.heap.size, 0, _, T, by simp [Ph.put, hS], hh, ?_, by simp; omega⟩
  intro i x hi
  obtain ⟨v, e1, e2⟩ := ha.get hi
  refine ⟨v, ?_, CR.mono (Ph.le_put hf) _ _ e2⟩
  rw [List.getElem?_toArray, Nat.zero_add, List.getElem?_append_left (by have := (List.getElem?_eq_some_iff.1 e1).1; omega)]
  exact e1
/-- what an operation of any kind shows -/
def OpAny (P : Program) (o : Oper) (tm : TM) (h : H) (K : AV → H → Option R) (r : R) : Prop :=
  ∃ v h' N, K v h' = some r ∧ h.nx ≤ h'.nx ∧ (∀ m, N m → h.nx ≤ m ∧ m < h'.nx) ∧ OpS P o tm h.t.get v h'.t.get N
theorem zero_rest {te : TI} {z : Value} (hzs : z.cells.size = te.sz) (k : Nat) : (Builtin.zeroCells z.cells k).toList.length = k * te.sz := by
  simp [Builtin.zeroCells, hzs]
/-- the row laid anew -/
theorem grow_post {B : Base} {φ : Ph} {g2 : GM} {w : World} (hw : HR B φ g2 w) {nx : Nat} (hf : φ.blk nx = none ∧ φ.cap nx = none) {all : List CV} {us : List Value} (ha : A2 (CR φ) all us) {te : TI} {z : Value} (hzs : z.cells.size = te.sz) {need nc : Nat} (hu : us.length = need * te.sz) (hn : need ≤ nc) {T : TypeId} {sib : Option Nat} :
    Aft B φ (GM.set g2 nx (some (.cells all sib))) (· = nx) (.c (.sl nx 0 need need te.sz false)) (.slice (some ⟨w.heap.size, 0, none⟩) need nc) (w.drew.alloc (.cells (us ++ (Builtin.zeroCells z.cells (nc - need)).toList).toArray T)) := by
  have hS : nc * te.sz = us.length + (Builtin.zeroCells z.cells (nc - need)).toList.length := by
    rw [zero_rest hzs, hu, ← Nat.add_mul]; congr 1; omega
  refine ⟨φ.put nx (w.heap.size, 0, nc * te.sz), Ph.le_put hf.1, fun m hm => ⟨by show (if m = nx then _ else _) = _; rw [if_neg hm], rfl⟩, ?_, ?_⟩
  · refine hw.alloc hf (fun l hl => by cases hl) (.inr rfl) (grown_or (T := T) ha hS ?_ hf.1)
    show (w.heap.push _)[_]? = _
    simp
  · exact ⟨w.heap.size, 0, nc * te.sz, nc, by simp [Ph.put], rfl, hn, fun h => (by cases h), by omega⟩
theorem arr2 (olds us : List Value) (A : Array Value) : olds.toArray ++ us.toArray ++ A = ((olds ++ us) ++ A.toList).toArray := by
  apply Array.ext'
  simp
theorem append_s (hE : EOk P E) {c : Call} (ho : o.op = .call c) (hc : c.callee = .builtin .append) {args : List AV} (hargs : ∀ φ a, Glob φ → On φ tm c.args.toList a → A2 (AR φ) args (c.args.toList.map a.eval))
    (h1 : bAppend E c.argTypes.toList args h K = some r) : OpAny P o tm h K r := by
  obtain ⟨s0, hs0, h1⟩ := ob_some h1
  obtain ⟨x0, hx0, h1⟩ := ob_some h1
  obtain ⟨s, rfl, h1⟩ := withC_spec (x := s0) (K := fun s => withC x0 fun x => ob (getL c.argTypes.toList 0) fun t => ob (getL c.argTypes.toList 1) fun t2 => elemK E t2 fun _ => elemK E t fun e => appendK e.sz e.by_ s x h K) h1
  obtain ⟨x, rfl, h1⟩ := withC_spec (x := x0) h1
  obtain ⟨t, ht, h1⟩ := ob_some h1
  obtain ⟨t2, ht2, h1⟩ := ob_some h1
  obtain ⟨e2, te2, ud2, hte2, h1⟩ := elemK_spec hE h1
  obtain ⟨e, te, ud, hte, h1⟩ := elemK_spec hE h1
  obtain ⟨m, xs, h1, hsrc⟩ := firstK_spec (P := P) h1
  rw [getL_eq] at hs0 hx0 ht ht2
  have hT := hE.ty _ _ hte
  obtain ⟨z, hz, hzs, hzc, _⟩ := hT.zero
  obtain ⟨inf, z', i1, i2, i3, i4, hzl, _⟩ := hT.info
  have hzz : z' = z := by
    have := hz ⟨#[], fun _ _ => 0, 0, default, #[]⟩
    simp [zeroValue, typeInfo, i1, i4] at this; exact this
  subst hzz
  have T0 : c.argTypes[0]? = some t := by simpa using ht
  have T1 : c.argTypes[1]? = some t2 := by simpa using ht2
  have hv : ∀ φ a, Glob φ → On φ tm o.op.operands.toList a → (∃ v, (c.args.map a.eval)[0]? = some v ∧ CR φ s v) ∧ ∃ u, (c.args.map a.eval)[1]? = some u ∧ CR φ x u := by
    intro φ a hg hn
    have hh := hargs φ a hg (hn.sub (call_sub ho hc))
    obtain ⟨v, q1, q2⟩ := hh.get hs0
    obtain ⟨u, q3, q4⟩ := hh.get hx0
    exact ⟨⟨v, by simpa using q1, q2⟩, ⟨u, by simpa using q3, q4⟩⟩
  have exec : ∀ (a : Act) (w w' : World) (y : Value), (Builtin.append_ c.argTypes o.type (c.args.map a.eval)).run P w = .ok y w' → (execOp a.eval o).run P w = .ok (.value y) w' := by
    intro a w w' y hy
    obtain ⟨cs, e⟩ := call_builtin (P := P) ho hc a w
    rw [e]
    exact run_v hy
  cases s with
  | nils =>
    replace h1 : bf (Nat.beq m 0) (K (.c .nils) h) (bf (roomOk m te.by_) (hnew h (.cells xs none) fun n h => K (.c (.sl n 0 m m te.sz false)) h) none) = some r := h1
    cases hm : Nat.beq m 0 with
    | true =>
      rw [hm, bf_true] at h1
      obtain rfl : m = 0 := Nat.eq_of_beq_eq_true hm
      refine ⟨_, h, No, h1, Nat.le_refl _, fun _ hm => hm.elim, fun B φ a w hw hg hn hf => ?_⟩
      obtain ⟨⟨v, q1, q2⟩, u, q3, q4⟩ := hv φ a hg hn
      cases q2
      obtain ⟨us, u1, u2, ⟨aa, cc, u3⟩, u4⟩ := hsrc B φ w u hw q4
      have := append_room (P := P) (ty := o.type) T0 T1 ud ud2 i1 q1 q3 u3 (us := us) (w := w) (w' := w) (by have := u4 0 (Nat.le_refl 0) w fun _ => rfl; rw [i2, this, List.take_of_length_le (by omega)]) (Nat.le_refl 0) rfl
      exact ⟨_, _, exec a w w _ this, φ, .refl φ, fun _ _ => ⟨rfl, rfl⟩, hw, rfl⟩
    | false =>
      rw [hm, bf_false] at h1
      obtain ⟨hr, h1⟩ := bf_some h1
      obtain ⟨r1, r2⟩ := roomOk_spec hr
      obtain ⟨h', h2, h3, h4⟩ := hnew_spec h1
      refine ⟨_, h', (· = h.nx), h2, by omega, fun k hk => by cases hk; omega, fun B φ a w hw hg hn hf => ?_⟩
      obtain ⟨⟨v, q1, q2⟩, u, q3, q4⟩ := hv φ a hg hn
      cases q2
      obtain ⟨us, u1, u2, ⟨aa, cc, u3⟩, u4⟩ := hsrc B φ w u hw q4
      have hpos : 0 < m := by
        rcases Nat.eq_zero_or_pos m with hp | hp
        · rw [hp] at hm; cases hm
        · exact hp
      obtain ⟨nc, n1, n2⟩ := append_grow (P := P) (ty := o.type) T0 T1 ud ud2 i1 i4 q1 q3 u3 (us := us) (olds := []) (w := w) (fun w' hw' => by rw [i2, u4 m (Nat.le_refl m) w' hw', List.take_of_length_le (by omega)]) (fun w' _ => by simp [Builtin.firstCells]) (by omega) (by omega) (by omega)
      rw [arr2, List.nil_append, Nat.zero_add] at n2
      refine ⟨_, _, exec a w _ _ n2, ?_⟩
      rw [h4]
      exact grow_post (T := e) (sib := none) hw (hf _ rfl) u1 hzs u2 (show m ≤ nc by omega)
  | emp =>
    obtain ⟨hm, h1⟩ := bf_some (show bf (Nat.beq m 0) (K (.c .emp) h) none = some r from h1)
    obtain rfl : m = 0 := Nat.eq_of_beq_eq_true hm
    refine ⟨_, h, No, h1, Nat.le_refl _, fun _ hm => hm.elim, fun B φ a w hw hg hn hf => ?_⟩
    obtain ⟨⟨v, q1, q2⟩, u, q3, q4⟩ := hv φ a hg hn
    obtain ⟨sa, sc, rfl⟩ := q2
    obtain ⟨us, u1, u2, ⟨aa, cc, u3⟩, u4⟩ := hsrc B φ w u hw q4
    have hus : us = [] := List.eq_nil_of_length_eq_zero (by omega)
    subst hus
    have := append_room (P := P) (ty := o.type) T0 T1 ud ud2 i1 q1 q3 u3 (us := []) (w := w) (w' := w) (by have := u4 0 (Nat.le_refl 0) w fun _ => rfl; rw [i2, this]; simp) (Nat.zero_le _) (by cases sa <;> rfl)
    exact ⟨_, _, exec a w w _ this, φ, .refl φ, fun _ _ => ⟨rfl, rfl⟩, hw, _, _, rfl⟩
  | sl n off len cap zz ex =>
    obtain ⟨hzq, h1⟩ := bf_some (show bf (Nat.beq zz te.sz) (bf (roomOk (Nat.add len m) te.by_) (growK te.sz n off len cap ex m xs h K) none) none = some r from h1)
    obtain ⟨hr, h1'⟩ := bf_some h1
    obtain ⟨r1, r2⟩ := roomOk_spec hr
    obtain rfl : zz = te.sz := Nat.eq_of_beq_eq_true hzq
    have r1 : len + m ≤ 1048576 := r1
    replace h1 := h1'
    unfold growK at h1
    rw [fN_eq] at h1
    cases hcap : Nat.ble (Nat.add len m) cap with
    | true =>
      rw [hcap, bf_true] at h1
      have hcap' : len + m ≤ cap := Nat.le_of_ble_eq_true hcap
      obtain ⟨h', h2, h3, h4⟩ := write_run (P := P) h1
      refine ⟨_, h', No, h2, by omega, fun _ hm => hm.elim, fun B φ a w hw hg hn hf => ?_⟩
      obtain ⟨⟨v, q1, b, f, S, c', p1, p2, p3, p4, p5⟩, u, q3, q4⟩ := hv φ a hg hn
      subst p2
      obtain ⟨us, u1, u2, ⟨aa, cc, u3⟩, u4⟩ := hsrc B φ w u hw q4
      obtain ⟨w', w1, w2⟩ := h4 B φ w hw us u1 b f S p1
      have := append_room (P := P) (ty := o.type) T0 T1 ud ud2 i1 q1 q3 u3 (us := us) (w := w) (w' := w') (by have := u4 m (Nat.le_refl m) w fun _ => rfl; rw [i2, this, List.take_of_length_le (by omega)]) (by omega) (by
        show (storeCells ((⟨b, f + off, none⟩ : Addr).add (len * inf.size)) us).run P w = _
        rw [Addr.add_mid, i2, Nat.add_assoc]; exact w1)
      exact ⟨_, _, exec a w w' _ this, φ, .refl φ, fun _ _ => ⟨rfl, rfl⟩, w2, b, f, S, c', p1, rfl, p3, p4, p5⟩
    | false =>
      rw [hcap, bf_false] at h1
      have hcap' : cap < len + m := by
        rcases Nat.lt_or_ge cap (len + m) with hh | hh
        · exact hh
        · have : Nat.ble (len + m) cap = true := by rw [Nat.ble_eq]; exact hh
          rw [show Nat.add len m = len + m from rfl, this] at hcap; cases hcap
      obtain ⟨oo, hoo, h1⟩ := ob_some h1
      cases oo with
      | cells l sib =>
        obtain ⟨hle, h1⟩ := partK_spec (show partK l off _ _ = some r from h1)
        rw [appK_eq] at h1
        -- the old cells, in the world
        have olds : ∀ B φ w, HR B φ h.t.get w → ∀ b f S, φ.blk n = some (b, f, S) → ∃ cc T, w.heap[b]? = some (.cells cc T (0, 0)) ∧ cc.size = S ∧ Cov φ cc f l ∧ f + l.length ≤ S ∧ A2 (CR φ) ((l.drop off).take (Nat.mul len te.sz)) ((cc.toList.drop (f + off)).take (Nat.mul len te.sz)) ∧ ((cc.toList.drop (f + off)).take (Nat.mul len te.sz)).length = len * te.sz ∧
            ∀ c' (w' : World), (∀ b : Nat, w'.heap[b]? = w.heap[b]?) → (Builtin.firstCells inf.size len (.slice (some ⟨b, f + off, none⟩) len c')).run P w' = .ok ((cc.toList.drop (f + off)).take (Nat.mul len te.sz)).toArray w' := by
          intro B φ w hw b f S hb
          obtain ⟨b', f', cc, T, q', hh, hcov, hsz⟩ := hw.obj _ _ (show h.t.get n = some (.cells l sib) from hoo)
          rw [hb] at q'
          obtain ⟨rfl, rfl, rfl⟩ : b = b' ∧ f = f' ∧ S = cc.size := by simpa using q'
          have hp := cov_part hcov hle
          have hlen := hp.len
          have hll : ((l.drop off).take (Nat.mul len te.sz)).length = len * te.sz := by simp only [List.length_take, List.length_drop]; exact Nat.min_eq_left (by have : Nat.mul len te.sz = len * te.sz := rfl; omega)
          refine ⟨cc, T, hh, rfl, hcov, hsz, hp, by rw [← hlen, hll], fun c' w' hw' => ?_⟩
          have hpc := part_cells (w := w') (b := b) ((hw' b).trans hh) (f + off) (Nat.mul len te.sz)
          exact run_firstCells_some (P := P) w' inf.size len ⟨b, f + off, none⟩ len c' _ (by rw [← hlen, hll, i2]) fun j v hv => by rw [Addr.add_mid]; exact hpc j v hv
        cases ex with
        | true =>
          rw [bf_true] at h1
          obtain ⟨h', h2, h3, h4⟩ := hnew_spec h1
          refine ⟨_, h', (· = h.nx), h2, by omega, fun k hk => by cases hk; omega, fun B φ a w hw hg hn hf => ?_⟩
          obtain ⟨⟨v, q1, b, f, S, c', p1, p2, p3, p4, p5⟩, u, q3, q4⟩ := hv φ a hg hn
          subst p2
          obtain rfl := p4 rfl
          obtain ⟨us, u1, u2, ⟨aa, cc, u3⟩, u4⟩ := hsrc B φ w u hw q4
          obtain ⟨cel, T, o1, o2, o3, o4, o5, o6, o7⟩ := olds B φ w hw b f S p1
          obtain ⟨nc, n1, n2⟩ := append_grow (P := P) (ty := o.type) T0 T1 ud ud2 i1 i4 q1 q3 u3 (us := us) (w := w) (fun w' hw' => by rw [i2, u4 m (Nat.le_refl m) w' hw', List.take_of_length_le (by omega)]) (o7 c') (by omega) (by omega) (by omega)
          rw [arr2] at n2
          refine ⟨_, _, exec a w _ _ n2, ?_⟩
          rw [h4]
          have := grow_post (T := e) (sib := none) hw (hf _ rfl) (o5.app u1) hzs (need := len + m) (by rw [List.length_append, o6, u2, Nat.add_mul]) n1
          exact this
        | false =>
          obtain ⟨h2, h3, h4, h5⟩ := hkill_spec (show hkill h sib _ = some r from h1)
          obtain ⟨hk1, h6⟩ := takeK_spec _ _ _ _ h3
          obtain ⟨h7, h8, h9, h10⟩ := hset_spec h6
          obtain ⟨h', h11, h12, h13⟩ := hnew_spec h8
          rw [h9, h4] at h11 h12 h13
          rw [h10, h5, h4] at h13
          refine ⟨_, h', (· = h.nx), h11, by omega, fun k hk => by cases hk; omega, fun B φ a w hw hg hn hf => ?_⟩
          obtain ⟨⟨v, q1, b, f, S, c', p1, p2, p3, p4, p5⟩, u, q3, q4⟩ := hv φ a hg hn
          subst p2
          obtain ⟨us, u1, u2, ⟨aa, cc, u3⟩, u4⟩ := hsrc B φ w u hw q4
          obtain ⟨cel, T, o1, o2, o3, o4, o5, o6, o7⟩ := olds B φ w hw b f S p1
          have hnn : n ≠ h.nx := by rintro rfl; rw [(hf _ rfl).1] at p1; cases p1
          have hko : off + len * te.sz ≤ l.length := hk1
          have htl : (List.take (Nat.add off (Nat.mul len te.sz)) l).length = off + len * te.sz := by rw [List.length_take]; exact Nat.min_eq_left hko
          rw [h13]
          by_cases hroom : len + m ≤ c'
          · -- in place, for all we know
            have hone : ∀ y ∈ us, y.oneCell' = true := fun y hy => by obtain ⟨a, _, ha⟩ := u1.mem hy; exact (CR.one ha).1
            have hfit : f + (off + len * te.sz) + us.length ≤ cel.size := by
              rw [o2, u2]
              have : (len + m) * te.sz ≤ c' * te.sz := Nat.mul_le_mul_right _ hroom
              rw [Nat.add_mul] at this; omega
            have hrun := run_storeCells_at P b (f + (off + len * te.sz)) T us 0 cel w o1 hfit hone
            simp only [Nat.add_zero] at hrun
            have := append_room (P := P) (ty := o.type) T0 T1 ud ud2 i1 q1 q3 u3 (us := us) (w := w) (by have := u4 m (Nat.le_refl m) w fun _ => rfl; rw [i2, this, List.take_of_length_le (by omega)]) hroom (by
              show (storeCells ((⟨b, f + off, none⟩ : Addr).add (len * inf.size)) us).run P w = _
              rw [Addr.add_mid, i2, Nat.add_assoc]; exact hrun)
            refine ⟨_, _, exec a w _ _ this, φ.put h.nx (b, f + off, S), Ph.le_put (hf _ rfl).1, fun k hk => ⟨by show (if k = h.nx then _ else _) = _; rw [if_neg hk], rfl⟩, ?_, ?_⟩
            · refine hw.share hnn (hf _ rfl) hoo p1 o1 ?_ ?_ ?_ ?_ ?_
              · simp; omega
              · intro i y hi
                rw [List.getElem?_take] at hi
                split at hi
                · rename_i hlt
                  obtain ⟨v, e1, e2⟩ := o3 i y hi
                  refine ⟨v, ?_, e2⟩
                  have hlt : i < off + len * te.sz := hlt
                  rw [List.getElem?_toArray, List.append_assoc, List.getElem?_append_left (by simp; omega), List.getElem?_take, if_pos (by omega), Array.getElem?_toList]; exact e1
                · cases hi
              · rw [htl]; omega
              · intro i y hi
                rw [List.getElem?_toArray, List.append_assoc]
                have hol := o5.len
                rw [o6] at hol
                by_cases c1 : i < len * te.sz
                · rw [List.getElem?_append_left (by omega), List.getElem?_take, if_pos (show i < len.mul te.sz from c1), List.getElem?_drop] at hi
                  obtain ⟨v, e1, e2⟩ := o3 _ y hi
                  refine ⟨v, ?_, e2⟩
                  rw [List.getElem?_append_left (by simp; omega), List.getElem?_take, if_pos (by omega), Array.getElem?_toList, Nat.add_assoc]; exact e1
                · rw [List.getElem?_append_right (by omega), hol] at hi
                  obtain ⟨v, e1, e2⟩ := u1.get hi
                  refine ⟨v, ?_, e2⟩
                  rw [List.getElem?_append_right (by simp; omega)]
                  simp only [List.length_take, Array.length_toList, Nat.min_eq_left (show f + (off + len * te.sz) ≤ cel.size by omega)]
                  have := (List.getElem?_eq_some_iff.1 e1).1
                  rw [List.getElem?_append_left (by omega), show f + off + i - (f + (off + len * te.sz)) = i - len * te.sz by omega]; exact e1
              · rw [List.length_append, o5.len, o6, u1.len, u2]
                have : (len + m) * te.sz ≤ c' * te.sz := Nat.mul_le_mul_right _ hroom
                rw [Nat.add_mul] at this; omega
            · exact ⟨b, f + off, S, c', by simp [Ph.put], rfl, hroom, fun hh => (by cases hh), by omega⟩
          · obtain ⟨nc, n1, n2⟩ := append_grow (P := P) (ty := o.type) T0 T1 ud ud2 i1 i4 q1 q3 u3 (us := us) (w := w) (fun w' hw' => by rw [i2, u4 m (Nat.le_refl m) w' hw', List.take_of_length_le (by omega)]) (o7 c') (by omega) (by omega) (by omega)
            rw [arr2] at n2
            refine ⟨_, _, exec a w _ _ n2, ?_⟩
            have hw2 : HR B φ (GM.set (GM.killO h.t.get sib) n (some (.cells (List.take (Nat.add off (Nat.mul len te.sz)) l) (some h.nx)))) w := by
              refine hw.upd (b := b) (x := (f, S)) (fun m p hm => (GM.killO_sub hm).1) hoo rfl (fun l hl => by cases hl) p1 ?_ ?_ (fun _ _ => rfl) rfl rfl rfl rfl
              · refine ⟨b, f, cel, T, by rw [o2]; exact p1, o1, ?_, by rw [htl, o2]; omega⟩
                intro i y hi
                rw [List.getElem?_take] at hi
                split at hi
                · exact o3 i y hi
                · cases hi
              · intro k p y hkn hgk hpk hbk
                obtain ⟨g1, g2⟩ := GM.killO_sub hgk
                exact g2 (hw.apart n k _ p b _ y (Ne.symm hkn) hoo g1 rfl hpk p1 hbk)
            have := grow_post (T := e) (sib := some n) hw2 (hf _ rfl) (o5.app u1) hzs (need := len + m) (by rw [List.length_append, o6, u2, Nat.add_mul]) n1
            exact this
      | _ => cases h1
  | _ => cases h1
end Go.Ev
