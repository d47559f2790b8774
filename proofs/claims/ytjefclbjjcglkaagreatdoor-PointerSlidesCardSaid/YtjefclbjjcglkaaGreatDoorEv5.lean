/- The evaluator: slices, aggregates, numbers' maxima; what is read of memory. -/
import Derived.Test.YtjefclbjjcglkaaGreatDoorEv4
set_option linter.unusedVariables false
set_option linter.unusedSimpArgs false
namespace Go.Ev
open Go
variable {R : Type} {P : Program} {E : Env} {tm : TM} {h : H} {K : AV → H → Option R} {r : R} {o : Oper}
/-! ### slices -/
theorem bound_spec {x : Option AV} {d : Nat} {K : Nat → Option R} {r : R} (h : bound x d K = some r) : ∃ m, K m = some r ∧ ((x = none ∧ m = d) ∨ ∃ k, x = some (.c (.i k (.ofNat m)))) := by
  cases x with
  | none => exact ⟨d, h, .inl ⟨rfl, rfl⟩⟩
  | some v =>
    obtain ⟨k, n, rfl, h2⟩ := asN_spec (show asN v K = some r from h)
    exact ⟨n, h2, .inr ⟨k, rfl⟩⟩
/-- a bound, as a value -/
inductive Bd : Option AV → Option Value → Nat → Nat → Prop where
  | no (d : Nat) : Bd none none d d
  | yes (k : IntKind) (m d : Nat) : Bd (some (.c (.i k (.ofNat m)))) (some (.int k (.ofNat m))) d m
theorem bd_of {x : Option AV} {y : Option Value} {d m : Nat} (h : (x = none ∧ m = d) ∨ ∃ k, x = some (.c (.i k (.ofNat m)))) {φ : Ph} (k : (x = none ∧ y = none) ∨ ∃ a z, x = some a ∧ y = some z ∧ AR φ a z) : Bd x y d m := by
  rcases h with ⟨rfl, rfl⟩ | ⟨kk, rfl⟩
  · rcases k with ⟨_, rfl⟩ | ⟨a, z, e, _⟩
    · exact .no _
    · cases e
  · rcases k with ⟨e, _⟩ | ⟨a, z, e, rfl, q⟩
    · cases e
    · cases e; cases q; exact .yes _ _ _
theorem sliceBound_run {k : IntKind} {m y : Nat} (hm : m ≤ y) (code : BoundsCode) (w : World) : (Instr.sliceBound (.int k (m : Int)) y code).run P w = .ok m w := by
  unfold Instr.sliceBound
  simp only [asIntOf, Sem.run_bind, Sem.run_pure, Result.andThen_ok]
  rw [if_pos ⟨Int.natCast_nonneg _, by omega⟩]
  rfl
/-- the bounds of a slice expression; 'cap' is the real capacity -/
theorem sliceBounds_run {isS : Bool} {len cap : Nat} {lo hi mx : Option AV} {lo' hi' mx' : Option Value} {m hh l mm : Nat} (hM : Bd mx mx' mm m) (hH : Bd hi hi' len hh) (hL : Bd lo lo' 0 l) (hhm : bf mx.isSome hi.isSome true = true)
    (h1 : hh ≤ m) (h2 : l ≤ hh) (h3 : m ≤ cap) (w : World) : (Instr.sliceBounds isS len cap lo' hi' mx').run P w = .ok (l, hh, if mx.isSome then m else cap) w := by
  unfold Instr.sliceBounds
  cases hM with
  | no =>
    cases hH with
    | no =>
      cases hL with
      | no => simp
      | yes k => simp [sliceBound_run h2, Result.andThen]
    | yes k =>
      cases hL with
      | no => simp [sliceBound_run (Nat.le_trans h1 h3), Result.andThen]
      | yes k => simp [sliceBound_run (Nat.le_trans h1 h3), sliceBound_run h2, Result.andThen]
  | yes k =>
    cases hH with
    | no => cases hhm
    | yes k =>
      cases hL with
      | no => simp [sliceBound_run h3, sliceBound_run h1, Result.andThen]
      | yes k => simp [sliceBound_run h3, sliceBound_run h1, sliceBound_run h2, Result.andThen]
theorem slice_s (hE : EOk P E) {t : TypeId} {x : Operand} {lo hi mx : Option Operand} (ho : o.op = .slice t x lo hi mx) (h1 : oSlice E tm t x lo hi mx h K = some r) : ∃ v, K v h = some r ∧ OpP P o tm v := by
  obtain ⟨c, h2, hx⟩ := evC_spec (K := fun x => oev tm lo fun lo => oev tm hi fun hi => oev tm mx fun mx => ty E t fun t => _) h1
  obtain ⟨lo', h2, hlo⟩ := oev_spec h2
  obtain ⟨hi', h2, hhi⟩ := oev_spec h2
  obtain ⟨mx', h2, hmx⟩ := oev_spec h2
  obtain ⟨ti, ht, h2⟩ := ob_some h2
  obtain ⟨d, ud, kd⟩ := (hE.ty _ _ ht).und
  have sub : ∀ y, y = x ∨ y ∈ lo.toList ∨ y ∈ hi.toList ∨ y ∈ mx.toList → y ∈ o.op.operands.toList := by
    intro y hy; rw [ho]; simp only [Op.operands, Array.toList_append, List.mem_append, Option.toArray, Option.toList] at hy ⊢; rcases hy with rfl | hy | hy | hy
    · simp
    · cases lo <;> simp_all
    · cases hi <;> simp_all
    · cases mx <;> simp_all
  have hops : ∀ φ a, Glob φ → On φ tm o.op.operands.toList a → CR φ c (a.eval x) ∧ ((lo' = none ∧ lo.map a.eval = none) ∨ ∃ y z, lo' = some y ∧ lo.map a.eval = some z ∧ AR φ y z) ∧ ((hi' = none ∧ hi.map a.eval = none) ∨ ∃ y z, hi' = some y ∧ hi.map a.eval = some z ∧ AR φ y z) ∧ ((mx' = none ∧ mx.map a.eval = none) ∨ ∃ y z, mx' = some y ∧ mx.map a.eval = some z ∧ AR φ y z) := fun φ a hg hn =>
    ⟨hx φ a hg (hn.sub fun y hy => sub y (.inl (by simpa using hy))), hlo φ a hg (hn.sub fun y hy => sub y (.inr (.inl hy))), hhi φ a hg (hn.sub fun y hy => sub y (.inr (.inr (.inl hy)))), hmx φ a hg (hn.sub fun y hy => sub y (.inr (.inr (.inr hy))))⟩
  have exec : ∀ (a : Act) (w : World) (y : Value), (∀ n e, d ≠ .array n e) → (Instr.slice t (a.eval x) (lo.map a.eval) (hi.map a.eval) (mx.map a.eval)).run P w = .ok y w → (execOp a.eval o).run P w = .ok (.value y) w := by
    intro a w y hd hy
    unfold execOp
    simp only [ho]
    refine run_v ?_
    unfold Instr.sliceAt
    rw [Sem.run_bind, run_underlying ud, Result.andThen_ok]
    cases d <;> first | exact hy | (exact absurd rfl (hd _ _))
  cases hq : ti.d with
  | slice e =>
    rw [hq] at h2 kd
    cases kd
    cases c with
    | sl n off len cap z ex =>
      obtain ⟨te, hte, h2⟩ := ob_some (show ob (T.get E.ty e) _ = some r from h2)
      obtain ⟨hz, h2⟩ := bf_some h2
      have hz : z = te.sz := Nat.eq_of_beq_eq_true hz
      obtain ⟨hhm, h2⟩ := bf_some (show bf _ _ none = some r from h2)
      obtain ⟨m, h2, bm⟩ := bound_spec h2
      obtain ⟨q1, h2⟩ := bf_some h2
      obtain ⟨hh, h2, bh⟩ := bound_spec h2
      obtain ⟨q2, h2⟩ := bf_some h2
      obtain ⟨l, h2, bl⟩ := bound_spec h2
      obtain ⟨q3, h2⟩ := bf_some h2
      have q1 : m ≤ cap := Nat.le_of_ble_eq_true q1
      have q2 : hh ≤ m := Nat.le_of_ble_eq_true q2
      have q3 : l ≤ hh := Nat.le_of_ble_eq_true q3
      rw [fB_eq] at h2
      have run : ∀ φ a w, Glob φ → On φ tm o.op.operands.toList a → ∃ b f S c', φ.blk n = some (b, f, S) ∧ cap ≤ c' ∧ (ex = true → c' = cap) ∧ f + off + c' * z ≤ S ∧
          (execOp a.eval o).run P w = .ok (.value (.slice (if (if mx'.isSome then m else c') = l then some ⟨b, f + off, none⟩ else some ⟨b, f + off + l * te.sz, none⟩) (hh - l) ((if mx'.isSome then m else c') - l))) w := by
        intro φ a w hg hn
        obtain ⟨⟨b, f, S, c', p1, p2, p3, p4, p5⟩, k1, k2, k3⟩ := hops φ a hg hn
        refine ⟨b, f, S, c', p1, p3, p4, p5, exec a w _ (fun _ _ hc => by cases hc) ?_⟩
        rw [p2]
        unfold Instr.slice
        rw [Sem.run_bind, run_underlying ud, Result.andThen_ok]
        simp only [Sem.run_bind, sliceBounds_run (P := P) (isS := true) (bd_of bm k3) (bd_of bh k2) (bd_of bl k1) hhm q2 q3 (Nat.le_trans q1 p3) w, Result.andThen_ok, (hE.ty _ _ hte).size, Sem.run_pure]
        split <;> simp [Addr.add_mid]
      obtain ⟨hkn, h2⟩ | ⟨hkn, h2⟩ : (bf (bf (@Bool.rec (fun _ => Bool) mx'.isSome true ex) true (@Bool.rec (fun _ => Bool) (Nat.blt l m) true (@Bool.rec (fun _ => Bool) mx'.isSome true ex))) true false = true ∧ K (.c (.sl n (if m = l then off else off + l * te.sz) (hh - l) (m - l) te.sz (@Bool.rec (fun _ => Bool) mx'.isSome true ex))) h = some r) ∨ (m ≤ l ∧ K (.c .emp) h = some r) := by
        cases hkn : (@Bool.rec (fun _ => Bool) mx'.isSome true ex : Bool) with
        | true =>
          rw [hkn] at h2
          rw [show (bf (@Bool.rec (fun _ => Bool) (Nat.blt l m) true true) _ _ : Option R) = _ from rfl, bf_true, fN_eq, fN_eq, fN_eq] at h2
          refine .inl ⟨rfl, ?_⟩
          by_cases hml : m = l
          · rw [if_pos hml]; rw [show Nat.beq l m = true from by rw [hml]; exact Nat.beq_refl l] at h2; exact h2
          · rw [if_neg hml]; rw [show Nat.beq l m = false from by rw [Bool.eq_false_iff]; intro hc; exact hml (Nat.eq_of_beq_eq_true hc).symm] at h2; exact h2
        | false =>
          rw [hkn] at h2
          cases hlm : Nat.blt l m with
          | true =>
            rw [show (bf (@Bool.rec (fun _ => Bool) (Nat.blt l m) true false) _ _ : Option R) = bf (Nat.blt l m) _ _ from rfl, hlm, bf_true, fN_eq, fN_eq, fN_eq] at h2
            have hlm' : l < m := by simpa [Nat.blt_eq] using hlm
            refine .inl ⟨rfl, ?_⟩
            rw [if_neg (by omega)]
            rw [show Nat.beq l m = false from by rw [Bool.eq_false_iff]; intro hc; have := Nat.eq_of_beq_eq_true hc; omega] at h2
            exact h2
          | false =>
            rw [show (bf (@Bool.rec (fun _ => Bool) (Nat.blt l m) true false) _ _ : Option R) = bf (Nat.blt l m) _ _ from rfl, hlm, bf_false] at h2
            refine .inr ⟨?_, h2⟩
            have : ¬ l < m := by intro hc; rw [← Nat.blt_eq, hlm] at hc; cases hc
            omega
      · refine ⟨_, h2, fun φ a w hg hn => ?_⟩
        obtain ⟨b, f, S, c', p1, p3, p4, p5, p6⟩ := run φ a w hg hn
        refine ⟨_, p6, b, f, S, (if mx'.isSome then m else c') - l, p1, ?_, ?_, ?_, ?_⟩
        · have hm' : m ≤ (if mx'.isSome then m else c') := by split <;> omega
          congr 1
          by_cases hml : m = l
          · rw [if_pos hml]
            rw [if_pos]
            cases hmx : mx'.isSome with
            | true => simp [hml]
            | false =>
              rw [hmx] at hkn
              cases ex with
              | true => have := p4 rfl; rcases bm with ⟨_, rfl⟩ | ⟨k, hk⟩
                        · simp; omega
                        · rw [hk] at hmx; cases hmx
              | false =>
                exfalso
                have : Nat.blt l m = true := by
                  cases hb : Nat.blt l m with
                  | true => rfl
                  | false => rw [hb] at hkn; cases hkn
                rw [Nat.blt_eq] at this; omega
          · rw [if_neg hml, if_neg (by omega)]
            rw [Nat.add_assoc]
        · split <;> omega
        · intro hk
          cases hmx : mx'.isSome with
          | true => simp
          | false =>
            rw [hmx] at hk
            cases ex with
            | true => have := p4 rfl; rcases bm with ⟨_, rfl⟩ | ⟨k, hk⟩
                      · simp; omega
                      · rw [hk] at hmx; cases hmx
            | false => cases hk
        · subst hz
          have hm' : (if mx'.isSome then m else c') ≤ c' := by split <;> omega
          by_cases hml : m = l
          · rw [if_pos hml]
            have : ((if mx'.isSome then m else c') - l) * te.sz ≤ c' * te.sz := Nat.mul_le_mul_right _ (by omega)
            omega
          · rw [if_neg hml]
            have : l * te.sz + ((if mx'.isSome then m else c') - l) * te.sz ≤ c' * te.sz := by
              rw [← Nat.add_mul]; exact Nat.mul_le_mul_right _ (by split <;> omega)
            omega
      · refine ⟨_, h2, fun φ a w hg hn => ?_⟩
        obtain ⟨b, f, S, c', p1, p3, p4, p5, p6⟩ := run φ a w hg hn
        exact ⟨_, p6, _, _, by rw [show hh - l = 0 by omega]⟩
    | nils =>
      obtain ⟨te, hte, h2⟩ := ob_some (show ob (T.get E.ty e) _ = some r from h2)
      obtain ⟨hhm, h2⟩ := bf_some (show bf _ _ none = some r from h2)
      obtain ⟨m, h2, bm⟩ := bound_spec h2
      obtain ⟨q1, h2⟩ := bf_some h2
      obtain ⟨hh, h2, bh⟩ := bound_spec h2
      obtain ⟨q2, h2⟩ := bf_some h2
      obtain ⟨l, h2, bl⟩ := bound_spec h2
      obtain ⟨q3, h2⟩ := bf_some h2
      obtain rfl : m = 0 := Nat.eq_of_beq_eq_true q1
      obtain rfl : hh = 0 := Nat.eq_of_beq_eq_true q2
      obtain rfl : l = 0 := Nat.eq_of_beq_eq_true q3
      refine ⟨_, h2, fun φ a w hg hn => ⟨.slice none 0 0, ?_, rfl⟩⟩
      obtain ⟨p2, k1, k2, k3⟩ := hops φ a hg hn
      refine exec a w _ (fun _ _ hc => by cases hc) ?_
      simp only [CR] at p2
      rw [p2]
      unfold Instr.slice
      rw [Sem.run_bind, run_underlying ud, Result.andThen_ok]
      simp only [Sem.run_bind, sliceBounds_run (P := P) (isS := true) (bd_of bm k3) (bd_of bh k2) (bd_of bl k1) hhm (Nat.le_refl 0) (Nat.le_refl 0) (Nat.le_refl 0) w, Result.andThen_ok, (hE.ty _ _ hte).size, Sem.run_pure]
      cases mx'.isSome <;> rfl
    | _ => cases h2
  | str =>
    rw [hq] at h2 kd
    cases kd
    obtain ⟨s, rfl, h2⟩ := withS_spec h2
    obtain ⟨q0, h2⟩ := bf_none (show bf mx'.isSome none _ = some r from h2)
    obtain ⟨hh, h2, bh⟩ := bound_spec h2
    obtain ⟨q2, h2⟩ := bf_some h2
    obtain ⟨l, h2, bl⟩ := bound_spec h2
    obtain ⟨q3, h2⟩ := bf_some h2
    have q2 : hh ≤ s.size := Nat.le_of_ble_eq_true q2
    have q3 : l ≤ hh := Nat.le_of_ble_eq_true q3
    refine ⟨_, h2, fun φ a w hg hn => ⟨.string (s.extract l hh), ?_, rfl⟩⟩
    obtain ⟨p2, k1, k2, k3⟩ := hops φ a hg hn
    refine exec a w _ (fun _ _ hc => by cases hc) ?_
    simp only [CR] at p2
    have hn' : mx.map a.eval = none := by
      rcases k3 with ⟨_, e⟩ | ⟨y, z, e, _⟩
      · exact e
      · rw [e] at q0; cases q0
    have hn2 : mx' = none := by cases mx' with | none => rfl | some => cases q0
    rw [p2, hn']
    unfold Instr.slice
    rw [Sem.run_bind, run_underlying ud, Result.andThen_ok]
    have := sliceBounds_run (P := P) (isS := false) (len := s.size) (cap := s.size) (mx := none) (mx' := none) (mm := s.size) (m := s.size) (.no _) (bd_of bh k2) (bd_of bl k1) rfl q2 q3 (Nat.le_refl _) w
    simp only [Option.isSome_none, Bool.false_eq_true, if_false, Sem.run_bind, Sem.run_pure, Result.andThen_ok, this]
  | _ => rw [hq] at h2; cases h2
/-! ### aggregates -/
theorem fold_set (off : Nat) : ∀ (l : List Value) (k : Nat) (cs : Array Value), ((l.zipIdx k).foldl (fun cs (p : Value × Nat) => cs.setIfInBounds (off + p.2) p.1) cs).size = cs.size ∧
    ∀ j, ((l.zipIdx k).foldl (fun cs (p : Value × Nat) => cs.setIfInBounds (off + p.2) p.1) cs)[j]? = if off + k ≤ j ∧ j < off + k + l.length ∧ j < cs.size then l[j - (off + k)]? else cs[j]?
  | [], k, cs => by
    refine ⟨rfl, fun j => ?_⟩
    rw [if_neg (by simp; omega)]
    rfl
  | v :: l, k, cs => by
    obtain ⟨h1, h2⟩ := fold_set off l (k + 1) (cs.setIfInBounds (off + k) v)
    refine ⟨by simpa using h1, fun j => ?_⟩
    rw [List.zipIdx_cons, List.foldl_cons, h2 j]
    simp only [Array.size_setIfInBounds, List.length_cons]
    by_cases hj : j = off + k
    · subst hj
      rw [if_neg (by omega)]
      by_cases hs : off + k < cs.size
      · rw [if_pos (by omega)]; simp [hs]
      · rw [if_neg (by omega)]; simp [Array.getElem?_eq_none (Nat.le_of_not_lt hs), Array.getElem?_setIfInBounds, hs]
    · by_cases hc : off + k ≤ j ∧ j < off + k + (l.length + 1) ∧ j < cs.size
      · rw [if_pos (by omega), if_pos hc]
        have : j - (off + k) = (j - (off + (k + 1))) + 1 := by omega
        rw [this, List.getElem?_cons_succ]
      · rw [if_neg (by omega), if_neg hc, Array.getElem?_setIfInBounds_ne (by omega)]
/-- values laid over cells -/
theorem put_den {φ : Ph} {l : List CV} {cs : Array Value} (hl : A2 (CR φ) l cs.toList) {vs : List CV} {us : List Value} (hv : A2 (CR φ) vs us) {off : Nat} (hle : off + vs.length ≤ l.length) :
    A2 (CR φ) (l.take off ++ (vs ++ l.drop (off + vs.length))) ((us.zipIdx).foldl (fun cs (p : Value × Nat) => cs.setIfInBounds (off + p.2) p.1) cs).toList := by
  obtain ⟨h1, h2⟩ := fold_set off us 0 cs
  have hlen := hl.len
  have hvl := hv.len
  simp only [Array.length_toList] at hlen
  refine A2.of_get (by simp [h1]; omega) fun i a b ha hb => ?_
  rw [Array.getElem?_toList, h2] at hb
  simp only [Nat.add_zero] at hb
  by_cases c1 : i < off
  · rw [List.getElem?_append_left (by simp; omega), List.getElem?_take, if_pos c1] at ha
    rw [if_neg (by omega)] at hb
    obtain ⟨b', e, q⟩ := hl.get ha
    rw [Array.getElem?_toList, hb] at e
    cases e; exact q
  · rw [List.getElem?_append_right (by simp; omega)] at ha
    simp only [List.length_take, Nat.min_eq_left (show off ≤ l.length by omega)] at ha
    by_cases c2 : i < off + vs.length
    · rw [List.getElem?_append_left (by omega)] at ha
      rw [if_pos (by omega)] at hb
      obtain ⟨b', e, q⟩ := hv.get ha
      rw [hb] at e
      cases e; exact q
    · rw [List.getElem?_append_right (by omega), List.getElem?_drop] at ha
      rw [if_neg (by omega)] at hb
      have : off + vs.length + (i - off - vs.length) = i := by omega
      rw [this] at ha
      obtain ⟨b', e, q⟩ := hl.get ha
      rw [Array.getElem?_toList, hb] at e
      cases e; exact q
theorem fillK_spec {place placeA : Nat → Option (Nat × Nat)} (hp : ∀ i x, placeA i = some x → place i = some x) : ∀ {ps : List (Nat × List CV)} {l : List CV} {K : List CV → Option R} {r : R}, fillK placeA ps l K = some r →
    ∃ l', K l' = some r ∧ ∀ φ (cs : Array Value) (us : List (Nat × Value)), A2 (CR φ) l cs.toList → A2 (fun (p : Nat × List CV) (u : Nat × Value) => p.1 = u.1 ∧ A2 (CR φ) p.2 u.2.cells.toList ∧ u.2.cells.size = p.2.length) ps us →
      ∃ cs', Instr.fill place cs us = some cs' ∧ A2 (CR φ) l' cs'.toList ∧ l'.length = l.length
  | [], l, K, r, h => ⟨l, h, fun φ cs us hl hu => by cases hu; exact ⟨cs, rfl, hl, rfl⟩⟩
  | p :: ps, l, K, r, h => by
    obtain ⟨q, h1, h2⟩ := ob_some (show ob (placeA p.1) _ = some r from h)
    obtain ⟨h3, h4⟩ := bf_some h2
    obtain ⟨h5, h6⟩ := putK_spec _ _ _ _ _ h4
    obtain ⟨l', h7, h8⟩ := fillK_spec hp h6
    refine ⟨l', h7, fun φ cs us hl hu => ?_⟩
    cases hu with
    | cons hu ht =>
      rename_i u us
      obtain ⟨e1, e2, e3⟩ := hu
      have hsz : u.2.cells.size = q.2 := by rw [e3, ← lenN_eq]; exact Nat.eq_of_beq_eq_true h3
      have hlen := hl.len
      simp only [Array.length_toList] at hlen
      have hput := put_den hl e2 h5
      obtain ⟨cs', h9, h10, h11⟩ := h8 φ _ us hput ht
      refine ⟨cs', ?_, h10, by rw [h11]; simp; omega⟩
      unfold Instr.fill
      rw [← e1, hp _ _ h1]
      simp only
      rw [if_neg (by simp; omega)]
      rw [← h9]
      congr 1
      rw [← Array.foldl_toList, Array.toList_zipIdx]
theorem partsK_spec : ∀ {ps : List (Nat × Operand)} {K : List (Nat × List CV) → Option R} {r : R}, partsK tm ps K = some r → ∃ l, K l = some r ∧ ∀ φ a, Glob φ → On φ tm (ps.map (·.2)) a →
    A2 (fun (p : Nat × List CV) (u : Nat × Value) => p.1 = u.1 ∧ A2 (CR φ) p.2 u.2.cells.toList ∧ u.2.cells.size = p.2.length) l (ps.map fun p => (p.1, a.eval p.2))
  | [], K, r, h => ⟨[], h, fun φ a _ _ => .nil⟩
  | p :: ps, K, r, h => by
    obtain ⟨v, h1, h2⟩ := evK_spec (K := fun v => withFlat v fun v => partsK tm ps fun l => K ((p.1, v) :: l)) h
    obtain ⟨l, h3, h4⟩ := flat_spec h1
    obtain ⟨ls, h5, h6⟩ := partsK_spec h3
    refine ⟨_, h5, fun φ a hg hn => .cons ⟨rfl, ?_⟩ (h6 φ a hg (hn.sub fun x hx => by simp at hx ⊢; exact .inr hx))⟩
    obtain ⟨q1, q2, _⟩ := h4 φ _ (h2 φ a hg (hn.sub (by simp)))
    exact ⟨q1, q2⟩
theorem build_s (hE : EOk P E) {t : TypeId} {parts : Array (Nat × Operand)} (ho : o.op = .build t parts) (h1 : oBuild E tm t parts.toList h K = some r) : ∃ v, K v h = some r ∧ OpP P o tm v := by
  obtain ⟨ps, h2, h3⟩ := partsK_spec (K := fun ps => ty E t fun t => _) h1
  obtain ⟨ti, ht, h4⟩ := ob_some h2
  obtain ⟨dd, ud, kd⟩ := (hE.ty _ _ ht).und
  obtain ⟨z, hz, hzs, hzc, _⟩ := (hE.ty _ _ ht).zero
  have hpo : ∀ φ a, Glob φ → On φ tm o.op.operands.toList a → A2 (fun (p : Nat × List CV) (u : Nat × Value) => p.1 = u.1 ∧ A2 (CR φ) p.2 u.2.cells.toList ∧ u.2.cells.size = p.2.length) ps (parts.map fun (i, x) => (i, a.eval x)).toList := by
    intro φ a hg hn
    have := h3 φ a hg (hn.sub (by rw [ho]; simp [Op.operands]))
    simpa using this
  cases hq : ti.d with
  | struct fs =>
    rw [hq] at h4 kd
    obtain ⟨F, rfl, rfl⟩ := kd
    have hplaces : ∀ w, (F.mapM fun f => (do pure (f.offset, ← sizeOf f.type) : Sem (Nat × Nat))).run P w = .ok (F.map fun f => (f.offset, ((P.info? f.type).map (·.size)).getD 0)) w := by
      intro w
      have key : ∀ l : List Field, (∀ f, f ∈ l → (P.info? f.type).isSome = true) → (l.mapM fun (f : Field) => (do pure (f.offset, ← sizeOf f.type) : Sem (Nat × Nat))).run P w = .ok (l.map fun f => (f.offset, ((P.info? f.type).map (·.size)).getD 0)) w := by
        intro l
        induction l with
        | nil => intro _; simp
        | cons f l ih =>
          intro hf
          obtain ⟨i, hi⟩ := Option.isSome_iff_exists.1 (hf f (by simp))
          have hsz : (sizeOf f.type).run P w = .ok i.size w := by simp [sizeOf, typeInfo, hi]
          rw [List.mapM_cons, Sem.run_bind, Sem.run_bind, hsz, Result.andThen_ok]
          simp only [Sem.run_pure, Result.andThen_ok]
          rw [Sem.run_bind, ih fun g hg => hf g (by simp [hg])]
          simp [hi]
      have := key F.toList ((hE.ty _ _ ht).flds F ud)
      rw [← Array.toArray_toList (xs := F), List.mapM_toArray]
      simp only [Sem.run_map, this, Result.andThen_ok]
      congr 1
      exact Array.ext' (by simp)
    obtain ⟨l', h5, h6⟩ := fillK_spec (place := fun i => (F.map fun f => (f.offset, ((P.info? f.type).map (·.size)).getD 0))[i]?) (fun i x hx => by
      obtain ⟨p, hp, hx⟩ := ob_some (show ob (getL _ i) _ = some x from hx)
      obtain ⟨tt, htt, hx⟩ := ob_some hx
      cases hx
      rw [getL_eq, List.getElem?_map, Option.map_eq_some_iff] at hp
      obtain ⟨fl, hfl, rfl⟩ := hp
      obtain ⟨i', z', q1, q2, _⟩ := (hE.ty _ _ htt).info
      have hfl' : F[i]? = some fl := by simpa using hfl
      show (F.map _)[i]? = _
      rw [Array.getElem?_map, hfl']
      simp [q1, q2]) h4
    refine ⟨_, h5, fun φ a w hg hn => ?_⟩
    obtain ⟨cs', h7, h8, _⟩ := h6 φ z.cells _ (hzc φ) (hpo φ a hg hn)
    refine ⟨.agg cs', ?_, cs'.toList, by simp, h8⟩
    unfold execOp
    simp only [ho]
    refine run_v ?_
    unfold Instr.build
    rw [Sem.run_bind, hz, Result.andThen_ok, Sem.run_bind, run_underlying ud, Result.andThen_ok]
    simp only [Sem.run_bind, hplaces, Result.andThen_ok, h7, Sem.run_pure]
  | array n e =>
    rw [hq] at h4 kd
    cases kd
    obtain ⟨te, hte, h4⟩ := ob_some (show ob (T.get E.ty e) _ = some r from h4)
    obtain ⟨l', h5, h6⟩ := fillK_spec (place := fun i => some (i * te.sz, te.sz)) (fun i x hx => hx) h4
    refine ⟨_, h5, fun φ a w hg hn => ?_⟩
    obtain ⟨cs', h7, h8, _⟩ := h6 φ z.cells _ (hzc φ) (hpo φ a hg hn)
    refine ⟨.agg cs', ?_, cs'.toList, by simp, h8⟩
    unfold execOp
    simp only [ho]
    refine run_v ?_
    unfold Instr.build
    rw [Sem.run_bind, hz, Result.andThen_ok, Sem.run_bind, run_underlying ud, Result.andThen_ok]
    simp only [Sem.run_bind, (hE.ty _ _ hte).size, Result.andThen_ok, h7, Sem.run_pure]
  | _ => rw [hq] at h4; cases h4
/-! ### calls of built-in functions -/
theorem call_builtin {c : Call} {b : Builtin} (ho : o.op = .call c) (hc : c.callee = .builtin b) (a : Act) (w : World) :
    ∃ cs, (execOp a.eval o).run P w = (builtin b c.argTypes o.type cs (c.args.map a.eval)).run P w := by
  unfold execOp
  simp only [ho, resolve, hc, Sem.run_bind, Sem.run_pure, Result.andThen_ok, invoke]
  exact ⟨_, rfl⟩
theorem call_sub {c : Call} {b : Builtin} (ho : o.op = .call c) (hc : c.callee = .builtin b) : ∀ x, x ∈ c.args.toList → x ∈ o.op.operands.toList := by
  intro x hx
  rw [ho]
  simp [Op.operands, Call.operands, hc] at hx ⊢
  exact hx
theorem maxK_spec (m : Int → Int → Int) : ∀ {l : List AV} {k : IntKind} {x : Int} {K : AV → Option R} {r : R}, maxK m l k x K = some r → ∃ z, K (.c (.i k z)) = some r ∧ ∀ φ us, A2 (AR φ) l us → ∀ (f : Value → Value → Sem Value), (∀ k' x' k'' y, f (.int k' x') (.int k'' y) = pure (.int k' (m x' y))) →
    ∀ w, (us.foldlM f (.int k x)).run P w = .ok (.int k z) w
  | [], k, x, K, r, h => ⟨x, h, fun φ us hu f hf w => by cases hu; rfl⟩
  | v :: l, k, x, K, r, h => by
    obtain ⟨c, rfl, h1⟩ := withC_spec (K := fun v => withI v fun _ y => fI (m x y) fun z => maxK m l k z K) h
    obtain ⟨k', y, rfl, h2⟩ := withI_spec h1
    rw [fI_eq] at h2
    obtain ⟨z, h3, h4⟩ := maxK_spec m h2
    refine ⟨z, h3, fun φ us hu f hf w => ?_⟩
    cases hu with
    | cons hq ht =>
      cases hq
      rw [List.foldlM_cons, hf, Sem.run_bind, Sem.run_pure, Result.andThen_ok]
      exact h4 φ _ ht f hf w
theorem maxYK_spec (mx : Bool) : ∀ {l : List AV} {k : IntKind} {c : Int} {q : List (Int × Int × Int)} {K : AV → Option R} {r : R}, maxYK mx l k c q K = some r → ∃ z, K (.c z) = some r ∧ ∀ φ us, φ.va 2 = φ.va 0 - φ.va 1 → rng φ.va 0 q → A2 (AR φ) l us → ∀ (f : Value → Value → Sem Value),
    (∀ k' x' k'' y, f (.int k' x') (.int k'' y) = pure (.int k' (bf mx (bf (ltI x' y) y x') (bf (ltI y x') y x')))) → ∀ w, ∃ v, (us.foldlM f (.int k (c + lin φ.va 0 q))).run P w = .ok v w ∧ CR φ z v
  | [], k, c, q, K, r, h => by
    obtain ⟨z, h1, h2⟩ := normY_spec (K := fun x => K (.c x)) h
    exact ⟨z, h1, fun φ us hv hq hu f hf w => by cases hu; exact ⟨_, rfl, h2 φ ⟨hq, hv⟩⟩⟩
  | v :: l, k, c, q, K, r, h => by
    obtain ⟨x, rfl, h1⟩ := withC_spec (K := fun v => withY v fun _ d m => subY c q d m fun e p => bf (geA e p) (bf mx (maxYK mx l k c q K) (maxYK mx l k d m K)) (mulL (-1) p fun p => bf (geA (Int.neg e) p) (bf mx (maxYK mx l k d m K) (maxYK mx l k c q K)) none)) h
    obtain ⟨k', d, m, h2, hm⟩ := withY_spec h1
    obtain ⟨e, p, h3, h4⟩ := subY_spec h2
    have fin2 : ∀ (s : Bool), bf s (maxYK mx l k c q K) (maxYK mx l k d m K) = some r → (∀ va, rng va 0 q → rng va 0 m → va 2 = va 0 - va 1 → bf mx (bf (ltI (c + lin va 0 q) (d + lin va 0 m)) (d + lin va 0 m) (c + lin va 0 q)) (bf (ltI (d + lin va 0 m) (c + lin va 0 q)) (d + lin va 0 m) (c + lin va 0 q)) = bf s (c + lin va 0 q) (d + lin va 0 m)) →
        ∃ z, K (.c z) = some r ∧ ∀ φ us, φ.va 2 = φ.va 0 - φ.va 1 → rng φ.va 0 q → A2 (AR φ) (.c x :: l) us → ∀ (f : Value → Value → Sem Value),
        (∀ k' x' k'' y, f (.int k' x') (.int k'' y) = pure (.int k' (bf mx (bf (ltI x' y) y x') (bf (ltI y x') y x')))) → ∀ w, ∃ v, (us.foldlM f (.int k (c + lin φ.va 0 q))).run P w = .ok v w ∧ CR φ z v := by
      intro s hs he
      cases s with
      | true =>
        obtain ⟨z, h5, h6⟩ := maxYK_spec mx (show maxYK mx l k c q K = some r from hs)
        refine ⟨z, h5, fun φ us hv hq hu f hf w => ?_⟩
        cases hu with
        | cons g1 g2 =>
          obtain ⟨rfl, g3, g4⟩ := hm φ _ g1
          have := he φ.va hq g3 hv
          rw [List.foldlM_cons, hf, this, Sem.run_bind, Sem.run_pure, Result.andThen_ok]
          exact h6 φ _ hv hq g2 f hf w
      | false =>
        obtain ⟨z, h5, h6⟩ := maxYK_spec mx (show maxYK mx l k d m K = some r from hs)
        refine ⟨z, h5, fun φ us hv hq hu f hf w => ?_⟩
        cases hu with
        | cons g1 g2 =>
          obtain ⟨rfl, g3, g4⟩ := hm φ _ g1
          have := he φ.va hq g3 hv
          rw [List.foldlM_cons, hf, this, Sem.run_bind, Sem.run_pure, Result.andThen_ok]
          exact h6 φ _ hv g3 g2 f hf w
    cases hge : geA e p with
    | true =>
      rw [hge, bf_true] at h3
      refine fin2 mx h3 fun va hq hm' hv => ?_
      obtain ⟨g1, g2⟩ := h4 va hq hm'
      have g3 := geA_spec hge g1 hv
      rw [g2] at g3
      rw [ltI_eq, ltI_eq]
      cases mx with
      | true => rw [bf_true, bf_true, decide_eq_false (by omega), bf_false]
      | false =>
        rw [bf_false, bf_false]
        by_cases hc : d + lin va 0 m < c + lin va 0 q
        · rw [decide_eq_true hc, bf_true]
        · rw [decide_eq_false hc, bf_false]; omega
    | false =>
      rw [hge, bf_false] at h3
      obtain ⟨n, h5, h6⟩ := mulL_spec h3
      obtain ⟨h7, h8⟩ := bf_some h5
      refine fin2 (!mx) (by cases mx <;> exact h8) fun va hq hm' hv => ?_
      obtain ⟨g1, g2⟩ := h4 va hq hm'
      obtain ⟨g4, g5⟩ := h6 va 0
      have g3 : 0 ≤ -e + lin va 0 n := geA_spec h7 (g5 g1) hv
      rw [g4] at g3
      rw [ltI_eq, ltI_eq]
      cases mx with
      | true =>
        rw [bf_true, show (!true) = false from rfl, bf_false]
        by_cases hc : c + lin va 0 q < d + lin va 0 m
        · rw [decide_eq_true hc, bf_true]
        · rw [decide_eq_false hc, bf_false]; omega
      | false => rw [bf_false, show (!false) = true from rfl, bf_true, decide_eq_false (by omega), bf_false]
theorem hasY_rel {φ : Ph} : ∀ {l : List AV} {us : List Value}, hasY l = true → A2 (AR φ) l us → φ.va 2 = φ.va 0 - φ.va 1
  | [], _, h, _ => by cases h
  | v :: l, _, h, .cons g1 g2 => by
    rcases bf_or (show bf (@AV.rec (fun _ => Bool) false (fun x => isY x) (fun _ => false) (fun _ => false) v) true (hasY l) = true from h) with h | h
    · cases v with
      | c x =>
        cases x with
        | y k c l => exact (show CR φ (.y k c l) _ from g1).2.2
        | _ => cases h
      | _ => cases h
    · exact hasY_rel h g2
theorem max_s {c : Call} {b : Builtin} (ho : o.op = .call c) (hc : c.callee = .builtin b) {args : List AV} (hargs : ∀ φ a, Glob φ → On φ tm c.args.toList a → A2 (AR φ) args (c.args.toList.map a.eval))
    (hb : (b = .max ∧ bMax (fun x y => bf (ltI x y) y x) true args h K = some r) ∨ (b = .min ∧ bMax (fun x y => bf (ltI y x) y x) false args h K = some r)) : ∃ v, K v h = some r ∧ OpP P o tm v := by
  have key : ∀ (m : Int → Int → Int) (mx : Bool) (f : Value → Value → Sem Value), (∀ x y, m x y = bf mx (bf (ltI x y) y x) (bf (ltI y x) y x)) → (∀ k' x' k'' y, f (.int k' x') (.int k'' y) = pure (.int k' (m x' y))) → bMax m mx args h K = some r → (∀ (a : Act) w, ∀ x rest, (c.args.map a.eval).toList = x :: rest → ∀ y, (rest.foldlM f x).run P w = .ok y w → (execOp a.eval o).run P w = .ok (.value y) w) → ∃ v, K v h = some r ∧ OpP P o tm v := by
    intro m mx f hmm hf h1 hex
    cases args with
    | nil => cases h1
    | cons v l =>
      have h1 : bf (hasY (v :: l)) (withC v fun v => withY v fun k c q => maxYK mx l k c q fun v => K v h) (withC v fun v => withI v fun k x => maxK m l k x fun v => K v h) = some r := h1
      cases hy : hasY (v :: l) with
      | true =>
        rw [hy, bf_true] at h1
        obtain ⟨cc, rfl, h1⟩ := withC_spec (K := fun v => withY v fun k c q => maxYK mx l k c q fun v => K v h) h1
        obtain ⟨k, d, q, h2, hq⟩ := withY_spec h1
        obtain ⟨z, h3, h4⟩ := maxYK_spec (P := P) mx h2
        refine ⟨_, h3, fun φ a w hg hn => ?_⟩
        have ha := hargs φ a hg (hn.sub (call_sub ho hc))
        have hrel := hasY_rel hy ha
        cases hl : c.args.toList.map a.eval with
        | nil => rw [hl] at ha; cases ha
        | cons y rest =>
          rw [hl] at ha
          cases ha with
          | cons g1 g2 =>
            obtain ⟨rfl, g3, _⟩ := hq φ _ g1
            obtain ⟨v, g4, g5⟩ := h4 φ _ hrel g3 g2 f (fun k' x' k'' y => by rw [hf, hmm]) w
            exact ⟨v, hex a w _ _ (by simpa using hl) _ g4, g5⟩
      | false =>
      rw [hy, bf_false] at h1
      obtain ⟨cc, rfl, h1⟩ := withC_spec (K := fun v => withI v fun k x => maxK m l k x fun v => K v h) h1
      obtain ⟨k, x, rfl, h2⟩ := withI_spec h1
      obtain ⟨z, h3, h4⟩ := maxK_spec (P := P) m h2
      refine ⟨_, h3, fun φ a w hg hn => ⟨.int k z, ?_, rfl⟩⟩
      have ha := hargs φ a hg (hn.sub (call_sub ho hc))
      cases hl : c.args.toList.map a.eval with
      | nil => rw [hl] at ha; cases ha
      | cons y rest =>
        rw [hl] at ha
        cases ha with
        | cons hq ht =>
          cases hq
          exact hex a w _ _ (by simpa using hl) _ (h4 φ _ ht f hf w)
  rcases hb with ⟨rfl, hb⟩ | ⟨rfl, hb⟩
  · refine key _ true Builtin.max2 (fun _ _ => rfl) (fun k' x' k'' y => ?_) hb fun a w x rest hl y hy => ?_
    · simp only [Builtin.max2, ltI_eq]
      by_cases hc : x' < y
      · rw [if_pos (show y > x' from hc), decide_eq_true hc]; rfl
      · rw [if_neg (show ¬ y > x' from hc), decide_eq_false hc]; rfl
    · obtain ⟨cs, e⟩ := call_builtin (P := P) ho hc a w
      rw [e]
      refine run_v ?_
      unfold Builtin.max_
      rw [hl]; exact hy
  · refine key _ false Builtin.min2 (fun _ _ => rfl) (fun k' x' k'' y => ?_) hb fun a w x rest hl y hy => ?_
    · simp only [Builtin.min2, ltI_eq]
      by_cases hc : y < x'
      · rw [if_pos hc, decide_eq_true hc]; rfl
      · rw [if_neg hc, decide_eq_false hc]; rfl
    · obtain ⟨cs, e⟩ := call_builtin (P := P) ho hc a w
      rw [e]
      refine run_v ?_
      unfold Builtin.min_
      rw [hl]; exact hy
/-! ### what is read of memory -/
/-- the cells of a row, in the world -/
theorem rd_spec {g : GM} {n : Nat} {l : List CV} (hr : (∃ s, g n = some (.cells l s)) ∨ g n = some (.ro l)) {B : Base} {φ : Ph} {w : World} (hw : HR B φ g w) : ∃ b f c T fz, φ.blk n = some (b, f, c.size) ∧ w.heap[b]? = some (.cells c T fz) ∧ Cov φ c f l := by
  rcases hr with ⟨s, h⟩ | h
  · obtain ⟨b, f, c, T, q, e, k, _⟩ := hw.obj _ _ h; exact ⟨b, f, c, T, _, q, e, k⟩
  · obtain ⟨b, f, c, T, fz, q, e, k⟩ := hw.obj _ _ h; exact ⟨b, f, c, T, fz, q, e, k⟩
theorem hrd_spec {n : Nat} {K : List CV → Option R} {r : R} (h1 : hrd h n K = some r) : ∃ l, K l = some r ∧ ((∃ s, h.t.get n = some (.cells l s)) ∨ h.t.get n = some (.ro l)) := by
  obtain ⟨o, ho, h2⟩ := ob_some h1
  cases o with
  | cells l s => exact ⟨l, h2, .inl ⟨s, ho⟩⟩
  | ro l => exact ⟨l, h2, .inr ho⟩
  | _ => cases h2
/-- a part of a row: its values -/
theorem cov_part {φ : Ph} {c : Array Value} {f : Nat} {l : List CV} (hc : Cov φ c f l) {off n : Nat} (hle : off + n ≤ l.length) : A2 (CR φ) ((l.drop off).take n) ((c.toList.drop (f + off)).take n) := by
  have key : ∀ (i : Nat) (a : CV) (b : Value), ((l.drop off).take n)[i]? = some a → ((c.toList.drop (f + off)).take n)[i]? = some b → CR φ a b := by
    intro i a b ha hb
    rw [List.getElem?_take] at ha hb
    split at ha
    · rename_i hi
      rw [if_pos hi, List.getElem?_drop, Array.getElem?_toList] at hb
      rw [List.getElem?_drop] at ha
      obtain ⟨v, h1, h2⟩ := hc _ _ ha
      rw [← Nat.add_assoc, hb] at h1
      cases h1; exact h2
    · cases ha
  cases n with
  | zero => simp; exact .nil
  | succ n =>
    obtain ⟨v, h1, _⟩ := hc (off + n) l[off + n] (List.getElem?_eq_getElem (by omega))
    have := (Array.getElem?_eq_some_iff.1 h1).1
    exact A2.of_get (by simp; omega) key
theorem cell_of {w : World} {b : Nat} {c : Array Value} {T : TypeId} {fz : Nat × Nat} (h : w.heap[b]? = some (.cells c T fz)) (i : Nat) : w.cell? ⟨b, i, none⟩ = c[i]? := by
  simp [World.cell?, h]
theorem part_cells {w : World} {b : Nat} {c : Array Value} {T : TypeId} {fz : Nat × Nat} (h : w.heap[b]? = some (.cells c T fz)) (o n : Nat) : w.rangeAt b o ((c.toList.drop o).take n) := by
  intro j v hj
  rw [cell_of h]
  rw [List.getElem?_take] at hj
  split at hj
  · rw [List.getElem?_drop, Array.getElem?_toList] at hj; exact hj
  · cases hj
theorem load_s (hE : EOk P E) {t : TypeId} {x : Operand} (ho : o.op = .load t x) (h1 : oLoad E tm t x h K = some r) : ∃ v, K v h = some r ∧ OpR P o tm h.t.get v := by
  obtain ⟨c, h2, hx⟩ := evC_spec (K := fun a => withPtr a fun n off => ty E t fun t => hload h t n off fun v => K v h) h1
  obtain ⟨n, off, rfl, h2⟩ := withPtr_spec h2
  obtain ⟨ti, ht, h2⟩ := ob_some h2
  obtain ⟨l, h2, hl⟩ := hrd_spec h2
  obtain ⟨hle, h2⟩ := partK_spec h2
  obtain ⟨v, h2, hv⟩ := shapeK_spec h2
  refine ⟨v, h2, fun B φ a w hw hg hn => ?_⟩
  obtain ⟨b, f, S, q, e⟩ := hx φ a hg (hn.sub (by rw [ho]; simp [Op.operands]))
  obtain ⟨b', f', cc, T, fz, q', hb, hc⟩ := rd_spec hl hw
  rw [q] at q'
  obtain ⟨rfl, rfl, rfl⟩ : b = b' ∧ f = f' ∧ S = cc.size := by simpa using q'
  have hT := hE.ty _ _ ht
  obtain ⟨d, ud, kd⟩ := hT.und
  have hp := cov_part hc hle
  have hlen := hp.len
  obtain ⟨i, z, q1, q2, _⟩ := hT.info
  have hll : ((l.drop off).take ti.sz).length = ti.sz := by simp; omega
  have exec : ∀ y, (loadVar t ⟨b, f + off, none⟩).run P w = .ok y w → (execOp a.eval o).run P w = .ok (.value y) w := by
    intro y hy
    unfold execOp
    simp only [ho, e]
    refine run_v ?_
    simp only [Instr.loadAt, Instr.sureAddr, Sem.run_bind, Sem.run_pure, Result.andThen_ok, hy]
  rcases hv with ⟨ha, rfl⟩ | ⟨ha, y, hy, rfl⟩
  · refine ⟨_, exec _ (run_loadVar_mid (P := P) w b (f + off) t _ d (part_cells hb _ ti.sz) ud (by rw [hT.isRow ud]; exact ha) (by rw [q1]; simp only [Option.map_some, q2]; rw [← hlen, hll])), _, rfl, hp⟩
  · rw [hy] at hp
    obtain ⟨u, hu, hr⟩ := hp.get (i := 0) (a := y) rfl
    refine ⟨u, exec _ ?_, hr⟩
    have := part_cells hb (f + off) ti.sz 0 u hu
    unfold loadVar
    rw [Sem.run_bind, hT.agg, Result.andThen_ok, ha]
    simp only [Bool.false_eq_true, if_false]
    simp only [Nat.add_zero] at this
    simp [load, Sem.run, this]
theorem len_s (hE : EOk P E) {c : Call} (ho : o.op = .call c) (hc : c.callee = .builtin .len) {args : List AV} (hargs : ∀ φ a, Glob φ → On φ tm c.args.toList a → A2 (AR φ) args (c.args.toList.map a.eval))
    (h1 : bLen E c.argTypes.toList args h K = some r) : ∃ v, K v h = some r ∧ OpR P o tm h.t.get v := by
  obtain ⟨x, hx, h1⟩ := ob_some h1
  obtain ⟨cc, rfl, h1⟩ := withC_spec h1
  obtain ⟨t, ht, h1⟩ := ob_some h1
  obtain ⟨ti, hti, h1⟩ := ob_some h1
  obtain ⟨hk, h1⟩ := bf_some h1
  have hk : lenT ti.d = lenC cc := Nat.eq_of_beq_eq_true hk
  obtain ⟨d, ud, kd⟩ := (hE.ty _ _ hti).und
  rw [getL_eq] at hx ht
  have ht' : c.argTypes[0]? = some t := by simpa using ht
  have hv : ∀ φ a, Glob φ → On φ tm o.op.operands.toList a → ∃ v, (c.args.map a.eval)[0]? = some v ∧ CR φ cc v := by
    intro φ a hg hn
    obtain ⟨v, q1, q2⟩ := (hargs φ a hg (hn.sub (call_sub ho hc))).get hx
    exact ⟨v, by simpa using q1, q2⟩
  have exec : ∀ (a : Act) (w : World) (v : Value), (c.args.map a.eval)[0]? = some v → ∀ y, (Builtin.len_ c.argTypes o.type (c.args.map a.eval)).run P w = .ok y w → (execOp a.eval o).run P w = .ok (.value y) w := by
    intro a w v hv y hy
    obtain ⟨cs, e⟩ := call_builtin (P := P) ho hc a w
    rw [e]
    exact run_v hy
  have hsl : lenC cc = 2 → ∃ e, d = .slice e := by
    intro hh; rw [hh] at hk
    cases hq : ti.d <;> rw [hq] at hk kd <;> first | (cases hk; done) | exact ⟨_, kd⟩
  have hmp : lenC cc = 3 → ∃ k e, d = .map k e := by
    intro hh; rw [hh] at hk
    cases hq : ti.d <;> rw [hq] at hk kd <;> first | (cases hk; done) | exact ⟨_, _, kd⟩
  have hst : lenC cc = 7 → d = .string := by
    intro hh; rw [hh] at hk
    cases hq : ti.d <;> rw [hq] at hk kd <;> first | (cases hk; done) | exact kd
  cases cc with
  | nils =>
    obtain ⟨e, rfl⟩ := hsl rfl
    refine ⟨_, h1, fun B φ a w hw hg hn => ⟨.int .i64 0, ?_, rfl⟩⟩
    obtain ⟨v, q1, q2⟩ := hv φ a hg hn
    cases q2
    refine exec a w _ q1 _ ?_
    unfold Builtin.len_
    rw [ht', q1]
    simp only [Sem.run_bind, run_underlying ud, Result.andThen_ok]
    rfl
  | emp =>
    obtain ⟨e, rfl⟩ := hsl rfl
    refine ⟨_, h1, fun B φ a w hw hg hn => ⟨.int .i64 0, ?_, rfl⟩⟩
    obtain ⟨v, q1, q2⟩ := hv φ a hg hn
    obtain ⟨x1, x2, rfl⟩ := q2
    refine exec a w _ q1 _ ?_
    unfold Builtin.len_
    rw [ht', q1]
    simp only [Sem.run_bind, run_underlying ud, Result.andThen_ok]
    rfl
  | sl n off len cap z ex =>
    obtain ⟨e, rfl⟩ := hsl rfl
    refine ⟨_, h1, fun B φ a w hw hg hn => ⟨.int .i64 (.ofNat len), ?_, rfl⟩⟩
    obtain ⟨v, q1, q2⟩ := hv φ a hg hn
    obtain ⟨b, f, S, c', _, rfl, _⟩ := q2
    refine exec a w _ q1 _ ?_
    unfold Builtin.len_
    rw [ht', q1]
    simp only [Sem.run_bind, run_underlying ud, Result.andThen_ok]
    rfl
  | nilm =>
    obtain ⟨k, e, rfl⟩ := hmp rfl
    refine ⟨_, h1, fun B φ a w hw hg hn => ⟨.int .i64 0, ?_, rfl⟩⟩
    obtain ⟨v, q1, q2⟩ := hv φ a hg hn
    cases q2
    refine exec a w _ q1 _ ?_
    unfold Builtin.len_
    rw [ht', q1]
    simp only [Sem.run_bind, run_underlying ud, Result.andThen_ok]
    rfl
  | mp n =>
    obtain ⟨k, e, rfl⟩ := hmp rfl
    obtain ⟨oo, hoo, h1⟩ := ob_some (show ob (hget h n) _ = some r from h1)
    cases oo with
    | map l clk =>
      rw [show (withMap (AO.map l clk) fun l _ => fN (lenN l) fun n => K (.c (.i .i64 (.ofNat n))) h) = fN (lenN l) fun n => K (.c (.i .i64 (.ofNat n))) h from rfl, fN_eq, lenN_eq] at h1
      refine ⟨_, h1, fun B φ a w hw hg hn => ⟨.int .i64 (.ofNat l.length), ?_, rfl⟩⟩
      obtain ⟨v, q1, q2⟩ := hv φ a hg hn
      obtain ⟨b, f, S, q, rfl⟩ := q2
      obtain ⟨b', f', S', es, q', hb, hl⟩ := hw.obj _ _ hoo
      rw [q] at q'
      obtain ⟨rfl, rfl, rfl⟩ : b = b' ∧ f = f' ∧ S = S' := by simpa using q'
      refine exec a w _ q1 _ ?_
      unfold Builtin.len_
      rw [ht', q1]
      simp only [Sem.run_bind, run_underlying ud, Result.andThen_ok]
      have hlen := hl.len
      simp only [Array.length_toList] at hlen
      simp [getObj, Sem.run, hb, goInt, hlen]
    | _ => cases h1
  | s x =>
    have hd := hst rfl
    subst hd
    replace h1 : fN x.size (fun n => K (.c (.i .i64 (.ofNat n))) h) = some r := h1
    rw [fN_eq] at h1
    refine ⟨_, h1, fun B φ a w hw hg hn => ⟨.int .i64 (.ofNat x.size), ?_, rfl⟩⟩
    obtain ⟨v, q1, q2⟩ := hv φ a hg hn
    cases q2
    refine exec a w _ q1 _ ?_
    unfold Builtin.len_
    rw [ht', q1]
    simp only [Sem.run_bind, run_underlying ud, Result.andThen_ok]
    rfl
  | _ => cases h1
end Go.Ev
