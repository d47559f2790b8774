/- Calm regions, scripts: quiet operations, makers that hang on makers, one writer, in whatever order; then late pure ones and the forced tail. -/
import Derived.Test.YtendgmnbnnkpnaaX3
import Derived.WalkKit
import Derived.WalkSpells
import Derived.WalkLawsBesides
import Derived.Deep.QuietTactic
import Derived.BigQuiet
import Derived.BigRegion
import Derived.Lib.Hide
import Derived.Deep.RegionWith
set_option linter.unusedSimpArgs false
set_option linter.unusedVariables false
namespace Go
inductive Knd | q | m | w
  deriving DecidableEq
/-- what is known of a new value at once -/
inductive Shp | any | sl (n c : Nat) | ptr | of (S : Value → Prop) (x : Value) (hx : S x) (hb : x.blk = .none)
def Shp.ok : Shp → Value → Prop
  | .any, _ => True
  | .sl n c, u => ∃ b, u = .slice (some ⟨b, 0, .none⟩) n c
  | .ptr, u => ∃ b, u = .pointer (some ⟨b, 0, .none⟩)
  | .of S _ _ _, u => S u
def Oper.shp0 (o : Oper) : Shp := match o.op with
  | .buildSlice _ n _ => .sl n n
  | .alloc _ => .ptr
  | .box .. => .ptr
  | _ => .any
def Shp.wit : Shp → Nat → Value
  | .any, _ => undef
  | .sl n c, b => .slice (some ⟨b, 0, .none⟩) n c
  | .ptr, b => .pointer (some ⟨b, 0, .none⟩)
  | .of _ x _ _, _ => x
theorem Shp.wit_ok : ∀ (s : Shp) (b : Nat), s.ok (s.wit b)
  | .any, _ => trivial
  | .sl _ _, b => ⟨b, rfl⟩
  | .ptr, b => ⟨b, rfl⟩
  | .of _ _ hx _, _ => hx
theorem Shp.wit_blk : ∀ (s : Shp) (b k : Nat), (s.wit b).blk = some k → k = b
  | .any, _, _, h => by cases h
  | .sl _ _, b, k, h => by simpa [Shp.wit, Value.blk] using h.symm
  | .ptr, b, k, h => by simpa [Shp.wit, Value.blk] using h.symm
  | .of _ _ _ hb, _, k, h => by simp only [Shp.wit] at h; rw [hb] at h; cases h
section
variable {P : Program} {ops : Array Oper} {C : World → Prop} {n0 : Nat} {Mv : World → World → Prop} {I D : World → Prop} {Q : Exit → Act → World → Prop} {Ψ : Nat → Option ((Value → Facts) × Shp)}
/-- what a plain maker made -/
def Made (P : Program) (C : World → Prop) (n0 : Nat) (Mv : World → World → Prop) (s : Sem Next) (u : Value) : Facts := fun w =>
  ∀ Φ : Value → Facts, Stable Φ → StableM n0 Mv Φ → (∀ w, C w → ∃ u w', s.run P w = .ok (.value u) w' ∧ Φ u w') → Φ u w
def fact (P : Program) (C : World → Prop) (n0 : Nat) (Mv : World → World → Prop) (Ψ : Nat → Option ((Value → Facts) × Shp)) (i : Nat) (o : Oper) (a : Act) : Value → Facts :=
  match Ψ i with
  | some Φ => Φ.1
  | none => Made P C n0 Mv (execOp a.eval o)
theorem fact_put {i : Nat} {o x : Oper} {a : Act} {u : Value} (hs : ∀ cs b, o.op ≠ .select cs b) (h : ∀ d, x.dst = some d → d ∉ o.looksAt ops) : fact P C n0 Mv Ψ i o (a.put x.dst u) = fact P C n0 Mv Ψ i o a := by
  unfold fact; rw [execOp_put (ops := ops) o hs a x.dst u h]
def shpOf (Ψ : Nat → Option ((Value → Facts) × Shp)) (i : Nat) (o : Oper) : Shp := match Ψ i with
  | some Φ => Φ.2
  | none => o.shp0
/-- bounded -/
def Bnd (B : Blks) : Prop := ∃ N, ∀ b, B b → b < N
theorem Bnd.add {B : Blks} (h : Bnd B) (u : Value) : Bnd (fun b => B b ∨ u.blk = some b) := by
  obtain ⟨N, hN⟩ := h
  cases hu : u.blk with
  | none => exact ⟨N, fun b hb => hN b (hb.resolve_right fun h => by cases h)⟩
  | some k => exact ⟨max N (k + 1), fun b hb => by
      rcases hb with hb | hb
      · have := hN b hb; omega
      · obtain rfl : k = b := by simpa using hb
        omega⟩
/-- something new of a shape -/
theorem Bnd.wit {B : Blks} (h : Bnd B) (n0 : Nat) (s : Shp) : ∃ u, (∀ b, u.blk = some b → n0 ≤ b ∧ ¬ B b) ∧ s.ok u := by
  obtain ⟨N, hN⟩ := h
  refine ⟨s.wit (max n0 N), fun b hb => ?_, s.wit_ok _⟩
  obtain rfl := s.wit_blk _ _ hb
  exact ⟨by omega, fun hB => by have := hN _ hB; omega⟩
/-- the script -/
def SW (P : Program) (ops : Array Oper) (C : World → Prop) (n0 : Nat) (Mv : World → World → Prop) (I D : World → Prop) (Ψ : Nat → Option ((Value → Facts) × Shp)) (T : Act → Facts → Prop) : List (Knd × Nat) → Act → Facts → Blks → Prop
  | [], a, F, _ => T a F
  | (.q, i) :: l, a, F, B => ∃ o, ops[i]? = some o ∧ ∃ v, Gv P ops C o a v ∧ SW P ops C n0 Mv I D Ψ T l (a.put o.dst v) F B
  | (.w, i) :: l, a, F, B => WO P ops I D Mv [i] a ∧ SW P ops C n0 Mv I D Ψ T l a F B
  | (.m, i) :: l, a, F, B => ∃ o, ops[i]? = some o ∧ Mk P ops C n0 Mv a (i, fact P C n0 Mv Ψ i o a) ∧ (∀ u w, fact P C n0 Mv Ψ i o a u w → (shpOf Ψ i o).ok u) ∧ ∀ u, (∀ b, u.blk = some b → n0 ≤ b ∧ ¬ B b) → (shpOf Ψ i o).ok u → SW P ops C n0 Mv I D Ψ T l (a.put o.dst u) (fun w => F w ∧ fact P C n0 Mv Ψ i o a u w) (fun b => B b ∨ u.blk = some b)
/-- an operation that never enters a function -/
def Op.flat (o : Op) : Bool := o.plainly || o.builtinly
theorem flat_value {ρ : Operand → Value} {o : Oper} {w w' : World} {n : Next} (hb : o.op.flat = true) (h : (execOp ρ o).run P w = .ok n w') : ∃ u, n = .value u := by
  rcases Bool.or_eq_true _ _ |>.mp hb with hp | hp
  · exact plainly_value hp h
  · exact builtinly_value hp h
theorem Gv.inj {o : Oper} {a : Act} {v v' : Value} (hC : ∃ w, C w) (hp : o.op.flat = true) (h : Gv P ops C o a v) (h' : Gv P ops C o a v') : v = v' := by
  rcases h with ⟨h1, h2⟩ | ⟨h1, h2⟩ <;> rcases h' with ⟨k1, k2⟩ | ⟨k1, k2⟩
  · rw [h2, k2]
  · rw [h1] at k1; cases k1
  · rw [h1] at k1; cases k1
  · obtain ⟨w, hw⟩ := hC
    have x := h2 w hw
    have y := k2 w hw
    cases hr : (execOp a.eval o).run P w with
    | ok n w' =>
      obtain ⟨u, rfl⟩ := flat_value hp hr
      rw [hr] at x y
      exact x.2.symm.trans y.2
    | halt c w' => rw [hr] at x; exact x.elim
theorem SW.mono {T : Act → Facts → Prop} (hT : ∀ a (F F' : Facts), (∀ w, F' w → F w) → T a F → T a F') : ∀ {l : List (Knd × Nat)} {a : Act} {F F' : Facts} {B : Blks}, (∀ w, F' w → F w) → SW P ops C n0 Mv I D Ψ T l a F B → SW P ops C n0 Mv I D Ψ T l a F' B
  | [], _, _, _, _, hF, h => hT _ _ _ hF h
  | (.q, _) :: _, _, _, _, _, hF, ⟨o, ho, v, hg, h⟩ => ⟨o, ho, v, hg, SW.mono hT hF h⟩
  | (.w, _) :: _, _, _, _, _, hF, ⟨h0, h⟩ => ⟨h0, SW.mono hT hF h⟩
  | (.m, _) :: _, _, _, _, _, hF, ⟨o, ho, hk, hsh, h⟩ => ⟨o, ho, hk, hsh, fun u hu hs => SW.mono hT (fun w hw => ⟨hF w hw.1, hw.2⟩) (h u hu hs)⟩
theorem some_of_apart {i j : Nat} {oi : Oper} (hi : ops[i]? = some oi) (h : apartB ops j i = true) : ∃ o, ops[j]? = some o ∧ o.apart ops oi = true := by
  cases hp : ops[j]? with
  | none => simp [apartB, hp] at h
  | some x => exact ⟨x, rfl, apartB_spec hp hi h⟩
/-- a quiet one, pulled to the front -/
theorem SW.frontQ (hs : NoSel ops) (hC : ∃ w, C w) {T : Act → Facts → Prop} {i : Nat} {oi : Oper} (hi : ops[i]? = some oi) (l2 : List (Knd × Nat)) : ∀ (l1 : List (Knd × Nat)) (a : Act) (F : Facts) (B : Blks), Bnd B → (∀ p, p ∈ l1 → apartB ops p.2 i = true) → (oi.op.flat = true ∨ ∀ p, p ∈ l1 → p.1 ≠ .m) →
    SW P ops C n0 Mv I D Ψ T (l1 ++ (.q, i) :: l2) a F B → ∃ v, Gv P ops C oi a v ∧ SW P ops C n0 Mv I D Ψ T (l1 ++ l2) (a.put oi.dst v) F B
  | [], a, F, B, _, _, _, ⟨o, ho, v, hg, hh⟩ => by
    obtain rfl : oi = o := Option.some.inj (hi.symm.trans ho)
    exact ⟨v, hg, hh⟩
  | (.q, j) :: l1, a, F, B, hBN, hap, hfl, ⟨o, ho, v, hg, hh⟩ => by
    obtain ⟨v', hg', hh'⟩ := SW.frontQ hs hC hi l2 l1 _ F B hBN (fun k hk => hap k (List.mem_cons_of_mem _ hk)) (hfl.imp id fun h k hk => h k (List.mem_cons_of_mem _ hk)) hh
    obtain ⟨a1, a2, a3⟩ := Oper.apart_spec (apartB_spec ho hi (hap (.q, j) (List.mem_cons_self ..)))
    exact ⟨v', (Gv.put (fun cs b => hs i oi cs b hi) a1).1 hg', o, ho, v, (Gv.put (fun cs b => hs j o cs b ho) a3).2 hg, by rw [← Act.put_comm a v v' a2]; exact hh'⟩
  | (.w, j) :: l1, a, F, B, hBN, hap, hfl, ⟨h0, hh⟩ => by
    obtain ⟨v', hg', hh'⟩ := SW.frontQ hs hC hi l2 l1 _ F B hBN (fun k hk => hap k (List.mem_cons_of_mem _ hk)) (hfl.imp id fun h k hk => h k (List.mem_cons_of_mem _ hk)) hh
    obtain ⟨o, ho, hao⟩ := some_of_apart hi (hap (.w, j) (List.mem_cons_self ..))
    obtain ⟨a1, a2, a3⟩ := Oper.apart_spec hao
    refine ⟨v', hg', WO.put_all hs (fun k hk o' ho' => ?_) h0, hh'⟩
    obtain rfl : k = j := by simpa using hk
    obtain rfl : o = o' := Option.some.inj (ho.symm.trans ho')
    exact a3
  | (.m, j) :: l1, a, F, B, hBN, hap, hfl, ⟨o, ho, hk, hsh, hh⟩ => by
    have hfl' : oi.op.flat = true := by
      rcases hfl with h | h
      · exact h
      · exact absurd rfl (h (.m, j) (List.mem_cons_self ..))
    obtain ⟨a1, a2, a3⟩ := Oper.apart_spec (apartB_spec ho hi (hap (.m, j) (List.mem_cons_self ..)))
    have ih := fun u hu hv => SW.frontQ hs hC hi l2 l1 _ _ _ (hBN.add u) (fun k hk => hap k (List.mem_cons_of_mem _ hk)) (.inl hfl') (hh u hu hv)
    obtain ⟨uw, hw1, hw2⟩ := hBN.wit n0 (shpOf Ψ j o)
    obtain ⟨v0, g0, _⟩ := ih uw hw1 hw2
    refine ⟨v0, (Gv.put (fun cs b => hs i oi cs b hi) a1).1 g0, o, ho, ?_, ?_, fun u hu hv => ?_⟩
    · rw [fact_put (fun cs b => hs j o cs b ho) a3]; exact (Mk.put hs ho a3).2 hk
    · rw [fact_put (fun cs b => hs j o cs b ho) a3]; exact hsh
    · rw [fact_put (fun cs b => hs j o cs b ho) a3]
      obtain ⟨v, g, h⟩ := ih u hu hv
      obtain rfl := Gv.inj hC hfl' ((Gv.put (fun cs b => hs i oi cs b hi) a1).1 g) ((Gv.put (fun cs b => hs i oi cs b hi) a1).1 g0)
      rw [← Act.put_comm a u v a2]; exact h
/-- the writer, pulled to the front -/
theorem SW.frontW (hs : NoSel ops) {T : Act → Facts → Prop} {i : Nat} {oi : Oper} (hi : ops[i]? = some oi) (l2 : List (Knd × Nat)) : ∀ (l1 : List (Knd × Nat)) (a : Act) (F : Facts) (B : Blks), Bnd B → (∀ p, p ∈ l1 → apartB ops p.2 i = true) →
    SW P ops C n0 Mv I D Ψ T (l1 ++ (.w, i) :: l2) a F B → WO P ops I D Mv [i] a ∧ SW P ops C n0 Mv I D Ψ T (l1 ++ l2) a F B
  | [], a, F, B, _, _, h => h
  | (.q, j) :: l1, a, F, B, hBN, hap, ⟨o, ho, v, hg, hh⟩ => by
    obtain ⟨h1, hh'⟩ := SW.frontW hs hi l2 l1 _ F B hBN (fun k hk => hap k (List.mem_cons_of_mem _ hk)) hh
    obtain ⟨a1, a2, a3⟩ := Oper.apart_spec (apartB_spec ho hi (hap (.q, j) (List.mem_cons_self ..)))
    exact ⟨WO.put hs hi a1 h1, o, ho, v, hg, hh'⟩
  | (.w, j) :: l1, a, F, B, hBN, hap, ⟨h0, hh⟩ => by
    obtain ⟨h1, hh'⟩ := SW.frontW hs hi l2 l1 _ F B hBN (fun k hk => hap k (List.mem_cons_of_mem _ hk)) hh
    exact ⟨h1, h0, hh'⟩
  | (.m, j) :: l1, a, F, B, hBN, hap, ⟨o, ho, hk, hsh, hh⟩ => by
    obtain ⟨a1, a2, a3⟩ := Oper.apart_spec (apartB_spec ho hi (hap (.m, j) (List.mem_cons_self ..)))
    have ih := fun u hu hv => SW.frontW hs hi l2 l1 _ _ _ (hBN.add u) (fun k hk => hap k (List.mem_cons_of_mem _ hk)) (hh u hu hv)
    obtain ⟨uw, hw1, hw2⟩ := hBN.wit n0 (shpOf Ψ j o)
    exact ⟨WO.put hs hi a1 (ih uw hw1 hw2).1, o, ho, hk, hsh, fun u hu hv => (ih u hu hv).2⟩
/-- a maker, pulled to the front -/
theorem SW.frontM (hs : NoSel ops) {T : Act → Facts → Prop} (hT : ∀ a (F F' : Facts), (∀ w, F' w → F w) → T a F → T a F') {i : Nat} {oi : Oper} (hi : ops[i]? = some oi) (l2 : List (Knd × Nat)) : ∀ (l1 : List (Knd × Nat)) (a : Act) (F : Facts) (B : Blks), Bnd B → (∀ p, p ∈ l1 → apartB ops p.2 i = true) →
    SW P ops C n0 Mv I D Ψ T (l1 ++ (.m, i) :: l2) a F B → Mk P ops C n0 Mv a (i, fact P C n0 Mv Ψ i oi a) ∧ (∀ u w, fact P C n0 Mv Ψ i oi a u w → (shpOf Ψ i oi).ok u) ∧
      ∀ u, (∀ b, u.blk = some b → n0 ≤ b ∧ ¬ B b) → (shpOf Ψ i oi).ok u → SW P ops C n0 Mv I D Ψ T (l1 ++ l2) (a.put oi.dst u) (fun w => F w ∧ fact P C n0 Mv Ψ i oi a u w) (fun b => B b ∨ u.blk = some b)
  | [], a, F, B, _, _, ⟨o, ho, hk, hh⟩ => by
    obtain rfl : oi = o := Option.some.inj (hi.symm.trans ho)
    exact ⟨hk, hh⟩
  | (.q, j) :: l1, a, F, B, hBN, hap, ⟨o, ho, v, hg, hh⟩ => by
    obtain ⟨a1, a2, a3⟩ := Oper.apart_spec (apartB_spec ho hi (hap (.q, j) (List.mem_cons_self ..)))
    obtain ⟨h1, hsi, hh'⟩ := SW.frontM hs hT hi l2 l1 _ F B hBN (fun k hk => hap k (List.mem_cons_of_mem _ hk)) hh
    rw [fact_put (fun cs b => hs i oi cs b hi) a1] at h1 hsi hh'
    refine ⟨(Mk.put hs hi a1).1 h1, hsi, fun u hu hv => ⟨o, ho, v, (Gv.put (fun cs b => hs j o cs b ho) a3).2 hg, ?_⟩⟩
    rw [← Act.put_comm a v u a2]; exact hh' u hu hv
  | (.w, j) :: l1, a, F, B, hBN, hap, ⟨h0, hh⟩ => by
    obtain ⟨o, ho, hao⟩ := some_of_apart hi (hap (.w, j) (List.mem_cons_self ..))
    obtain ⟨a1, a2, a3⟩ := Oper.apart_spec hao
    obtain ⟨h1, hsi, hh'⟩ := SW.frontM hs hT hi l2 l1 _ F B hBN (fun k hk => hap k (List.mem_cons_of_mem _ hk)) hh
    refine ⟨h1, hsi, fun u hu hv => ⟨WO.put_all hs (fun k hk o' ho' => ?_) h0, hh' u hu hv⟩⟩
    obtain rfl : k = j := by simpa using hk
    obtain rfl : o = o' := Option.some.inj (ho.symm.trans ho')
    exact a3
  | (.m, j) :: l1, a, F, B, hBN, hap, ⟨o, ho, hk, hsh, hh⟩ => by
    obtain ⟨a1, a2, a3⟩ := Oper.apart_spec (apartB_spec ho hi (hap (.m, j) (List.mem_cons_self ..)))
    have ih := fun u hu hv => SW.frontM hs hT hi l2 l1 _ _ _ (hBN.add u) (fun k hk => hap k (List.mem_cons_of_mem _ hk)) (hh u hu hv)
    have hfi : ∀ u, fact P C n0 Mv Ψ i oi (a.put o.dst u) = fact P C n0 Mv Ψ i oi a := fun u => fact_put (fun cs b => hs i oi cs b hi) a1
    obtain ⟨uw, hw1, hw2⟩ := hBN.wit n0 (shpOf Ψ j o)
    refine ⟨?_, ?_, fun u hu hv => ⟨o, ho, ?_, ?_, fun uj huj hvj => ?_⟩⟩
    · have := (ih uw hw1 hw2).1
      rw [hfi] at this
      exact (Mk.put hs hi a1).1 this
    · have := (ih uw hw1 hw2).2.1
      rw [hfi] at this
      exact this
    · rw [fact_put (fun cs b => hs j o cs b ho) a3]; exact (Mk.put hs ho a3).2 hk
    · rw [fact_put (fun cs b => hs j o cs b ho) a3]; exact hsh
    · have h2 := (ih uj (fun b hb => ⟨(huj b hb).1, fun hB => (huj b hb).2 (.inl hB)⟩) hvj).2.2 u (fun b hb => ⟨(hu b hb).1, fun hB => by
        rcases hB with hB | hB
        · exact (hu b hb).2 hB
        · exact (huj b hB).2 (.inr hb)⟩) hv
      rw [hfi] at h2
      rw [fact_put (fun cs b => hs j o cs b ho) a3, ← Act.put_comm a uj u a2]
      have e2 : (fun b => (B b ∨ uj.blk = some b) ∨ u.blk = some b) = (fun b => (B b ∨ u.blk = some b) ∨ uj.blk = some b) := by funext b; exact propext or_right_comm
      rw [e2] at h2
      exact SW.mono hT (fun w ⟨⟨x, y⟩, z⟩ => ⟨⟨x, z⟩, y⟩) h2
/-- a late pure one, pulled through the whole script -/
theorem SW.pure (hs : NoSel ops) {i : Nat} {oi : Oper} (hi : ops[i]? = some oi) {p1 p2 τ : List Nat} (hap1 : ∀ j, j ∈ p1 → apartB ops j i = true) : ∀ (l : List (Knd × Nat)) (a : Act) (F : Facts) (B : Blks), Bnd B →
    (∀ p, p ∈ l → apartB ops p.2 i = true) → SW P ops C n0 Mv I D Ψ (TO P ops D Q (p1 ++ i :: p2) τ) l a F B →
    ∃ v, Yields P ops oi v a ∧ SW P ops C n0 Mv I D Ψ (TO P ops D Q (p1 ++ p2) τ) l (a.put oi.dst v) F B
  | [], a, F, B, _, _, h => PW.front hs hi p2 p1 a hap1 h
  | (.q, j) :: l, a, F, B, hBN, hap, ⟨o, ho, v, hg, hh⟩ => by
    obtain ⟨a1, a2, a3⟩ := Oper.apart_spec (apartB_spec ho hi (hap (.q, j) (List.mem_cons_self ..)))
    obtain ⟨v', y, h⟩ := SW.pure hs hi hap1 l _ F B hBN (fun k hk => hap k (List.mem_cons_of_mem _ hk)) hh
    refine ⟨v', y.of_same (execOp_put oi (fun cs b => hs i oi cs b hi) a o.dst v a1).symm (wanted_put oi a o.dst v a1).symm, o, ho, v, (Gv.put (fun cs b => hs j o cs b ho) a3).2 hg, ?_⟩
    rw [← Act.put_comm a v v' a2]; exact h
  | (.w, j) :: l, a, F, B, hBN, hap, ⟨h0, hh⟩ => by
    obtain ⟨o, ho, hao⟩ := some_of_apart hi (hap (.w, j) (List.mem_cons_self ..))
    obtain ⟨a1, a2, a3⟩ := Oper.apart_spec hao
    obtain ⟨v', y, h⟩ := SW.pure hs hi hap1 l _ F B hBN (fun k hk => hap k (List.mem_cons_of_mem _ hk)) hh
    refine ⟨v', y, WO.put_all hs (fun k hk o' ho' => ?_) h0, h⟩
    obtain rfl : k = j := by simpa using hk
    obtain rfl : o = o' := Option.some.inj (ho.symm.trans ho')
    exact a3
  | (.m, j) :: l, a, F, B, hBN, hap, ⟨o, ho, hk, hsh, hh⟩ => by
    obtain ⟨a1, a2, a3⟩ := Oper.apart_spec (apartB_spec ho hi (hap (.m, j) (List.mem_cons_self ..)))
    have key : ∀ u v, Yields P ops oi v (a.put o.dst u) → Yields P ops oi v a := fun u v hy =>
      hy.of_same (execOp_put oi (fun cs b => hs i oi cs b hi) a o.dst u a1).symm (wanted_put oi a o.dst u a1).symm
    have ih := fun u hu hv => SW.pure hs hi hap1 l _ _ _ (hBN.add u) (fun k hk => hap k (List.mem_cons_of_mem _ hk)) (hh u hu hv)
    obtain ⟨uw, hw1, hw2⟩ := hBN.wit n0 (shpOf Ψ j o)
    obtain ⟨v0, y0, _⟩ := ih uw hw1 hw2
    refine ⟨v0, key _ _ y0, o, ho, ?_, ?_, fun u hu hv => ?_⟩
    · rw [fact_put (fun cs b => hs j o cs b ho) a3]; exact (Mk.put hs ho a3).2 hk
    · rw [fact_put (fun cs b => hs j o cs b ho) a3]; exact hsh
    · rw [fact_put (fun cs b => hs j o cs b ho) a3]
      obtain ⟨v, y, h⟩ := ih u hu hv
      obtain rfl := Yields.inj (key _ _ y) (key _ _ y0)
      rw [← Act.put_comm a u v a2]; exact h
/-- the order that is walked -/
structure OrdS (ops : Array Oper) (S : List (Knd × Nat)) (lp τ : List Nat) : Prop where
  nodup : (S.map Prod.snd ++ lp ++ τ).Nodup
  fwd : (S.map Prod.snd ++ lp ++ τ).Pairwise fun i j => dep ops i j = false
  irr : ∀ i, i ∈ S.map Prod.snd ++ lp ++ τ → dep ops i i = false
  lt : ∀ i, i ∈ S.map Prod.snd ++ lp ++ τ → i < ops.size
  ap : (S.map Prod.snd ++ lp).Pairwise fun j i => dep ops i j = true ∨ apartB ops j i = true
  apT : ∀ i, i ∈ S.map Prod.snd ++ lp → ∀ t, t ∈ τ → dep ops t i = true ∨ apartB ops i t = true
  inj : S.Pairwise fun p q => p.1 = .m → q.1 = .q → dep ops q.2 p.2 = true ∨ ((ops[q.2]?).map fun o => o.op.flat) = some true
theorem OrdS.sub {S S' : List (Knd × Nat)} {lp τ lp' τ' : List Nat} (h : OrdS ops S lp τ) (h1 : S'.Sublist S) (h3 : lp'.Sublist lp) (h4 : τ'.Sublist τ) : OrdS ops S' lp' τ' := by
  have hs : (S'.map Prod.snd ++ lp').Sublist (S.map Prod.snd ++ lp) := (h1.map _).append h3
  have ha : (S'.map Prod.snd ++ lp' ++ τ').Sublist (S.map Prod.snd ++ lp ++ τ) := hs.append h4
  exact ⟨h.nodup.sublist ha, h.fwd.sublist ha, fun i hi => h.irr i (ha.subset hi), fun i hi => h.lt i (ha.subset hi), h.ap.sublist hs, fun i hi t ht => h.apT i (hs.subset hi) t (h4.subset ht), h.inj.sublist h1⟩
def nw (S : List (Knd × Nat)) : Nat := S.countP fun p => decide (p.1 = .w)
/-- the first phase -/
theorem calmS (hE : Edg ops) (hCI : ∀ w, I w → C w) (hCD : ∀ w, D w → C w) (hIx : ∀ w w', I w → Ext w w' → I w') (hDx : ∀ w w', D w → Ext w w' → D w')
    (np : List Nat) (hnp : ∀ j, j ∈ np → j < ops.size) (τ : List Nat) (hcov : ∀ t, τ.head? = some t → cov ops t np = true) : ∀ (fuel : Nat) (listed : Array Bool) (a : Act) (w : World) (F : Facts) (B : Blks) (S : List (Knd × Nat)) (lp : List Nat),
    Inv ops listed (S.map Prod.snd ++ lp ++ τ) → OrdS ops S lp τ → chain ops τ = true → (∀ j, j ∈ S.map Prod.snd → j ∈ np) → fuel = (S.map Prod.snd ++ lp ++ τ).length →
    nw S ≤ 1 → (nw S = 1 → I w) → (nw S = 0 → D w) → n0 ≤ w.heap.size → F w → (∀ w w', F w → Ext w w' → F w') → (∀ w w', F w → Mv w w' → F w') → (∀ b, B b → b < w.heap.size) → SW P ops C n0 Mv I D Ψ (TO P ops D (only Q) lp τ) S a F B → wpAny P .any ops (only Q) fuel listed a w
  | 0, listed, a, w, F, B, S, lp, hI, hO, hc, hn, hf, hw1, hwI, hwD, hn0, hF, hFs, hFm, hB, h => by
    have h0 : S.map Prod.snd ++ lp ++ τ = [] := List.eq_nil_of_length_eq_zero hf.symm
    simp only [List.append_eq_nil_iff, List.map_eq_nil_iff] at h0
    obtain ⟨⟨rfl, rfl⟩, rfl⟩ := h0
    exact calmB hE 0 listed a w [] [] hI ⟨hO.nodup, hO.fwd, hO.irr, hO.lt, hO.ap, List.Pairwise.nil, (fun _ h => by cases h), hO.apT⟩ hc rfl (PW.mono (fun a' h' => h' w (hwD rfl) hF) h)
  | fuel + 1, listed, a, w, F, B, S, lp, hI, hO, hc, hn, hf, hw1, hwI, hwD, hn0, hF, hFs, hFm, hB, h => by
    have hT : ∀ a (F F' : Facts), (∀ w, F' w → F w) → TO P ops D (only Q) lp τ a F → TO P ops D (only Q) lp τ a F' := fun a F F' hF h => PW.mono (fun a' h' w hw hF' => h' w hw (hF w hF')) h
    have hCw : C w := by
      by_cases hl : nw S = 0
      · exact hCD w (hwD hl)
      · exact hCI w (hwI (by omega))
    refine ⟨fun h0 => ?_, fun i hi => ?_⟩
    · exfalso
      cases hl : S.map Prod.snd ++ lp ++ τ with
      | nil => rw [hl] at hf; cases hf
      | cons x l =>
        rw [hl] at hI
        have := head_ready hI hE (by rw [← hl]; exact hO.fwd) (hO.irr x (by rw [hl]; exact List.mem_cons_self ..)) (hO.lt x (by rw [hl]; exact List.mem_cons_self ..))
        rw [h0] at this; cases this
    · obtain ⟨hlt, hp, hd⟩ := (ready_spec hI hE).1 hi
      have hio : ops[i]? = some ops[i] := by simp [hlt]
      have hapS : ∀ l1 l2, S.map Prod.snd ++ lp = l1 ++ i :: l2 → ∀ j, j ∈ l1 → apartB ops j i = true := fun l1 l2 he j hj => by
        have h2 := hO.ap
        rw [he] at h2
        rcases (List.pairwise_append.1 h2).2.2 j hj i (List.mem_cons_self ..) with h3 | h3
        · have : j ∈ S.map Prod.snd ++ lp ++ τ := by rw [he]; simp [hj]
          rw [hd j this] at h3; cases h3
        · exact h3
      rcases List.mem_append.1 hp with hp | hp
      · rcases List.mem_append.1 hp with hp | hp
        · -- of the script
          obtain ⟨⟨k, i'⟩, hm, hii⟩ := List.mem_map.1 hp
          simp only at hii
          subst hii
          obtain ⟨l1, l2, rfl⟩ := List.append_of_mem hm
          have hap : ∀ p, p ∈ l1 → apartB ops p.2 i' = true := fun p hp => hapS (l1.map Prod.snd) (l2.map Prod.snd ++ lp) (by simp) p.2 (List.mem_map_of_mem hp)
          have hI' : Inv ops listed (l1.map Prod.snd ++ i' :: (l2.map Prod.snd ++ lp ++ τ)) := by simpa using hI
          have hI2 : Inv ops (listed.setIfInBounds i' true) ((l1 ++ l2).map Prod.snd ++ lp ++ τ) := by simpa using hI'.step hE (by simpa using hO.nodup) hi
          have hO2 : OrdS ops (l1 ++ l2) lp τ := hO.sub (by simp) (List.Sublist.refl _) (List.Sublist.refl _)
          have hn2 : ∀ j, j ∈ (l1 ++ l2).map Prod.snd → j ∈ np := fun j hj => hn j (by simp only [List.map_append, List.map_cons, List.mem_append, List.mem_cons] at hj ⊢; rcases hj with hj | hj <;> simp [hj])
          have hf2 : fuel = ((l1 ++ l2).map Prod.snd ++ lp ++ τ).length := by simp at hf ⊢; omega
          have hnw : nw (l1 ++ (k, i') :: l2) = nw (l1 ++ l2) + if k = .w then 1 else 0 := by
            simp only [nw, List.countP_append, List.countP_cons, decide_eq_true_eq]; omega
          cases k with
          | q =>
            rw [hnw] at hw1 hwI hwD
            simp only [reduceCtorEq, if_false, Nat.add_zero] at hw1 hwI hwD
            have hfl : (ops[i']).op.flat = true ∨ ∀ p, p ∈ l1 → p.1 ≠ .m := by
              by_cases hfl : (ops[i']).op.flat = true
              · exact .inl hfl
              · refine .inr fun p hp hpm => ?_
                rcases (List.pairwise_append.1 hO.inj).2.2 p hp (.q, i') (List.mem_cons_self ..) hpm rfl with h3 | h3
                · rw [hd p.2 (by simp only [List.map_append, List.mem_append]; exact .inl (.inl (.inl (List.mem_map_of_mem hp))))] at h3; cases h3
                · rw [hio] at h3; exact hfl (by simpa using h3)
            obtain ⟨v, hg, hk⟩ := SW.frontQ hE.sel ⟨w, hCw⟩ hio l2 l1 a F B ⟨_, hB⟩ hap hfl h
            exact wp_of_gv hio hg hCw fun w' hx => calmS hE hCI hCD hIx hDx np hnp τ hcov fuel _ _ _ F B (l1 ++ l2) lp hI2 hO2 hc hn2 hf2 hw1 (fun hl => hIx _ _ (hwI hl) hx) (fun hl => hDx _ _ (hwD hl) hx) (Nat.le_trans hn0 hx.size) (hFs _ _ hF hx) hFs hFm (fun b hb => Nat.lt_of_lt_of_le (hB b hb) hx.size) hk
          | m =>
            rw [hnw] at hw1 hwI hwD
            simp only [reduceCtorEq, if_false, Nat.add_zero] at hw1 hwI hwD
            obtain ⟨hg, hsh, hk⟩ := SW.frontM hE.sel hT hio l2 l1 a F B ⟨_, hB⟩ hap h
            refine wp_of_mk hio hg hCw fun u w' hx hΦ hb => ?_
            obtain ⟨hst, hsm⟩ : Stable (fact P C n0 Mv Ψ i' ops[i'] a) ∧ StableM n0 Mv (fact P C n0 Mv Ψ i' ops[i'] a) := by obtain ⟨_, _, _, hst, hsm, _⟩ := hg; exact ⟨hst, hsm⟩
            have hfr : ∀ b, u.blk = some b → n0 ≤ b ∧ ¬ B b := fun b h1 => ⟨Nat.le_trans hn0 (hb b h1).1, fun h2 => by have := hB b h2; have := (hb b h1).1; omega⟩
            exact calmS hE hCI hCD hIx hDx np hnp τ hcov fuel _ _ _ _ _ (l1 ++ l2) lp hI2 hO2 hc hn2 hf2 hw1 (fun hl => hIx _ _ (hwI hl) hx) (fun hl => hDx _ _ (hwD hl) hx) (Nat.le_trans hn0 hx.size) ⟨hFs _ _ hF hx, hΦ⟩
              (fun w1 w2 h1 h2 => ⟨hFs _ _ h1.1 h2, hst _ _ _ h1.2 h2⟩) (fun w1 w2 h1 h2 => ⟨hFm _ _ h1.1 h2, hsm _ _ _ h1.2 (fun b hb => (hfr b hb).1) h2⟩) (fun b h1 => by
                rcases h1 with h1 | h1
                · exact Nat.lt_of_lt_of_le (hB b h1) hx.size
                · exact (hb b h1).2) (hk u hfr (hsh u w' hΦ))
          | w =>
            rw [hnw] at hw1 hwI hwD
            simp only [if_true] at hw1 hwI hwD
            have hnw0 : nw (l1 ++ l2) = 0 := by omega
            obtain ⟨hwo, hk⟩ := SW.frontW hE.sel hio l2 l1 a F B ⟨_, hB⟩ hap h
            obtain ⟨o', ho', hdst, hwant, hrun⟩ := hwo i' (List.mem_singleton.2 rfl)
            obtain rfl : ops[i'] = o' := Option.some.inj (hio.symm.trans ho')
            obtain ⟨w', hr, hD', hM, hsz⟩ := hrun w (hwI (by omega))
            refine wpOp_at hio ?_
            rw [if_pos hwant]
            unfold Oper.wp
            rw [hr]
            simp only [Oper.upon, hdst, Act.put]
            exact calmS hE hCI hCD hIx hDx np hnp τ hcov fuel _ _ _ F B (l1 ++ l2) lp hI2 hO2 hc hn2 hf2 (by omega) (fun hl => by omega) (fun _ => hD') (Nat.le_trans hn0 hsz) (hFm _ _ hF hM) hFs hFm (fun b hb => Nat.lt_of_lt_of_le (hB b hb) hsz) hk
        · -- a pure one
          obtain ⟨l1, l2, rfl⟩ := List.append_of_mem hp
          have hq1 := hapS (S.map Prod.snd ++ l1) l2 (by simp)
          obtain ⟨v, hy, hk⟩ := SW.pure hE.sel hio (fun j hj => hq1 j (by simp [hj])) S a F B ⟨_, hB⟩ (fun p hp => hq1 p.2 (by simp only [List.mem_append]; exact .inl (List.mem_map_of_mem hp))) h
          have hI' : Inv ops listed ((S.map Prod.snd ++ l1) ++ i :: (l2 ++ τ)) := by simpa using hI
          refine hy.wpOp hio ?_
          exact calmS hE hCI hCD hIx hDx np hnp τ hcov fuel _ _ _ F B S (l1 ++ l2) (by simpa using hI'.step hE (by simpa using hO.nodup) hi) (hO.sub (List.Sublist.refl _) (by simp) (List.Sublist.refl _)) hc hn (by simp at hf ⊢; omega) hw1 hwI hwD hn0 hF hFs hFm hB hk
      · -- the tail's first
        obtain ⟨τ', hτ⟩ := chain_head hc hp (fun j hj => hd j (by simp only [List.mem_append]; exact .inr hj))
        have hcl := cov_listed hI hE hi hnp (hcov i (by rw [hτ]; rfl))
        have hS : S = [] := by
          rw [← List.map_eq_nil_iff (f := Prod.snd)]
          exact List.eq_nil_iff_forall_not_mem.2 fun j hj => hcl j (hn j hj) (by simp only [List.mem_append]; exact .inl (.inl hj))
        subst hS
        have := calmB (P := P) (Q := Q) hE (fuel + 1) listed a w lp τ (by simpa using hI) ⟨hO.nodup, hO.fwd, hO.irr, hO.lt, hO.ap, List.Pairwise.nil, (fun i hi j hj => by cases hj), hO.apT⟩ hc (by simpa using hf) (PW.mono (fun a' h' => h' w (hwD rfl) hF) h)
        exact this.2 i hi
def scriptOk (ops : Array Oper) (S : List (Knd × Nat)) (lp τ : List Nat) : Bool :=
  edgB ops && (List.range ops.size).all (fun i => (S.map Prod.snd ++ lp ++ τ).contains i) && (S.map Prod.snd ++ lp ++ τ).all (fun i => decide (i < ops.size) && !dep ops i i) &&
  pairB (fun i j => i != j && !dep ops i j) (S.map Prod.snd ++ lp ++ τ) && pairB (fun j i => dep ops i j || apartB ops j i) (S.map Prod.snd ++ lp) &&
  (S.map Prod.snd ++ lp).all (fun i => τ.all fun t => dep ops t i || apartB ops i t) && chain ops τ && (τ.head?.map fun t => cov ops t (S.map Prod.snd)).getD true && decide (nw S ≤ 1) &&
  injB ops S
where injB (ops : Array Oper) : List (Knd × Nat) → Bool
  | [] => true
  | (.m, j) :: l => l.all (fun p => match p.1 with | .q => dep ops p.2 j || (((ops[p.2]?).map fun o => o.op.flat).getD false) | _ => true) && injB ops l
  | _ :: l => injB ops l
theorem injB_spec {ops : Array Oper} : ∀ {S : List (Knd × Nat)}, scriptOk.injB ops S = true → S.Pairwise fun p q => p.1 = .m → q.1 = .q → dep ops q.2 p.2 = true ∨ ((ops[q.2]?).map fun o => o.op.flat) = some true
  | [], _ => List.Pairwise.nil
  | (.m, j) :: l, h => by
    simp only [scriptOk.injB, Bool.and_eq_true, List.all_eq_true] at h
    refine List.pairwise_cons.2 ⟨fun p hp _ hq => ?_, injB_spec h.2⟩
    have := h.1 p hp
    obtain ⟨k, i⟩ := p
    simp only at hq
    subst hq
    simp only [Bool.or_eq_true] at this
    refine this.imp id fun h => ?_
    cases ho : ops[i]? with
    | none => rw [ho] at h; cases h
    | some o => rw [ho] at h; simpa using h
  | (.q, j) :: l, h => List.pairwise_cons.2 ⟨fun p hp h0 => (by cases h0), injB_spec (by simpa [scriptOk.injB] using h)⟩
  | (.w, j) :: l, h => List.pairwise_cons.2 ⟨fun p hp h0 => (by cases h0), injB_spec (by simpa [scriptOk.injB] using h)⟩
theorem wp_region_script {id : Nat} {a : Act} {w : World} {l : List Oper} (S : List (Knd × Nat)) (lp τ : List Nat) (hm : P.follows .mixedOrders = true) (hB : scriptOk l.toArray S lp τ = true)
    (hCI : ∀ w, I w → C w) (hCD : ∀ w, D w → C w) (hIx : ∀ w w', I w → Ext w w' → I w') (hDx : ∀ w w', D w → Ext w w' → D w') (hI0 : nw S = 1 → I w.drew) (hD0 : nw S = 0 → D w.drew) (hn0 : n0 ≤ w.heap.size)
    (h : SW P l.toArray C n0 Mv I D Ψ (TO P l.toArray D (only Q) lp τ) S a (fun _ => True) (fun _ => False)) : (Code.region id l.toArray true).wp P Q a w := by
  simp only [scriptOk, edgB, Bool.and_eq_true] at hB
  obtain ⟨⟨⟨⟨⟨⟨⟨⟨⟨⟨b0, b0'⟩, b1⟩, b2⟩, b3⟩, b4⟩, b6⟩, b7⟩, b8⟩, b9⟩, b10⟩ := hB
  have hE : Edg l.toArray := ⟨fun j o cs b hj => Region.noSelect_spec b0 j o cs b hj, fun i o hi e he hb => by
    have hlt : i < l.toArray.size := (Array.getElem?_eq_some_iff.1 hi).1
    have := List.all_eq_true.1 b0' i (List.mem_range.2 hlt)
    simp only [hi, Option.map_some, Option.getD_some, Array.all_eq_true_iff_forall_mem, Bool.or_eq_true, Bool.not_eq_true', decide_eq_true_eq] at this
    rcases this e he with h | h
    · rw [hb] at h; cases h
    · exact h⟩
  have hall := fun i hi => List.all_eq_true.1 b2 i hi
  have hlt : ∀ i, i ∈ S.map Prod.snd ++ lp ++ τ → i < l.toArray.size := fun i hi => by
    have := hall i hi; simp only [Bool.and_eq_true, decide_eq_true_eq] at this; exact this.1
  have hirr : ∀ i, i ∈ S.map Prod.snd ++ lp ++ τ → dep l.toArray i i = false := fun i hi => by
    have := hall i hi; simp only [Bool.and_eq_true, Bool.not_eq_true'] at this; exact this.2
  have hnd : (S.map Prod.snd ++ lp ++ τ).Nodup := (pairB_spec b3).imp fun h => by simp only [Bool.and_eq_true, bne_iff_ne] at h; exact h.1
  have hfw := (pairB_spec b3).imp fun {i j} (h : (i != j && !dep l.toArray i j) = true) => (by simp only [Bool.and_eq_true, Bool.not_eq_true'] at h; exact h.2 : dep l.toArray i j = false)
  have hO : OrdS l.toArray S lp τ := ⟨hnd, hfw, hirr, hlt, (pairB_spec b4).imp fun h => by simpa using h, fun i hi t ht => by
    have := List.all_eq_true.1 (List.all_eq_true.1 b6 i hi) t ht
    simpa using this, injB_spec b10⟩
  have hmem : ∀ i, i < l.toArray.size → i ∈ S.map Prod.snd ++ lp ++ τ := fun i hi => by
    have := List.all_eq_true.1 b1 i (List.mem_range.2 hi)
    simpa using this
  have hI : Inv l.toArray (Array.replicate l.toArray.size false) (S.map Prod.snd ++ lp ++ τ) := by
    refine ⟨by simp, fun i o hi hl => ?_, fun i hi => ?_⟩
    · have hlt : i < l.toArray.size := (Array.getElem?_eq_some_iff.1 hi).1
      simp only [List.size_toArray] at hlt
      simp [hlt] at hl
    · have := hmem i hi
      simp only [List.size_toArray] at hi
      constructor
      · intro _; exact this
      · intro _; simp [hi]
  have hlen : l.toArray.size = (S.map Prod.snd ++ lp ++ τ).length := by
    have h1 : (List.range l.toArray.size).Perm (S.map Prod.snd ++ lp ++ τ) := by
      rw [List.perm_ext_iff_of_nodup List.nodup_range hnd]
      intro i
      exact ⟨fun h => hmem i (List.mem_range.1 h), fun h => List.mem_range.2 (hlt i h)⟩
    have := h1.length_eq
    rw [List.length_range] at this
    exact this
  refine wp_region_any hm (wpAny_only _ _ _ _ ?_)
  exact calmS hE hCI hCD hIx hDx (S.map Prod.snd) (fun j hj => hlt j (by simp only [List.mem_append]; exact .inl (.inl hj))) τ (fun t ht => by rw [ht] at b8; simpa using b8) l.toArray.size _ a _ (fun _ => True) (fun _ => False) S lp hI hO b7 (fun j hj => hj) hlen
    (by simpa using b9) hI0 hD0 hn0 trivial (fun _ _ _ _ => trivial) (fun _ _ _ _ => trivial) (fun _ h => h.elim) h
/-! the steps -/
def SG (P : Program) (ops : Array Oper) (C : World → Prop) (n0 : Nat) (Mv : World → World → Prop) (I D : World → Prop) (Ψ : Nat → Option ((Value → Facts) × Shp)) (T : Act → Facts → Prop) (lo : List Oper) : List (List Oper × Knd × Nat) → Act → Facts → Blks → Prop
  | [], a, F, _ => QL P ops C (fun a' => T a' F) lo a
  | (qo, .m, i) :: S, a, F, B => QL P ops C (fun a' => ∃ o, ops[i]? = some o ∧ Mk P ops C n0 Mv a' (i, fact P C n0 Mv Ψ i o a') ∧ (∀ u w, fact P C n0 Mv Ψ i o a' u w → (shpOf Ψ i o).ok u) ∧ ∀ u, (∀ b, u.blk = some b → n0 ≤ b ∧ ¬ B b) → (shpOf Ψ i o).ok u → SG P ops C n0 Mv I D Ψ T lo S (a'.put o.dst u) (fun w => F w ∧ fact P C n0 Mv Ψ i o a' u w) (fun b => B b ∨ u.blk = some b)) qo a
  | (qo, .w, i) :: S, a, F, B => QL P ops C (fun a' => WO P ops I D Mv [i] a' ∧ SG P ops C n0 Mv I D Ψ T lo S a' F B) qo a
  | (_, .q, _) :: _, _, _, _ => False
theorem QL.mono {R R' : Act → Prop} (h : ∀ a, R a → R' a) : ∀ {l : List Oper} {a : Act}, QL P ops C R l a → QL P ops C R' l a
  | [], _, hh => h _ hh
  | _ :: _, _, ⟨v, hg, hh⟩ => ⟨v, hg, QL.mono h hh⟩
theorem SG.mono {T : Act → Facts → Prop} (hT : ∀ a (F F' : Facts), (∀ w, F' w → F w) → T a F → T a F') {lo : List Oper} : ∀ {S : List (List Oper × Knd × Nat)} {a : Act} {F F' : Facts} {B : Blks}, (∀ w, F' w → F w) → SG P ops C n0 Mv I D Ψ T lo S a F B → SG P ops C n0 Mv I D Ψ T lo S a F' B
  | [], _, _, _, _, hF, h => QL.mono (fun _ h' => hT _ _ _ hF h') h
  | (_, .m, _) :: _, _, _, _, _, hF, h => QL.mono (fun _ ⟨o, ho, hk, hsh, h'⟩ => ⟨o, ho, hk, hsh, fun u hu hv => SG.mono hT (fun w hw => ⟨hF w hw.1, hw.2⟩) (h' u hu hv)⟩) h
  | (_, .w, _) :: _, _, _, _, _, hF, h => QL.mono (fun _ ⟨h0, h'⟩ => ⟨h0, SG.mono hT hF h'⟩) h
  | (_, .q, _) :: _, _, _, _, _, _, h => h.elim
def flatS (segs : List (List Nat × Knd × Nat)) (lql : List Nat) : List (Knd × Nat) := segs.flatMap (fun s => s.1.map (fun i => (Knd.q, i)) ++ [s.2]) ++ lql.map (fun i => (Knd.q, i))
theorem qs_sw {T : Act → Facts → Prop} {rest : List (Knd × Nat)} {F : Facts} {B : Blks} : ∀ {l : List Nat} {a : Act}, (∀ i, i ∈ l → i < ops.size) → QL P ops C (fun a' => SW P ops C n0 Mv I D Ψ T rest a' F B) (l.filterMap (ops[·]?)) a → SW P ops C n0 Mv I D Ψ T (l.map (fun i => (Knd.q, i)) ++ rest) a F B
  | [], _, _, h => h
  | i :: l, a, hlt, h => by
    have hi : ops[i]? = some (ops[i]'(hlt i (List.mem_cons_self ..))) := by simp [hlt i (List.mem_cons_self ..)]
    rw [List.filterMap_cons, hi] at h
    obtain ⟨v, hg, hh⟩ := h
    exact ⟨_, hi, v, hg, qs_sw (fun k hk => hlt k (List.mem_cons_of_mem _ hk)) hh⟩
theorem sg_sw {T : Act → Facts → Prop} {lql : List Nat} : ∀ {segs : List (List Nat × Knd × Nat)} {a : Act} {F : Facts} {B : Blks}, (∀ p, p ∈ flatS segs lql → p.2 < ops.size) →
    SG P ops C n0 Mv I D Ψ T (lql.filterMap (ops[·]?)) (segs.map fun s => (s.1.filterMap (ops[·]?), s.2)) a F B → SW P ops C n0 Mv I D Ψ T (flatS segs lql) a F B
  | [], a, F, B, hlt, h => by
    have := qs_sw (n0 := n0) (Mv := Mv) (I := I) (D := D) (Ψ := Ψ) (B := B) (F := F) (T := T) (rest := []) (l := lql) (fun i hi => hlt (.q, i) (by simp only [flatS, List.flatMap_nil, List.nil_append]; exact List.mem_map_of_mem hi)) h
    simpa [flatS] using this
  | (lq, .q, i) :: segs, a, F, B, hlt, h => h.elim
  | (lq, .m, i) :: segs, a, F, B, hlt, h => by
    have e : flatS ((lq, .m, i) :: segs) lql = lq.map (fun i => (Knd.q, i)) ++ ((Knd.m, i) :: flatS segs lql) := by simp [flatS]
    rw [e] at hlt ⊢
    refine qs_sw (fun k hk => hlt (.q, k) (by simp only [List.mem_append]; exact .inl (List.mem_map_of_mem hk))) (QL.mono ?_ h)
    rintro a' ⟨o, ho, hk, hsh, h'⟩
    exact ⟨o, ho, hk, hsh, fun u hu hv => sg_sw (fun p hp => hlt p (by simp [hp])) (h' u hu hv)⟩
  | (lq, .w, i) :: segs, a, F, B, hlt, h => by
    have e : flatS ((lq, .w, i) :: segs) lql = lq.map (fun i => (Knd.q, i)) ++ ((Knd.w, i) :: flatS segs lql) := by simp [flatS]
    rw [e] at hlt ⊢
    refine qs_sw (fun k hk => hlt (.q, k) (by simp only [List.mem_append]; exact .inl (List.mem_map_of_mem hk))) (QL.mono ?_ h)
    rintro a' ⟨h0, h'⟩
    exact ⟨h0, sg_sw (fun p hp => hlt p (by simp [hp])) h'⟩
/-- THE RULE: 'segs' are the quiet ones ahead of each maker (or the writer), 'lql' the quiet ones behind, 'lp' the late pure ones, 'τ' the tail -/
theorem wp_region_segs {id : Nat} {a : Act} {w : World} {l : List Oper} (Ψ : Nat → Option ((Value → Facts) × Shp)) (segs : List (List Nat × Knd × Nat)) (lql lp τ : List Nat) {so : List (List Oper × Knd × Nat)} {qo po lo : List Oper} (hm : P.follows .mixedOrders = true) (hB : scriptOk l.toArray (flatS segs lql) lp τ = true)
    (hs : (segs.map fun s => (s.1.filterMap (l.toArray[·]?), s.2)) = so) (hq : lql.filterMap (l.toArray[·]?) = qo) (hp : lp.filterMap (l.toArray[·]?) = po) (hl : τ.filterMap (l.toArray[·]?) = lo) (hnw : nw (flatS segs lql) = 0)
    (h : SG P l.toArray (fun w' => ∃ d, w' = w.ext d) w.heap.size NoMv (fun _ => False) (fun w' => ∃ d, w' = w.ext d) Ψ (fun a F => PL P l.toArray (fun a3 => ∀ w', Ext w w' → F w' → wpList P l.toArray (only Q) lo a3 w') po a) qo so a (fun _ => True) (fun _ => False)) : (Code.region id l.toArray true).wp P Q a w := by
  have hlt : ∀ i, i ∈ (flatS segs lql).map Prod.snd ++ lp ++ τ → i < l.toArray.size := fun i hi => by
    simp only [scriptOk, Bool.and_eq_true] at hB
    obtain ⟨⟨⟨⟨⟨⟨⟨⟨_, b2⟩, _⟩, _⟩, _⟩, _⟩, _⟩, _⟩, _⟩ := hB
    have := List.all_eq_true.1 b2 i hi; simp only [Bool.and_eq_true, decide_eq_true_eq] at this; exact this.1
  refine wp_region_script (I := fun _ => False) (D := fun w' => ∃ d, w' = w.ext d) (C := fun w' => ∃ d, w' = w.ext d) (n0 := w.heap.size) (Mv := NoMv) (Ψ := Ψ) (flatS segs lql) lp τ hm hB (fun _ h => h.elim) (fun _ h => h) (fun _ _ h => h.elim) (fun a b h h' => Ext.trans h h') (fun h => by omega) (fun _ => ⟨w.grow1, World.drew_is_ext w⟩) (Nat.le_refl _) ?_
  subst hs hq hp hl
  have hτ : τ.map (l.toArray[·]?) = (τ.filterMap (l.toArray[·]?)).map some := by
    have : ∀ τ : List Nat, (∀ i, i ∈ τ → i < l.toArray.size) → τ.map (l.toArray[·]?) = (τ.filterMap (l.toArray[·]?)).map some := by
      intro τ
      induction τ with
      | nil => intro _; rfl
      | cons i τ ih =>
        intro hlt
        have hi : l.toArray[i]? = some (l.toArray[i]'(hlt i (List.mem_cons_self ..))) := Array.getElem?_eq_getElem _
        rw [List.map_cons, List.filterMap_cons, hi, ih (fun k hk => hlt k (List.mem_cons_of_mem _ hk))]
        rfl
    exact this τ (fun i hi => hlt i (by simp [hi]))
  have key : ∀ (S : List (Knd × Nat)) (a : Act) (F : Facts) (B : Blks), SW P l.toArray (fun w' => ∃ d, w' = w.ext d) w.heap.size NoMv (fun _ => False) (fun w' => ∃ d, w' = w.ext d) Ψ (fun a F => PL P l.toArray (fun a3 => ∀ w', Ext w w' → F w' → wpList P l.toArray (only Q) (τ.filterMap (l.toArray[·]?)) a3 w') (lp.filterMap (l.toArray[·]?)) a) S a F B →
      SW P l.toArray (fun w' => ∃ d, w' = w.ext d) w.heap.size NoMv (fun _ => False) (fun w' => ∃ d, w' = w.ext d) Ψ (TO P l.toArray (fun w' => ∃ d, w' = w.ext d) (only Q) lp τ) S a F B := by
    intro S
    induction S with
    | nil => intro a F B h; exact PW.mono (fun a3 h3 w' hw hF => wpOps_list hτ (h3 w' hw hF)) (pl_pw (fun i hi => hlt i (by simp [hi])) h)
    | cons p S ih =>
      intro a F B h
      obtain ⟨k, i⟩ := p
      cases k with
      | q => obtain ⟨o, ho, v, hg, h⟩ := h; exact ⟨o, ho, v, hg, ih _ _ _ h⟩
      | m => obtain ⟨o, ho, hk, hsh, h⟩ := h; exact ⟨o, ho, hk, hsh, fun u hu hv => ih _ _ _ (h u hu hv)⟩
      | w => exact ⟨h.1, ih _ _ _ h.2⟩
  exact key _ _ _ _ (sg_sw (fun p hp => hlt p.2 (by simp only [List.mem_append]; exact .inl (.inl (List.mem_map_of_mem hp)))) h)
theorem made_use {s : Sem Next} {Φ : Value → Facts} (hst : Stable Φ) (hsm : StableM n0 Mv Φ) (hrun : ∀ w, C w → ∃ u w', s.run P w = .ok (.value u) w' ∧ Φ u w') {u : Value} {w : World} (h : Made P C n0 Mv s u w) : Φ u w := h Φ hst hsm hrun
theorem made_mk {a : Act} {i : Nat} {o : Oper} (ho : ops[i]? = some o) (hw : Region.wanted o (yielded ops a.tmps) = true)
    (hrun : ∀ w, C w → ∃ u w', (execOp a.eval o).run P w = .ok (.value u) w' ∧ Ext w w' ∧ ∀ b, u.blk = some b → w.heap.size ≤ b ∧ b < w'.heap.size) : Mk P ops C n0 Mv a (i, Made P C n0 Mv (execOp a.eval o)) := by
  refine ⟨o, ho, hw, fun u w w' h he Φ h1 h2 h3 => h1 _ _ _ (h Φ h1 h2 h3) he, fun u w w' h hb hm Φ h1 h2 h3 => h2 _ _ _ (h Φ h1 h2 h3) hb hm, fun w hC => ?_⟩
  obtain ⟨u, w', hr, he, hb⟩ := hrun w hC
  rw [hr]
  refine ⟨he, fun Φ h1 h2 h3 => ?_, hb⟩
  obtain ⟨u', w'', hr', hΦ⟩ := h3 w hC
  rw [hr] at hr'
  simp only [Result.ok.injEq, Next.value.injEq] at hr'
  obtain ⟨rfl, rfl⟩ := hr'
  exact hΦ
section
variable {w0 : World} {lo po τo qo : List Oper} {S : List (List Oper × Knd × Nat)} {Dt : World → Prop}
abbrev TT (P : Program) (ops : Array Oper) (w0 : World) (Q : Exit → Act → World → Prop) (lo po : List Oper) : Act → Facts → Prop := fun a F => PL P ops (fun a3 => ∀ w', Ext w0 w' → F w' → wpList P ops (only Q) lo a3 w') po a
theorem TT.anti (a : Act) (F F' : Facts) (hF : ∀ w, F' w → F w) (h : TT P ops w0 Q lo po a F) : TT P ops w0 Q lo po a F' := PL.mono (fun _ h3 w' hw hF' => h3 w' hw (hF w' hF')) h
theorem sg_last {T : Act → Facts → Prop} {lo : List Oper} {a : Act} {F : Facts} {B : Blks} (h : QL P ops C (fun a' => T a' F) lo a) : SG P ops C n0 Mv I D Ψ T lo [] a F B := h
theorem sg_m {T : Act → Facts → Prop} {lo qo : List Oper} {i : Nat} {S : List (List Oper × Knd × Nat)} {a : Act} {F : Facts} {B : Blks} (h : QL P ops C (fun a' => ∃ o, ops[i]? = some o ∧ Mk P ops C n0 Mv a' (i, fact P C n0 Mv Ψ i o a') ∧ (∀ u w, fact P C n0 Mv Ψ i o a' u w → (shpOf Ψ i o).ok u) ∧ ∀ u, (∀ b, u.blk = some b → n0 ≤ b ∧ ¬ B b) → (shpOf Ψ i o).ok u → SG P ops C n0 Mv I D Ψ T lo S (a'.put o.dst u) (fun w => F w ∧ fact P C n0 Mv Ψ i o a' u w) (fun b => B b ∨ u.blk = some b)) qo a) : SG P ops C n0 Mv I D Ψ T lo ((qo, .m, i) :: S) a F B := h
/-- a maker of a slice over a new block -/
theorem sg_sl {a : Act} {F : Facts} {B : Blks} {i : Nat} {o : Oper} (O : Obj) (n : Nat) (hΨ : Ψ i = none) (ho : ops[i]? = some o) (hso : o.shp0 = .sl n n) (hw : Region.wanted o (yielded ops a.tmps) = true)
    (hrun : ∀ d, (execOp a.eval o).run P (w0.ext d) = .ok (.value (.slice (some ⟨(w0.ext d).heap.size, 0, .none⟩) n n)) ((w0.ext d).alloc O))
    (h : ∀ b, n0 ≤ b → ¬ B b → ∀ K : Act → Prop, (∀ a, SG P ops (fun w' => ∃ d, w' = w0.ext d) n0 NoMv (fun _ => False) (fun w' => ∃ d, w' = w0.ext d) Ψ (TT P ops w0 Q lo po) qo S a (fun w => F w ∧ w.heap[b]? = some O) (fun b' => B b' ∨ b = b') → K a) → K (a.put o.dst (.slice (some ⟨b, 0, .none⟩) n n))) :
    ∃ o, ops[i]? = some o ∧ Mk P ops (fun w' => ∃ d, w' = w0.ext d) n0 NoMv a (i, fact P (fun w' => ∃ d, w' = w0.ext d) n0 NoMv Ψ i o a) ∧ (∀ u w, fact P (fun w' => ∃ d, w' = w0.ext d) n0 NoMv Ψ i o a u w → (shpOf Ψ i o).ok u) ∧ ∀ u, (∀ b, u.blk = some b → n0 ≤ b ∧ ¬ B b) → (shpOf Ψ i o).ok u → SG P ops (fun w' => ∃ d, w' = w0.ext d) n0 NoMv (fun _ => False) (fun w' => ∃ d, w' = w0.ext d) Ψ (TT P ops w0 Q lo po) qo S (a.put o.dst u) (fun w => F w ∧ fact P (fun w' => ∃ d, w' = w0.ext d) n0 NoMv Ψ i o a u w) (fun b => B b ∨ u.blk = some b) := by
  have hf : fact P (fun w' => ∃ d, w' = w0.ext d) n0 NoMv Ψ i o a = Made P (fun w' => ∃ d, w' = w0.ext d) n0 NoMv (execOp a.eval o) := by unfold fact; rw [hΨ]
  have hss : shpOf Ψ i o = o.shp0 := by unfold shpOf; rw [hΨ]
  refine ⟨o, ho, ?_, ?_, fun u hu hv => ?_⟩
  · rw [hf]
    refine made_mk ho hw ?_
    rintro w ⟨d, rfl⟩
    refine ⟨_, _, hrun d, Ext.alloc (Ext.refl _) O, fun b hb => ?_⟩
    simp only [Value.blk, Option.some.injEq] at hb
    subst hb
    rw [World.size_alloc]; omega
  · rw [hf, hss, hso]
    intro u w hu
    obtain ⟨b, hb, _⟩ := made_use (stable_sl O n) stableM_none (fun w ⟨d, hd⟩ => by subst hd; exact ⟨_, _, hrun d, ⟨_, rfl, heap_alloc_new _ _⟩⟩) hu
    exact ⟨b, hb⟩
  · rw [hf]
    rw [hss, hso] at hv
    obtain ⟨b, rfl⟩ := hv
    have hb := hu b rfl
    have := h b hb.1 hb.2 _ fun _ h => h
    have e : (fun b' => B b' ∨ (Value.slice (some ⟨b, 0, .none⟩) n n).blk = some b') = (fun b' => B b' ∨ b = b') := by funext b'; simp [Value.blk]
    rw [e]
    refine SG.mono (fun a F F' => TT.anti a F F') (fun w hw => ⟨hw.1, ?_⟩) this
    obtain ⟨b', hb', hh⟩ := made_use (stable_sl O n) stableM_none (fun w ⟨d, hd⟩ => by subst hd; exact ⟨_, _, hrun d, ⟨_, rfl, heap_alloc_new _ _⟩⟩) hw.2
    simp only [Value.slice.injEq, Value.pointer.injEq, Option.some.injEq, Addr.mk.injEq, and_true] at hb'
    subst hb'
    exact hh
/-- a maker of a pointer to a new block -/
theorem sg_ptr {a : Act} {F : Facts} {B : Blks} {i : Nat} {o : Oper} (O : Obj) (hΨ : Ψ i = none) (ho : ops[i]? = some o) (hso : o.shp0 = .ptr) (hw : Region.wanted o (yielded ops a.tmps) = true)
    (hrun : ∀ d, (execOp a.eval o).run P (w0.ext d) = .ok (.value (.pointer (some ⟨(w0.ext d).heap.size, 0, .none⟩))) ((w0.ext d).alloc O))
    (h : ∀ b, n0 ≤ b → ¬ B b → ∀ K : Act → Prop, (∀ a, SG P ops (fun w' => ∃ d, w' = w0.ext d) n0 NoMv (fun _ => False) (fun w' => ∃ d, w' = w0.ext d) Ψ (TT P ops w0 Q lo po) qo S a (fun w => F w ∧ w.heap[b]? = some O) (fun b' => B b' ∨ b = b') → K a) → K (a.put o.dst (.pointer (some ⟨b, 0, .none⟩)))) :
    ∃ o, ops[i]? = some o ∧ Mk P ops (fun w' => ∃ d, w' = w0.ext d) n0 NoMv a (i, fact P (fun w' => ∃ d, w' = w0.ext d) n0 NoMv Ψ i o a) ∧ (∀ u w, fact P (fun w' => ∃ d, w' = w0.ext d) n0 NoMv Ψ i o a u w → (shpOf Ψ i o).ok u) ∧ ∀ u, (∀ b, u.blk = some b → n0 ≤ b ∧ ¬ B b) → (shpOf Ψ i o).ok u → SG P ops (fun w' => ∃ d, w' = w0.ext d) n0 NoMv (fun _ => False) (fun w' => ∃ d, w' = w0.ext d) Ψ (TT P ops w0 Q lo po) qo S (a.put o.dst u) (fun w => F w ∧ fact P (fun w' => ∃ d, w' = w0.ext d) n0 NoMv Ψ i o a u w) (fun b => B b ∨ u.blk = some b) := by
  have hf : fact P (fun w' => ∃ d, w' = w0.ext d) n0 NoMv Ψ i o a = Made P (fun w' => ∃ d, w' = w0.ext d) n0 NoMv (execOp a.eval o) := by unfold fact; rw [hΨ]
  have hss : shpOf Ψ i o = o.shp0 := by unfold shpOf; rw [hΨ]
  refine ⟨o, ho, ?_, ?_, fun u hu hv => ?_⟩
  · rw [hf]
    refine made_mk ho hw ?_
    rintro w ⟨d, rfl⟩
    refine ⟨_, _, hrun d, Ext.alloc (Ext.refl _) O, fun b hb => ?_⟩
    simp only [Value.blk, Option.some.injEq] at hb
    subst hb
    rw [World.size_alloc]; omega
  · rw [hf, hss, hso]
    intro u w hu
    obtain ⟨b, hb, _⟩ := made_use (stable_ptr O) stableM_none (fun w ⟨d, hd⟩ => by subst hd; exact ⟨_, _, hrun d, ⟨_, rfl, heap_alloc_new _ _⟩⟩) hu
    exact ⟨b, hb⟩
  · rw [hf]
    rw [hss, hso] at hv
    obtain ⟨b, rfl⟩ := hv
    have hb := hu b rfl
    have := h b hb.1 hb.2 _ fun _ h => h
    have e : (fun b' => B b' ∨ (Value.pointer (some ⟨b, 0, .none⟩)).blk = some b') = (fun b' => B b' ∨ b = b') := by funext b'; simp [Value.blk]
    rw [e]
    refine SG.mono (fun a F F' => TT.anti a F F') (fun w hw => ⟨hw.1, ?_⟩) this
    obtain ⟨b', hb', hh⟩ := made_use (stable_ptr O) stableM_none (fun w ⟨d, hd⟩ => by subst hd; exact ⟨_, _, hrun d, ⟨_, rfl, heap_alloc_new _ _⟩⟩) hw.2
    simp only [Value.slice.injEq, Value.pointer.injEq, Option.some.injEq, Addr.mk.injEq, and_true] at hb'
    subst hb'
    exact hh
/-- a call that hands back something new; its fact stands in Ψ -/
theorem sg_call {Sg : List (List Oper × Knd × Nat)} {a : Act} {F : Facts} {B : Blks} {i : Nat} {o : Oper} {f : FuncId} {fn : Func} {xs : List Operand} {args : List Value} {ats : Array TypeId} (Φ : Value → Facts) (S : Shp) (hΨ : Ψ i = some (Φ, S)) (hso : ∀ u w, Φ u w → S.ok u) (hst : Stable Φ)
    (hc : ∀ d, Calls P f args.toArray (w0.ext d) fun e w' => ∃ u, e = .returned u ∧ Ext (w0.ext d) w' ∧ Φ u w' ∧ ∀ b, u.blk = some b → (w0.ext d).heap.size ≤ b ∧ b < w'.heap.size)
    (ho : ops[i]? = some o) (hop : o.op = .call { callee := .value (.func f), args := xs.toArray, argTypes := ats }) (hargs : xs.map a.eval = args)
    (hf : P.funcs[f]? = some fn) (hb : fn.body.isNone = false) (hn : (fn.name == "runtime.NumGoroutine") = false) (hw : Region.wanted o (yielded ops a.tmps) = true)
    (h : ∀ u, (∀ b, u.blk = some b → n0 ≤ b ∧ ¬ B b) → S.ok u → ∀ K : Act → Prop, (∀ a, SG P ops (fun w' => ∃ d, w' = w0.ext d) n0 NoMv (fun _ => False) (fun w' => ∃ d, w' = w0.ext d) Ψ (TT P ops w0 Q lo po) qo Sg a (fun w => F w ∧ Φ u w) (fun b => B b ∨ u.blk = some b) → K a) → K (a.put o.dst u)) :
    ∃ o, ops[i]? = some o ∧ Mk P ops (fun w' => ∃ d, w' = w0.ext d) n0 NoMv a (i, fact P (fun w' => ∃ d, w' = w0.ext d) n0 NoMv Ψ i o a) ∧ (∀ u w, fact P (fun w' => ∃ d, w' = w0.ext d) n0 NoMv Ψ i o a u w → (shpOf Ψ i o).ok u) ∧ ∀ u, (∀ b, u.blk = some b → n0 ≤ b ∧ ¬ B b) → (shpOf Ψ i o).ok u → SG P ops (fun w' => ∃ d, w' = w0.ext d) n0 NoMv (fun _ => False) (fun w' => ∃ d, w' = w0.ext d) Ψ (TT P ops w0 Q lo po) qo Sg (a.put o.dst u) (fun w => F w ∧ fact P (fun w' => ∃ d, w' = w0.ext d) n0 NoMv Ψ i o a u w) (fun b => B b ∨ u.blk = some b) := by
  have hfa : fact P (fun w' => ∃ d, w' = w0.ext d) n0 NoMv Ψ i o a = Φ := by unfold fact; rw [hΨ]
  have hss : shpOf Ψ i o = S := by unfold shpOf; rw [hΨ]
  refine ⟨o, ho, ?_, ?_, fun u hu hv => ?_⟩
  · rw [hfa]; exact mk_call hst hc ho hop hargs hf hb hn hw
  · rw [hfa, hss]; exact hso
  · rw [hfa]
    rw [hss] at hv
    exact h u hu hv _ fun _ h => h
end
end
/-- append onto a row of the call's own -/
theorem wpList_append_row {P : Program} (w : World) {ops : Array Oper} {rest : List Oper} {o : Oper} {a : Act} {Q : Exit → Act → World → Prop} (s x : Operand) (t : TypeId)
    (e : TypeId) (z : Value) (size bytes : Nat) (hinfo : (P.info? e).map (fun i => (i.zero, i.size, i.bytes)) = some (some z, size, bytes)) (ht : P.underlying t = some (.slice e)) (hzs : z.cells.size = size) (hsz : 0 < size)
    (base : Nat) (v : Value) (n : Nat) (xs : List Value) (hown : w.ownsRow base e size v n xs)
    (ad : Addr) (m c : Nat) (news : List Value) (hm : 0 < m) (hl : news.length = m * size) (hnews : ∀ j u, news[j]? = some u → w.cell? (ad.add j) = some u) (h1 : ∀ u ∈ news, u.oneCell' = true)
    (h63 : n + m ≤ maxLen) (hbytes : (n + m) * bytes ≤ 140737488355328) (hbase : base ≤ w.heap.size)
    (hgd : o.guard = none) (ho : o.op = .call { callee := .builtin .append, args := #[s, x], argTypes := #[t, t] }) (hs : a.eval s = v) (hx : a.eval x = .slice (some ad) m c)
    (h : ∀ g c' w', w'.ownsRow base e size (.slice (some ⟨g, 0, none⟩) (n + m) c') (n + m) (xs ++ news) → w.grownBy w' v.ownBlock → wpList P ops Q rest (a.put o.dst (.slice (some ⟨g, 0, none⟩) (n + m) c')) w') : wpList P ops Q (o :: rest) a w := by
  obtain ⟨i, hi, hz, hi1, hi2⟩ := info_parts hinfo
  refine wpList_append_own (w := w) hgd s x t ho base e i z size bytes ht hi hz hi1 hi2 hzs hsz v n xs hs hown ad m c news hx hl hnews h1 h63 hbytes hbase ?_
  intro v' w' hown' hg hnil
  rcases hown'.2 with ⟨_, h0⟩ | ⟨g, cap, cur, rfl, _⟩
  · omega
  · exact h g cap w' hown' hg
end Go
