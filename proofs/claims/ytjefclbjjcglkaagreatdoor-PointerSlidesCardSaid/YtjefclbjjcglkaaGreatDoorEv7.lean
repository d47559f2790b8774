/- The evaluator: rows made, stores, append, copy, clear. -/
import Derived.Test.YtjefclbjjcglkaaGreatDoorEv6
set_option linter.unusedVariables false
set_option linter.unusedSimpArgs false
namespace Go.Ev
open Go
variable {R : Type} {P : Program} {E : Env} {tm : TM} {h : H} {K : AV → H → Option R} {r : R} {o : Oper}
theorem repL_spec {α : Type} (z : List α) : ∀ n, (repL n z).length = n * z.length ∧ ∀ i, i < n * z.length → (repL n z)[i]? = z[i % z.length]?
  | 0 => ⟨by simp [repL], fun i hi => by omega⟩
  | n + 1 => by
    obtain ⟨h1, h2⟩ := repL_spec z n
    refine ⟨by simp [repL, h1, Nat.add_mul, Nat.add_comm], fun i hi => ?_⟩
    show (z ++ repL n z)[i]? = _
    by_cases hlt : i < z.length
    · rw [List.getElem?_append_left hlt, Nat.mod_eq_of_lt hlt]
    · rw [List.getElem?_append_right (by omega), h2 _ (by rw [Nat.succ_mul] at hi; omega)]
      congr 1
      exact (Nat.mod_eq_sub_mod (by omega)).symm
theorem rep_A2 {φ : Ph} {z : List CV} {zc : Array Value} (hz : A2 (CR φ) z zc.toList) (n m : Nat) (hm : m = n * z.length) : A2 (CR φ) (repL n z) ((Array.range m).map fun i => zc[i % zc.size]!).toList := by
  obtain ⟨h1, h2⟩ := repL_spec z n
  have hl := hz.len
  simp only [Array.length_toList] at hl
  refine A2.of_get (by simp [h1, hm]) fun i a b ha hb => ?_
  have hi : i < n * z.length := by rw [← h1]; exact (List.getElem?_eq_some_iff.1 ha).1
  rw [h2 i hi] at ha
  obtain ⟨v, e, q⟩ := hz.get ha
  have : b = v := by
    simp only [Array.toList_map, List.getElem?_map, Array.getElem?_toList, Array.getElem?_range, Option.map_eq_some_iff] at hb
    obtain ⟨j, hj, rfl⟩ := hb
    split at hj
    · cases hj
      rw [Array.getElem?_toList] at e
      rw [← hl]
      simp [getElem!_def, e]
    · cases hj
  subst this; exact q
theorem elemK_spec {t : TypeId} {K : TI → Option R} {r : R} (hE : EOk P E) (h1 : elemK E t K = some r) : ∃ e te, P.underlying t = some (.slice e) ∧ T.get E.ty e = some te ∧ K te = some r := by
  obtain ⟨ti, ht, h1⟩ := ob_some h1
  obtain ⟨d, ud, kd⟩ := (hE.ty _ _ ht).und
  cases hq : ti.d with
  | slice e =>
    rw [hq] at h1 kd
    cases kd
    obtain ⟨te, hte, h1⟩ := ob_some (show ob (T.get E.ty e) K = some r from h1)
    exact ⟨e, te, ud, hte, h1⟩
  | _ => rw [hq] at h1; cases h1
theorem buildSlice_s (hE : EOk P E) {t : TypeId} {len : Nat} {parts : Array (Nat × Operand)} (ho : o.op = .buildSlice t len parts) (h1 : oBuildSlice E tm t len parts.toList h K = some r) : ∃ v h' ob, K v h' = some r ∧ h'.nx = h.nx + 1 ∧ h'.t.get = GM.set h.t.get h.nx (some ob) ∧ OpA P o tm v h.nx ob := by
  obtain ⟨ps, h1, hps⟩ := partsK_spec (K := fun ps => elemK E t fun e => _) h1
  obtain ⟨e, te, ud, hte, h1⟩ := elemK_spec hE h1
  obtain ⟨hb, h1⟩ := bf_some h1
  rw [repK_eq] at h1
  obtain ⟨l', h1, hfl⟩ := fillK_spec (place := fun i => some (i * te.sz, te.sz)) (fun i x hx => hx) h1
  obtain ⟨h', h2, h3, h4⟩ := hnew_spec h1
  have hT := hE.ty _ _ hte
  obtain ⟨z, hz, hzs, hzc, _⟩ := hT.zero
  have hzl : te.z.length = te.sz := by obtain ⟨i, z', _, _, _, _, q, _⟩ := hT.info; exact q
  have hbb : len * te.sz ≤ 16777216 := Nat.le_of_ble_eq_true hb
  refine ⟨_, h', _, h2, h3, h4, .mk fun φ a hg hn => ?_⟩
  have hpo : A2 (fun (p : Nat × List CV) (u : Nat × Value) => p.1 = u.1 ∧ A2 (CR φ) p.2 u.2.cells.toList ∧ u.2.cells.size = p.2.length) ps (parts.map fun (i, x) => (i, a.eval x)).toList := by
    have := hps φ a hg (hn.sub (by rw [ho]; simp [Op.operands]))
    simpa using this
  have hzz : A2 (CR φ) (repL len te.z) ((Array.range (len * te.sz)).map fun i => (if len * te.sz = 0 then #[] else z.cells)[i % (if len * te.sz = 0 then #[] else z.cells).size]!).toList := by
    by_cases h0 : len * te.sz = 0
    · have : repL len te.z = [] := List.eq_nil_of_length_eq_zero (by rw [(repL_spec te.z len).1, hzl, h0])
      rw [this, h0]
      simp
      exact .nil
    · rw [if_neg h0]
      exact rep_A2 (hzc φ) len _ (by rw [hzl])
  obtain ⟨cs', hc1, hc2, hc3⟩ := hfl φ _ _ hzz hpo
  refine ⟨cs'.toList, e, hc2, fun w => ⟨.slice (some ⟨w.heap.size, 0, none⟩) len len, ?_, fun ψ hψ => ⟨_, _, _, len, hψ, rfl, Nat.le_refl _, fun _ => rfl, ?_⟩⟩⟩
  · unfold execOp
    simp only [ho]
    refine run_v ?_
    unfold Instr.buildSlice
    rw [Sem.run_bind, run_underlying ud, Result.andThen_ok]
    simp only [Sem.run_bind, hT.size, Result.andThen_ok]
    rw [if_neg (by omega)]
    by_cases h0 : len * te.sz = 0
    · rw [if_pos h0] at hc1 ⊢
      simp only [Sem.run_pure, Result.andThen_ok] at hc1 ⊢
      simp only [hc1, newRow, Sem.run_bind, run_newObj_alloc, Result.andThen_ok, Sem.run_pure]
    · rw [if_neg h0] at hc1 ⊢
      simp only [Sem.run_bind, hz, Sem.run_pure, Result.andThen_ok] at hc1 ⊢
      simp only [hc1, newRow, Sem.run_bind, run_newObj_alloc, Result.andThen_ok, Sem.run_pure]
  · rw [← hc2.len, hc3, (repL_spec te.z len).1, hzl]; omega
theorem makeMap_s {t : TypeId} {q : Option Operand} (ho : o.op = .makeMap t q) (h1 : oMakeMap q h K = some r) : ∃ v h' ob, K v h' = some r ∧ h'.nx = h.nx + 1 ∧ h'.t.get = GM.set h.t.get h.nx (some ob) ∧ OpA P o tm v h.nx ob := by
  cases q with
  | some q => cases h1
  | none =>
    obtain ⟨h', h2, h3, h4⟩ := hnew_spec (K := fun n h => K (.c (.mp n)) h) h1
    refine ⟨_, h', _, h2, h3, h4, ⟨rfl, rfl⟩, fun g B φ a w hw hg hn hf => ?_⟩
    have hfn := hf _ rfl
    refine ⟨.value (.map (some w.heap.size)), w.alloc (.map #[] 0), ?_, φ.put h.nx (w.heap.size, 0, 0), Ph.le_put hfn.1, ?_, hw.alloc hfn (fun l hl => by cases hl) (.inl rfl) ?_, ?_⟩
    · unfold execOp
      simp only [ho]
      refine run_v ?_
      simp only [Option.map_none, Instr.makeMap, Sem.run_bind, Sem.run_pure, Result.andThen_ok, run_newObj_alloc]
    · intro m hm
      exact ⟨by show (if m = h.nx then _ else _) = _; rw [if_neg hm], rfl⟩
    · exact ⟨_, _, _, #[], by simp [Ph.put]; exact ⟨rfl, rfl, rfl⟩, by show (w.heap.push _)[_]? = _; simp, .nil⟩
    · exact ⟨w.heap.size, 0, 0, by simp [Ph.put], rfl⟩
theorem func_s {f : Fn} {first caps : Array Operand} (ho : o.op = .makeFunc f first caps) (h1 : oFunc tm f first.toList caps.toList h K = some r) : ∃ v h' N, K v h' = some r ∧ h.nx ≤ h'.nx ∧ (∀ m, N m → h.nx ≤ m ∧ m < h'.nx) ∧ OpS P o tm h.t.get v h'.t.get N := by
  cases f with
  | func f =>
    have hexec : ∀ (a : Act) w, first.toList = [] → (execOp a.eval o).run P w = .ok (.value (.func (.func f) #[] (caps.map a.eval))) w := by
      intro a w hf
      unfold execOp
      simp only [ho]
      refine run_v ?_
      have : first = #[] := by rw [← Array.toArray_toList (xs := first), hf]
      rw [this]; simp [Instr.makeFunc]
    cases hfl : first.toList with
    | cons => rw [hfl] at h1; cases h1
    | nil =>
      cases hc : caps.toList with
      | nil =>
        rw [hfl, hc] at h1
        refine ⟨_, h, No, h1, Nat.le_refl _, fun m hm => hm.elim, fun B φ a w hw hg hn hf => ⟨_, _, hexec a w hfl, φ, .refl φ, fun m hm => ⟨rfl, rfl⟩, hw, ?_⟩⟩
        have : caps = #[] := by rw [← Array.toArray_toList (xs := caps), hc]
        rw [this]; simp [AR, CR]
      | cons x xs =>
        rw [hfl, hc] at h1
        obtain ⟨l, h1, hl⟩ := evsS_spec (l := x :: xs) (K := fun l => hnew h (.caps l) fun n h => fN (Nat.succ n) fun n => K (.c (.fn f n)) h) h1
        obtain ⟨h', h2, h3, h4⟩ := hnew_spec h1
        rw [fN_eq] at h2
        refine ⟨_, h', (· = h.nx), h2, by omega, fun m hm => by cases hm; omega, fun B φ a w hw hg hn hf => ?_⟩
        have hfn := hf _ rfl
        have hll := hl φ a hg (hn.sub (by rw [ho, ← hc]; simp only [Op.operands, Array.toList_append, List.mem_append]; exact fun _ h => .inr h))
        rw [← hc] at hll
        refine ⟨_, _, hexec a w hfl, φ.putC h.nx (caps.map a.eval), Ph.le_putC hfn.2, ?_, ?_, ?_⟩
        · intro m hm
          exact ⟨rfl, by show (if m = h.nx then _ else _) = _; rw [if_neg hm]⟩
        · rw [h4]; exact hw.newCaps hfn (by simpa using hll)
        · exact ⟨_, by simp [Ph.putC], rfl⟩
  | _ => cases h1
/-- an operation that turns the heap -/
theorem store_s (hE : EOk P E) {t : TypeId} {x y : Operand} (ho : o.op = .store t x y) (h1 : oStore E tm t x y h K = some r) : ∃ v h', K v h' = some r ∧ h'.nx = h.nx ∧ OpS P o tm h.t.get v h'.t.get No := by
  obtain ⟨c, h1, hx⟩ := evC_spec (K := fun a => withPtr a fun n off => evK tm y fun v => _) h1
  obtain ⟨n, off, rfl, h1⟩ := withPtr_spec h1
  obtain ⟨v, h1, hy⟩ := evK_spec h1
  obtain ⟨l, h1, hl⟩ := flat_spec h1
  obtain ⟨ti, ht, h1⟩ := ob_some h1
  obtain ⟨hb, h1⟩ := bf_some h1
  obtain ⟨h', h2, h3, h4⟩ := write_run (P := P) h1
  refine ⟨_, h', h2, h3, fun B φ a w hw hg hn hf => ?_⟩
  obtain ⟨b, f, S, q, e⟩ := hx φ a hg (hn.sub (by rw [ho]; simp [Op.operands]))
  obtain ⟨q1, q2, q3⟩ := hl φ _ (hy φ a hg (hn.sub (by rw [ho]; simp [Op.operands])))
  obtain ⟨w', h5, h6⟩ := h4 B φ w hw _ q1 b f S q
  refine ⟨.skip, w', ?_, φ, .refl φ, fun m hm => ⟨rfl, rfl⟩, h6, rfl⟩
  unfold execOp
  simp only [ho, e]
  refine run_u ?_
  simp only [Instr.storeAt, Instr.sureAddr, Sem.run_bind, Sem.run_pure, Result.andThen_ok]
  unfold storeVar
  rw [Sem.run_bind, (hE.ty _ _ ht).size, Result.andThen_ok, if_neg]
  · simp only [Sem.run_bind, Sem.run_pure, Result.andThen_ok]
    exact h5
  · have : lenN l = ti.sz := Nat.eq_of_beq_eq_true hb
    rw [lenN_eq] at this
    rw [q2]; omega
/-! ### append -/
theorem roomOk_spec {n b : Nat} (h : roomOk n b = true) : n ≤ 1048576 ∧ b ≤ 1048576 := by
  unfold roomOk at h
  cases q : Nat.ble n 1048576 with
  | false => rw [q] at h; cases h
  | true => rw [q, bf_true] at h; exact ⟨Nat.le_of_ble_eq_true q, Nat.le_of_ble_eq_true h⟩
/-- what is appended, or copied -/
theorem firstK_spec {sz : Nat} {x : CV} {K : Nat → List CV → Option R} {r : R} (h1 : firstK h sz x K = some r) : ∃ m xs, K m xs = some r ∧ ∀ B φ w v, HR B φ h.t.get w → CR φ x v → ∃ us, A2 (CR φ) xs us ∧ us.length = m * sz ∧ (∃ a c, v = .slice a m c) ∧ ∀ k, k ≤ m → ∀ w' : World, (∀ b : Nat, w'.heap[b]? = w.heap[b]?) → (Builtin.firstCells sz k v).run P w' = .ok (us.take (k * sz)).toArray w' := by
  cases x with
  | nils => exact ⟨0, [], h1, fun B φ w v hw hv => ⟨[], .nil, by simp, ⟨none, 0, hv⟩, fun k hk w' _ => by cases hv; simp [Builtin.firstCells]⟩⟩
  | emp =>
    refine ⟨0, [], h1, fun B φ w v hw hv => ⟨[], .nil, by simp, hv, fun k hk w' _ => ?_⟩⟩
    obtain rfl : k = 0 := by omega
    obtain ⟨a, c, rfl⟩ := hv
    cases a with
    | none => simp [Builtin.firstCells]
    | some a => simp [Builtin.firstCells, loadCells, loadCellsFrom]
  | sl n off len cap z ex =>
    obtain ⟨l, h2, hl⟩ := hrd_spec (show hrd h n _ = some r from h1)
    obtain ⟨hle, h3⟩ := partK_spec h2
    refine ⟨len, _, h3, fun B φ w v hw hv => ?_⟩
    obtain ⟨b, f, S, c', q, e, _⟩ := hv
    obtain ⟨b', f', cc, T, fz, q', hb, hc⟩ := rd_spec hl hw
    rw [q] at q'
    obtain ⟨rfl, rfl, rfl⟩ : b = b' ∧ f = f' ∧ S = cc.size := by simpa using q'
    have hp := cov_part hc hle
    have hlen := hp.len
    have hll : ((l.drop off).take (Nat.mul len sz)).length = len * sz := by simp only [List.length_take, List.length_drop]; exact Nat.min_eq_left (by have : Nat.mul len sz = len * sz := rfl; omega)
    refine ⟨_, hp, by rw [← hlen, hll], ⟨_, _, e⟩, fun k hk w' hw' => ?_⟩
    subst e
    have hpc := part_cells (w := w') (b := b) ((hw' b).trans hb) (f + off) (Nat.mul len sz)
    have hkk : k * sz ≤ len * sz := Nat.mul_le_mul_right _ hk
    exact run_firstCells_some (P := P) w' sz k ⟨b, f + off, none⟩ len c' _ (by rw [List.length_take, ← hlen, hll]; omega) fun j v hv => by
      rw [Addr.add_mid]
      rw [List.getElem?_take] at hv
      split at hv
      · exact hpc j v hv
      · cases hv
  | _ => cases h1
section
variable {t t2 e e2 : TypeId} {ts : Array TypeId} {args : Array Value} {ty : TypeId} {i : TypeInfo} {z : Value} {base : Option Addr} {len cap m : Nat} {x : Value}
theorem append_room (h0 : ts[0]? = some t) (h1 : ts[1]? = some t2) (ht : P.underlying t = some (.slice e)) (ht2 : P.underlying t2 = some (.slice e2)) (hi : P.info? e = some i) (a0 : args[0]? = some (.slice base len cap)) (a1 : args[1]? = some x)
    {a : Option Addr} {c : Nat} (hx : x = .slice a m c) {us : List Value} {w w' : World} (hf : (Builtin.firstCells i.size m x).run P w = .ok us.toArray w) (hr : len + m ≤ cap) (hs : match base with | none => w' = w | some a => (storeCells (a.add (len * i.size)) us).run P w = .ok () w') :
    (Builtin.append_ ts ty args).run P w = .ok (.slice base (len + m) cap) w' := by
  subst hx
  cases base with
  | none =>
    simp only at hs
    subst hs
    simp [Builtin.append_, h0, h1, a0, a1, run_underlying ht, run_underlying ht2, sizeOf, typeInfo, hi, Builtin.lenOf, hr, hf]
  | some b =>
    simp only at hs
    simp [Builtin.append_, h0, h1, a0, a1, run_underlying ht, run_underlying ht2, sizeOf, typeInfo, hi, Builtin.lenOf, hr, hf, hs]
theorem append_grow (h0 : ts[0]? = some t) (h1 : ts[1]? = some t2) (ht : P.underlying t = some (.slice e)) (ht2 : P.underlying t2 = some (.slice e2)) (hi : P.info? e = some i) (hz : i.zero = some z) (a0 : args[0]? = some (.slice base len cap)) (a1 : args[1]? = some x)
    {a : Option Addr} {c : Nat} (hx : x = .slice a m c) {us olds : List Value} {w : World} (hf : ∀ w' : World, (∀ b : Nat, w'.heap[b]? = w.heap[b]?) → (Builtin.firstCells i.size m x).run P w' = .ok us.toArray w') (hfo : ∀ w' : World, (∀ b : Nat, w'.heap[b]? = w.heap[b]?) → (Builtin.firstCells i.size len (.slice base len cap)).run P w' = .ok olds.toArray w') (hr : cap < len + m)
    (hn : len + m ≤ 1048576) (hb : i.bytes ≤ 1048576) :
    ∃ nc, len + m ≤ nc ∧ (Builtin.append_ ts ty args).run P w = .ok (.slice (some ⟨w.heap.size, 0, none⟩) (len + m) nc) (w.drew.alloc (.cells (olds.toArray ++ us.toArray ++ Builtin.zeroCells z.cells (nc - (len + m))) e)) := by
  subst hx
  refine ⟨grownCap w (len + m) cap e, Nat.le_add_right _ _, ?_⟩
  have hn' : ¬ (len + m ≤ cap) := by omega
  have h63' : ¬ (9223372036854775807 < ((len : Int) + (m : Int))) := by omega
  have hfit : Builtin.nextslicecap (len + m) cap * i.bytes ≤ 281474976710656 := growslice_fits hr (by
    have : (len + m) * i.bytes ≤ 1048576 * 1048576 := Nat.mul_le_mul hn hb
    omega)
  have h48' : ¬ (281474976710656 < Builtin.nextslicecap (len + m) cap * i.bytes) := by omega
  have f1 := hf w.drew fun b => rfl
  have f2 := hfo w.drew fun b => rfl
  simp [Builtin.append_, h0, h1, a0, a1, run_underlying ht, run_underlying ht2, sizeOf, typeInfo, zeroValue, hi, hz, Builtin.lenOf, hn', h63', h48', Question.forced, f1, f2, newRow, grownCap]
  congr 2
  apply Array.ext'
  simp [List.append_assoc]
end
end Go.Ev
