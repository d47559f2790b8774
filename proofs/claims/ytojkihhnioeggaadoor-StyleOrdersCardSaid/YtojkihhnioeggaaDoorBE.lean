/- The abstract machine: append onto nil as a row whose elements may be turned. The abstract machine: own rows lent to a call that hands back a number or a bool. The abstract machine: a call with own blocks under a condition. The abstract machine: make of a slice. The abstract machine: stores into a part of an element of an array. -/
import Derived.Test.YtojkihhnioeggaaDoorBD
import Derived.WalkKit
import Derived.WalkSpells
import Derived.WalkLawsBesides
import Derived.Deep.QuietTactic
import Derived.BigQuiet
import Derived.BigRegion
import Derived.Lib.Hide
import Derived.Deep.RegionWith
set_option linter.unusedSimpArgs false
set_option linter.unusedVariables false
namespace Go.Bm
open Go
def appV0B (C : Ctx) (ops : Array Oper) (o : Oper) (L : List (Nat × AV)) : Option (Nat × Nat × Nat × List (List CV)) :=
  match o.op with
  | .call ⟨.builtin .append, args, ts⟩ => match args.toList, ts.toList, appT C (ts.getD 0 0), wantA ops o (fun t => L.lookup t), dstOk C.n o with
    | [x, y], [T, T'], some (e, j), some true, true => if (Nat.beq T T' && decide (0 < j.size)) && Nat.beq j.zero.length j.size then
        match (mk L [] 0).ev C x, (match (mk L [] 0).ev C y with | some (.c (.lit els)) => some els | some (.c (.app _ els)) => some els | _ => none) with
        | some (.c (.v (.slice none 0 0))), some els => some (e, j.size, j.bytes, els)
        | _, _ => none
      else none
    | _, _, _, _, _ => none
  | _ => none
section
variable {C : Ctx} {ops : Array Oper} {dr : Bool} {T : List (List Nat)} {b i : Nat} {o : Oper} {os : List Oper} {D D' : List (Nat × Fx)} {L L' : List (Nat × AV)} {G G' : List (Nat × AObj)} {lim : Nat} {K : St → Prop}
end
end Go.Bm
namespace Go.Bm
open Go
open Classical in
noncomputable def Imm.lend (μ : Imm) (W : World) (p : Nat → Prop) : Imm := ⟨fun b j => if p b then (match W.heap[b]? with | some (.cells cs _ _) => cs[j]? | _ => none) else μ.c b j, μ.m⟩
def lendC (G : List (Nat × AObj)) : CV → Option CV
  | .row n => match G.lookup n with | some (.vec _ _ l) => some (.lit l) | _ => none
  | x => x.pub
def lendA (G : List (Nat × AObj)) : AV → Option AV
  | .c x => match lendC G x with | some y => some (.c y) | none => none
  | .agg l => match pubL (lendC G) l with | some r => some (.agg r) | none => none
  | _ => none
def lendL (G : List (Nat × AObj)) : List AV → Option (List AV)
  | [] => some []
  | x :: l => match lendA G x, lendL G l with
    | some y, some r => some (y :: r)
    | _, _ => none
def lentNs (G : List (Nat × AObj)) : List Nat := G.filterMap fun p => match p.2 with | .vec .. => some p.1 | _ => none
def lentG (G : List (Nat × AObj)) (ns : List Nat) : List (Nat × AObj) := ns.filterMap fun n => (G.lookup n).map fun o => (n, o)
section
variable {C : Ctx} {ops : Array Oper} {dr : Bool} {T : List (List Nat)} {b i : Nat} {o : Oper} {os : List Oper} {D D' : List (Nat × Fx)} {L L' : List (Nat × AV)} {G G' : List (Nat × AObj)} {lim : Nat} {K : St → Prop}
end
end Go.Bm
namespace Go.Bm
open Go
def ifO {α : Type} (es : List Bool) (x : Option α) (d : α) : Option α := if es.all id = true then x else some d
def OpWO (C : Ctx) (o : Oper) (L : List (Nat × AV)) (G : List (Nat × AObj)) (v : AV) (wr : List (Nat × Option AObj)) (foot : List Nat) : Prop :=
  ∀ (s' : St) (U : Nat → Prop) (β : Nat → Bk) (μ : Imm) (a : Act) (W : World), (∀ x, x ∈ o.op.operands → s'.ev C x = (mk L G 0).ev C x) → (∀ n, n ∈ foot → s'.H n = G.lookup n) → Rel C s' U β μ a W →
    ∀ (Q : Exit → Act → World → Prop) (K : Act → World → Prop), (∀ μ' W' y, WR C (s'.app none none wr).H U β μ' W' → μ.le μ' → DenT μ' β v y → K (a.put o.dst y) W') → o.wp C.E.P a W K Q
section
variable {C : Ctx} {ops : Array Oper} {dr : Bool} {T : List (List Nat)} {b i : Nat} {o : Oper} {os : List Oper} {D D' : List (Nat × Fx)} {L L' : List (Nat × AV)} {G G' : List (Nat × AObj)} {lim : Nat} {K : St → Prop}
end
end Go.Bm
namespace Go.Bm
open Go
def mkO (bytes : Nat) (l : Int) : Option Nat := if 0 ≤ l ∧ (bytes : Int) * l ≤ 281474976710656 ∧ l ≤ (maxLen : Int) then some l.toNat else none
def mkB (C : Ctx) (ops : Array Oper) (o : Oper) (L : List (Nat × AV)) : Option (Nat × Nat × Nat × List CV × Int) :=
  match o.op with
  | .makeSlice T x y => match C.E.ti T, wantA ops o (fun t => L.lookup t), dstOk C.n o, (mk L [] 0).ev C x, (mk L [] 0).ev C y with
    | some ⟨.sl e, _, _, _⟩, some true, true, some (.c (.v (.int _ l))), some (.c (.v (.int _ l'))) => match C.E.ti e with
      | some j => if (decide (0 < j.size) && Nat.beq j.zero.length j.size) && j.zero.all Value.oneCell' && l == l' then some (e, j.size, j.bytes, j.zero.map .v, l) else none
      | none => none
    | _, _, _, _, _ => none
  | _ => none
section
variable {C : Ctx} {ops : Array Oper} {dr : Bool} {T : List (List Nat)} {b i : Nat} {o : Oper} {os : List Oper} {D D' : List (Nat × Fx)} {L L' : List (Nat × AV)} {G G' : List (Nat × AObj)} {lim : Nat} {K : St → Prop}
end
end Go.Bm
namespace Go.Bm
open Go
theorem opT_storeP {C : Ctx} {ops : Array Oper} {i : Nat} {o : Oper} {s : St} (hi : ops[i]? = some o) (hw : wantA ops o s.fr = some true) (hdst : o.dst = none) {T : TypeId} {a x : Operand} (ho : o.op = .store T a x) {n off : Nat} (ha : s.ev C a = some (.c (.ptr n off))) {A : AV} (hx : s.ev C x = some A) {k : TI} (hT : C.E.ti T = some k)
    {lx lp : List CV} (hc : A.cells? = some lx) (hp : pubL CV.pub lx = some lp) {T0 : TypeId} {l : List CV} (hH : s.H n = some (.blk T0 l)) (hz : lx.length = k.size) (hle0 : off + lx.length ≤ l.length) : OpT C ops i o s none [(n, some (.blk T0 (splice l off lp)))] [n] [] := by
  refine opT_run hi hw (fun d hd => by rw [hdst] at hd; cases hd) fun s' U β μ act W hag _ hm hr => ?_
  have hopn : ∀ y, y ∈ [a, x] → y ∈ o.op.operands := by intro y hy; rw [ho]; simpa [Op.operands] using hy
  have e1 := denA_ptr (St.ev_den hr ((St.ev_agree hag (hopn a (by simp))).trans ha))
  have hA := (St.ev_agree (C := C) hag (hopn x (by simp))).trans hx
  obtain ⟨c1, c2, c3, c4⟩ := cells_den hc (St.ev_den hr hA)
  obtain ⟨g1, g2⟩ := pubL_get hp
  have hle : off + lp.length ≤ l.length := by omega
  have c1' : DenL μ β lp (act.eval x).cells := ⟨by rw [c3, g1], fun j y hj => by
    obtain ⟨u, hu, hup⟩ := g2 j y hj
    obtain ⟨w, hw, hwd⟩ := c1.2 j u hu
    exact ⟨w, hw, denI_den (pub_den hup hwd)⟩⟩
  rw [← g1] at c3 hz
  have hH' := (hag.2 n (by simp)).trans hH
  obtain ⟨h0, vs, hv, hd⟩ := hr.w.own n _ hH'
  have hlen := hd.1
  have hst := run_storeCells_at C.E.P (β n).blk off T0 (act.eval x).cells.toList 0 vs W hv (by simp only [Array.length_toList, c3]; omega) c2
  simp only [Nat.add_zero, Array.length_toList, c3] at hst
  refine ⟨undef, W.setRow (β n).blk (vs.toList.take off ++ (act.eval x).cells.toList ++ vs.toList.drop (off + lp.length)).toArray, β, μ, .inr ⟨hdst, ?_⟩, by simp, fun _ _ => rfl, Imm.le_refl μ, ?_⟩
  · simp only [execOp, ho, e1, Instr.storeAt, Instr.sureAddr, Sem.run_bind, Sem.run_pure, Result.andThen_ok]
    unfold storeVar
    rw [Sem.run_bind, ti_size hT, Result.andThen_ok, if_neg (by rw [c3, hz]; simp)]
    rw [hst]
    rfl
  · have hget : ∀ j, (vs.toList.take off ++ (act.eval x).cells.toList ++ vs.toList.drop (off + lp.length)).toArray[j]? = if j < off then vs[j]? else if j < off + lp.length then (act.eval x).cells[j - off]? else vs[j]? := by
      intro j
      have := splice_get vs.toList (act.eval x).cells.toList off j (by simp only [Array.length_toList, c3]; omega)
      simp only [Array.length_toList, c3] at this
      simpa using this
    have hfree := hr.w.sep n _ hH' h0
    have hother : ∀ b, b ≠ (β n).blk → (W.setRow (β n).blk (vs.toList.take off ++ (act.eval x).cells.toList ++ vs.toList.drop (off + lp.length)).toArray).heap[b]? = W.heap[b]? := fun b hb => setRow_other W _ b _ hb
    have key : WR C (fun m => match [(n, some (AObj.blk T0 (splice l off lp)))].lookup m with | some o => o | none => s'.H m) U β μ (W.setRow (β n).blk (vs.toList.take off ++ (act.eval x).cells.toList ++ vs.toList.drop (off + lp.length)).toArray) := by
      refine hr.w.put_same hH' h0 (ob := .blk T0 (splice l off lp)) (fun j => lookup_one j s'.H) rfl rfl rfl (by rw [size_setRow]; exact Nat.le_refl _) (fun b _ hb => hother b hb) (fun m hm' => ?_) ⟨fun b j v hb => ?_, fun b es clk hb => ?_⟩ ⟨h0, _, setRow_heap W _ vs _ T0 (0, 0) hv, ?_, fun j y hj => ?_⟩ hfree
      · rcases splice_ments hm' with h1 | h1
        · exact (hr.w.used n _ hH').2 m h1
        · obtain ⟨u, hu, hm2⟩ := List.mem_flatMap.1 h1
          obtain ⟨j, hj⟩ := List.getElem?_of_mem hu
          obtain ⟨w, hw, hup⟩ := g2 j u hj
          obtain ⟨w2, _, hwd⟩ := c1.2 j w hw
          rw [ment_none (pub_den hup hwd)] at hm2
          cases hm2
      · by_cases e : b = (β n).blk
        · subst e; have := hfree.2 j; rw [this] at hb; cases hb
        · rw [hother b e]; exact hr.w.imm.c b j v hb
      · by_cases e : b = (β n).blk
        · subst e; have := hfree.1; rw [this] at hb; cases hb
        · rw [hother b e]; exact hr.w.imm.m b es clk hb
      · rw [splice_len hle]
        simp only [List.size_toArray, List.length_append, List.length_take, List.length_drop, Array.length_toList, c3]
        omega
      · rw [splice, splice_get _ _ _ _ hle] at hj
        rw [hget]
        by_cases e : j < off
        · rw [if_pos e] at hj ⊢; exact hd.2 j y hj
        · rw [if_neg e] at hj ⊢
          by_cases e2 : j < off + lp.length
          · rw [if_pos e2] at hj ⊢; exact c1'.2 _ y hj
          · rw [if_neg e2] at hj ⊢; exact hd.2 j y hj
    exact key.weaken fun m hm' => .inl hm'
theorem splice_flat_f {α : Type} {enc : α → List CV} {xs : List α} {k sz f : Nat} {e e2 : α} {lx : List CV} (hk : xs[k]? = some e) (hsz : ∀ x, (enc x).length = sz) (hf : f + lx.length ≤ sz) (h : splice (enc e) f lx = enc e2) : splice ((xs.map enc).flatten) (k * sz + f) lx = (((xs.set k e2).map enc).flatten) := by
  unfold splice at h ⊢
  induction xs generalizing k with
  | nil => simp at hk
  | cons x xs ih =>
    cases k with
    | zero =>
      simp at hk
      subst hk
      simp only [Nat.zero_mul, Nat.zero_add, List.map_cons, List.flatten_cons, List.set_cons_zero]
      rw [← h, List.take_append_of_le_length (by rw [hsz]; omega), List.drop_append_of_le_length (by rw [hsz]; omega)]
      simp [List.append_assoc]
    | succ k =>
      have hx := hsz x
      have := ih (k := k) (by simpa using hk)
      simp only [List.map_cons, List.flatten_cons, List.set_cons_succ]
      rw [← this]
      have e1 : (k + 1) * sz + f = (enc x).length + (k * sz + f) := by rw [hx, Nat.add_mul]; omega
      rw [e1, List.take_length_add_append, Nat.add_assoc, List.drop_length_add_append, List.append_assoc, List.append_assoc]
      simp [List.append_assoc]
section
variable {C : Ctx} {ops : Array Oper} {dr : Bool} {T : List (List Nat)} {b i : Nat} {o : Oper} {os : List Oper} {D D' : List (Nat × Fx)} {L L' : List (Nat × AV)} {G G' : List (Nat × AObj)} {lim : Nat} {K : St → Prop}
theorem rx_storeP {n off T0 sz : Nat} {lx lp l l2 : List CV} (h : stB C ops o L G = some (n, off, lx, T0, l, sz)) (hp : pubL CV.pub lx = some lp) (hlx : lx.length = sz) (hle : off + lx.length ≤ l.length) (hl2 : splice l off lp = l2) (hchk : stepOk dr T b i D none [(n, some (.blk T0 l2))] [n] [] = true) (hG : putG [(n, some (.blk T0 l2))] G = G') (hD : doneX dr D i [n] [(n, some (.blk T0 l2))] = D')
    (hk : RX C ops dr T b (i + 1) os D' (mk L G' lim) K) : RX C ops dr T b i (o :: os) D (mk L G lim) K := by
  subst hG hD hl2
  unfold stB at h
  split at h
  · rename_i Ty a x ho
    split at h
    · rename_i n' off' A k h1 h2 h3 h4 h5
      split at h
      · rename_i lx' T0' l' h6 h7
        simp only [Option.some.injEq, Prod.mk.injEq] at h
        obtain ⟨rfl, rfl, rfl, rfl, rfl, rfl⟩ := h
        refine rx_op (fun hi => opT_storeP hi (s := mk L G lim) h2 h1 ho ((ev_lim rfl a).trans h3) ((ev_lim rfl x).trans h4) h5 h6 hp h7 hlx hle) hchk ?_
        rw [mk_app, h1]
        exact hk
      · cases h
    · cases h
  · cases h
end
end Go.Bm
