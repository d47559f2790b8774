/- The abstract machine: append onto nil as a row whose elements may be turned. The abstract machine: own rows lent to a call that hands back a number or a bool. The abstract machine: a call with own blocks under a condition. The abstract machine: make of a slice. The abstract machine: stores into a part of an element of an array. -/
import Derived.Test.YtojkihhnioeggaaDoorBD
import Derived.WalkKit
import Derived.WalkSpells
import Derived.WalkLawsBesides
import Derived.Deep.QuietTactic
import Derived.BigQuiet
import Derived.BigRegion
import Derived.Lib.Hide
import Derived.Deep.RegionWith
set_option linter.unusedSimpArgs false
set_option linter.unusedVariables false
namespace Go.Bm
open Go
theorem opT_appendV0 {C : Ctx} {ops : Array Oper} {i : Nat} {o : Oper} {s : St} {n : Nat} (hi : ops[i]? = some o) (hw : wantA ops o s.fr = some true) (hd : ∀ d, o.dst = some d → d < C.n) {x y : Operand} {T e : TypeId} {j : TI} {z1 z2 : Nat} {z3 : List Value} (ho : o.op = .call ⟨.builtin .append, #[x, y], #[T, T]⟩)
    (hT : C.E.ti T = some ⟨.sl e, z1, z2, z3⟩) (hj : C.E.ti e = some j) (hpos : 0 < j.size) (hz : j.zero.length = j.size) {els : List (List CV)} (hx : s.ev C x = some (.c (.v (.slice none 0 0))))
    (hy : s.ev C y = some (.c (.lit els)) ∨ ∃ q, s.ev C y = some (.c (.app q els))) (hlen : ∀ x, x ∈ els → x.length = j.size) (h63 : els.length ≤ maxLen) (hbytes : els.length * j.bytes ≤ 140737488355328) :
    OpT C ops i o s (some (.c (.row n))) [(n, some (.vec e j.size els))] [] [n] := by
  refine opT_run hi hw hd fun s' U β μ a W hag hn hm hr => ?_
  have hnU : ¬ U n := hn n (by simp)
  have hox : x ∈ o.op.operands := by rw [ho]; simp [Op.operands, Call.operands]
  have hoy : y ∈ o.op.operands := by rw [ho]; simp [Op.operands, Call.operands]
  have hkx : a.eval x = nilBk.sl 0 := den_v (St.ev_den hr ((St.ev_agree (C := C) hag hox).trans hx))
  have hyd : DenI μ (.lit els) (a.eval y) := by
    rcases hy with h1 | ⟨m, h1⟩
    · exact St.ev_den hr ((St.ev_agree (C := C) hag hoy).trans h1)
    · exact (app_den (St.ev_den hr ((St.ev_agree (C := C) hag hoy).trans h1))).1
  have hown : OwnAt μ β W nilBk (.vec e j.size []) := ⟨rfl, .inl ⟨rfl, rfl⟩⟩
  obtain ⟨W', k', hrun, r1, r2, r3, r4, r5, r6, r7, r8, r9⟩ := append_row (ty := o.type) hT hj hpos hz hr.w.imm hown (fun h0 => by simp [nilBk] at h0) hyd hlen (by simpa using h63) (by simpa using hbytes)
  rw [List.nil_append] at r1 r2
  refine ⟨k'.sl k'.len, W', upB β n k', μ, .inl ?_, fun q hq => ?_, fun m hm => upB_other (fun e => hnU (e ▸ hm)), Imm.le_refl μ, ?_⟩
  · rw [run_call_builtin ho]
    simp only [List.map_toArray, List.map_cons, List.map_nil, hkx]
    unfold builtin
    rw [Sem.run_bind]
    have : (Builtin.append_ #[T, T] o.type #[nilBk.sl 0, a.eval y]).run C.E.P W = .ok (k'.sl k'.len) W' := hrun
    rw [this]
    rfl
  · cases hq
    show k'.sl k'.len = (upB β n k' n).sl (upB β n k' n).len
    rw [upB_same]
  · refine hr.w.put_new (old := none) (ob := .vec e j.size els) hnU (fun q => ?_) r5 r6 r7 r8 (fun b hb hne => r9 b hb fun h0 => by simp [nilBk] at h0) (by simp [AObj.ments]) (Grow.refl μ _) r3 (r1 _) r2 (fun h0 => ?_)
    · refine (lookup_one q s'.H).trans ?_
      by_cases e1 : q = n
      · simp [e1]
      · simp [e1]
    · rcases r4 h0 with h1 | ⟨h1, h2⟩
      · exact .inl h1
      · simp [nilBk] at h1
def appV0B (C : Ctx) (ops : Array Oper) (o : Oper) (L : List (Nat × AV)) : Option (Nat × Nat × Nat × List (List CV)) :=
  match o.op with
  | .call ⟨.builtin .append, args, ts⟩ => match args.toList, ts.toList, appT C (ts.getD 0 0), wantA ops o (fun t => L.lookup t), dstOk C.n o with
    | [x, y], [T, T'], some (e, j), some true, true => if (Nat.beq T T' && decide (0 < j.size)) && Nat.beq j.zero.length j.size then
        match (mk L [] 0).ev C x, (match (mk L [] 0).ev C y with | some (.c (.lit els)) => some els | some (.c (.app _ els)) => some els | _ => none) with
        | some (.c (.v (.slice none 0 0))), some els => some (e, j.size, j.bytes, els)
        | _, _ => none
      else none
    | _, _, _, _, _ => none
  | _ => none
section
variable {C : Ctx} {ops : Array Oper} {dr : Bool} {T : List (List Nat)} {b i : Nat} {o : Oper} {os : List Oper} {D D' : List (Nat × Fx)} {L L' : List (Nat × AV)} {G G' : List (Nat × AObj)} {lim : Nat} {K : St → Prop}
theorem rx_appendV0 {α : Type} {enc : α → List CV} {els r : List α} {e sz bytes nm : Nat} (he : apd bytes [] els = some r) (h : appV0B C ops o L = some (e, sz, bytes, els.map enc)) (hlen : ∀ x, (enc x).length = sz) (hnm : b + i = nm)
    (hchk : stepOk dr T b i D (some (.c (.row nm))) [(nm, some (.vec e sz (r.map enc)))] [] [nm] = true) (hL : appS o.dst (some (.c (.row nm))) L = L') (hG : putG [(nm, some (.vec e sz (r.map enc)))] G = G') (hD : doneX dr D i [] [(nm, some (.vec e sz (r.map enc)))] = D') (hk : RX C ops dr T b (i + 1) os D' (mk L' G' lim) K) : RX C ops dr T b i (o :: os) D (mk L G lim) K := by
  subst hL hD hG hnm
  unfold apd at he
  split at he
  · rename_i hb
    obtain rfl := Option.some.inj he
    have hall : ∀ x, x ∈ els.map enc → x.length = sz := fun x hx => by
      obtain ⟨y, _, rfl⟩ := List.mem_map.1 hx
      exact hlen y
    have hev : ∀ x, (mk L G lim).ev C x = (mk L [] 0).ev C x := fun x => ev_lim rfl x
    unfold appV0B at h
    split at h
    · rename_i args ts ho0
      split at h
      · rename_i x y T1 T2 e0 j0 hax hts hap hw hc2
        split at h
        · rename_i hc1
          simp only [Bool.and_eq_true, decide_eq_true_eq] at hc1
          obtain ⟨⟨hc1, hpos⟩, hzz⟩ := hc1
          have hzz := Nat.eq_of_beq_eq_true hzz
          have hTT := Nat.eq_of_beq_eq_true hc1
          subst hTT
          have ho : o.op = .call ⟨.builtin .append, #[x, y], #[T1, T1]⟩ := by
            rw [ho0, ← Array.toArray_toList (xs := args), ← Array.toArray_toList (xs := ts), hax, hts]
          have hts0 : ts.getD 0 0 = T1 := by
            have : ts = #[T1, T1] := by rw [← Array.toArray_toList (xs := ts), hts]
            rw [this]; rfl
          rw [hts0] at hap
          unfold appT at hap
          split at hap
          · rename_i e' z1 z2 z3 hT
            split at hap
            · rename_i j hj
              simp only [Option.some.injEq, Prod.mk.injEq] at hap
              obtain ⟨rfl, rfl⟩ := hap
              split at h
              · rename_i els' hx hy
                simp only [Option.some.injEq, Prod.mk.injEq] at h
                obtain ⟨rfl, rfl, rfl, rfl⟩ := h
                have hy' : (mk L G lim).ev C y = some (.c (.lit (els.map enc))) ∨ ∃ q, (mk L G lim).ev C y = some (.c (.app q (els.map enc))) := by
                  split at hy
                  · rename_i els2 hy2
                    obtain rfl := Option.some.inj hy
                    exact .inl ((hev y).trans hy2)
                  · rename_i q els2 hy2
                    obtain rfl := Option.some.inj hy
                    exact .inr ⟨q, (hev y).trans hy2⟩
                  · cases hy
                have := fun hi => opT_appendV0 (C := C) (ops := ops) (i := i) (o := o) (s := mk L G lim) (n := b + i) hi hw (dstOk_spec hc2) ho hT hj hpos hzz ((hev x).trans hx) hy' hall (by have := hb.2; simp only [List.length_map, maxLen]; simpa using this) (by simpa using hb.1)
                refine rx_op this hchk ?_
                rw [mk_app]
                exact hk
              · cases h
            · cases hap
          · cases hap
        · cases h
      · cases h
    · cases h
  · cases he
end
end Go.Bm
namespace Go.Bm
open Go
open Classical in
noncomputable def Imm.lend (μ : Imm) (W : World) (p : Nat → Prop) : Imm := ⟨fun b j => if p b then (match W.heap[b]? with | some (.cells cs _ _) => cs[j]? | _ => none) else μ.c b j, μ.m⟩
theorem lend_le {μ : Imm} {W : World} {p : Nat → Prop} (h : ∀ b, p b → ∀ j, μ.c b j = none) : μ.le (μ.lend W p) := ⟨fun b j v hv => by
  simp only [Imm.lend]
  split
  · rename_i hp; rw [h b hp j] at hv; cases hv
  · exact hv, fun _ _ h => h⟩
theorem lend_imm {μ : Imm} {W : World} {p : Nat → Prop} (h : ImmAt μ W) : ImmAt (μ.lend W p) W := ⟨fun b j v hv => by
  simp only [Imm.lend] at hv
  split at hv
  · split at hv
    · rename_i cs T fr hb; exact ⟨cs, T, fr, hb, hv⟩
    · cases hv
  · exact h.c b j v hv, h.m⟩
theorem lend_cell {μ : Imm} {W : World} {p : Nat → Prop} {b : Nat} (hp : p b) {vs : Array Value} {T : TypeId} {fr : Nat × Nat} (hb : W.heap[b]? = some (.cells vs T fr)) (j : Nat) : (μ.lend W p).c b j = vs[j]? := by
  simp only [Imm.lend]
  rw [if_pos hp, hb]
def lendC (G : List (Nat × AObj)) : CV → Option CV
  | .row n => match G.lookup n with | some (.vec _ _ l) => some (.lit l) | _ => none
  | x => x.pub
def lendA (G : List (Nat × AObj)) : AV → Option AV
  | .c x => match lendC G x with | some y => some (.c y) | none => none
  | .agg l => match pubL (lendC G) l with | some r => some (.agg r) | none => none
  | _ => none
def lendL (G : List (Nat × AObj)) : List AV → Option (List AV)
  | [] => some []
  | x :: l => match lendA G x, lendL G l with
    | some y, some r => some (y :: r)
    | _, _ => none
theorem lendL_get {G : List (Nat × AObj)} : ∀ {As Bs : List AV}, lendL G As = some Bs → As.length = Bs.length ∧ ∀ (j : Nat) (B : AV), Bs[j]? = some B → ∃ A, As[j]? = some A ∧ lendA G A = some B
  | [], Bs, h => by simp only [lendL, Option.some.injEq] at h; subst h; simp
  | A :: As, Bs, h => by
    simp only [lendL] at h
    split at h
    · rename_i y r hy hr
      obtain rfl := Option.some.inj h
      obtain ⟨h1, h2⟩ := lendL_get hr
      refine ⟨by simp [h1], fun j B hj => ?_⟩
      cases j with
      | zero => simp at hj; subst hj; exact ⟨A, rfl, hy⟩
      | succ j => exact h2 j B hj
    · cases h
def lentNs (G : List (Nat × AObj)) : List Nat := G.filterMap fun p => match p.2 with | .vec .. => some p.1 | _ => none
theorem lendC_den {G : List (Nat × AObj)} {μ : Imm} {β : Nat → Bk} {W : World} (how : ∀ n o, G.lookup n = some o → OwnAt μ β W (β n) o) {p : Nat → Prop} (hp : ∀ n T sz l, G.lookup n = some (.vec T sz l) → (β n).nil = false → p (β n).blk) (hle : μ.le (μ.lend W p)) {x y : CV} {v : Value} (h : lendC G x = some y) (hd : Den μ β x v) : DenI (μ.lend W p) y v := by
  cases x with
  | row n =>
    simp only [lendC] at h
    split at h
    · rename_i T sz l hG
      obtain rfl := Option.some.inj h
      obtain ⟨hl, ho⟩ := how n _ hG
      have hv : v = (β n).sl (β n).len := hd
      subst hv
      rcases ho with ⟨h0, rfl⟩ | ⟨h0, vs, h1, h2, h3, h4, h5⟩
      · unfold Bk.sl
        rw [if_pos h0]
        exact .nil _ _
      · unfold Bk.sl
        rw [if_neg (by simp [h0]), ← hl]
        have hpb := hp n T sz l hG h0
        refine .lit l (β n).blk 0 (β n).cap sz (fun i j => vs.getD (i * sz + j) (.bool false)) h4 (fun i e hi => (h5 i e hi).1) (fun i j e x hi hj => ?_) (fun i j e x hi hj => ?_)
        · obtain ⟨y, hy, h6, _⟩ := (h5 i e hi).2 j x hj
          rw [lend_cell hpb h1, Nat.zero_add]
          have : vs.getD (i * sz + j) (.bool false) = y := by simp [Array.getD_eq_getD_getElem?, hy]
          rw [this]
          exact ⟨hy, h6⟩
        · obtain ⟨y, hy, _, h7⟩ := (h5 i e hi).2 j x hj
          have : vs.getD (i * sz + j) (.bool false) = y := by simp [Array.getD_eq_getD_getElem?, hy]
          rw [this]
          exact h7.mono hle
    · cases h
  | fn f l => exact (pub_den (x := .fn f l) h hd).mono hle
  | v x => exact (pub_den (x := .v x) h hd).mono hle
  | lit l => exact (pub_den (x := .lit l) h hd).mono hle
  | imm l => exact (pub_den (x := .imm l) h hd).mono hle
  | lmap a l => exact (pub_den (x := .lmap a l) h hd).mono hle
  | ptr n o => exact (pub_den (x := .ptr n o) h hd).mono hle
  | app n l => exact (pub_den (x := .app n l) h hd).mono hle
  | mapr n => exact (pub_den (x := .mapr n) h hd).mono hle
theorem lendA_den {G : List (Nat × AObj)} {μ : Imm} {β : Nat → Bk} {W : World} (how : ∀ n o, G.lookup n = some o → OwnAt μ β W (β n) o) {p : Nat → Prop} (hp : ∀ n T sz l, G.lookup n = some (.vec T sz l) → (β n).nil = false → p (β n).blk) (hle : μ.le (μ.lend W p)) {A B : AV} {v : Value} (h : lendA G A = some B) (hd : DenA μ β A v) (β' : Nat → Bk) : DenA (μ.lend W p) β' B v := by
  cases A with
  | c x =>
    simp only [lendA] at h
    split at h
    · rename_i y hy
      obtain rfl := Option.some.inj h
      exact denI_den (lendC_den how hp hle hy hd)
    · cases h
  | agg l =>
    simp only [lendA] at h
    split at h
    · rename_i r hr
      obtain rfl := Option.some.inj h
      obtain ⟨vs, rfl, h1, h2⟩ := hd
      obtain ⟨p1, p2⟩ := pubL_get hr
      refine ⟨vs, rfl, by rw [p1]; exact h1, fun j y hj => ?_⟩
      obtain ⟨x, hx, hxy⟩ := p2 j y hj
      obtain ⟨u, hu, hud⟩ := h2 j x hx
      exact ⟨u, hu, denI_den (lendC_den how hp hle hxy hud)⟩
    · cases h
  | tup l => cases h
  | cnd gs x => cases h
theorem WR.grown {C : Ctx} {H : Nat → Option AObj} {U : Nat → Prop} {β : Nat → Bk} {μ : Imm} {W W' : World} (h : WR C H U β μ W) (hos : W'.os = W.os) (htape : W'.tape = W.tape) (hout : W'.output = W.output) (hsz : W.heap.size ≤ W'.heap.size) (hb : ∀ b, b < W.heap.size → W'.heap[b]? = W.heap[b]?) : WR C H U β μ W' := by
  have hlt : ∀ b o, W.heap[b]? = some o → W'.heap[b]? = some o := fun b o hbo => by
    rw [hb b (by by_cases hq : b < W.heap.size; exact hq; rw [Array.getElem?_eq_none (by omega)] at hbo; cases hbo)]
    exact hbo
  refine ⟨fun b h1 h2 => (hb b (Nat.lt_of_lt_of_le h1 h.size)).trans (h.keep b h1 h2), Nat.le_trans h.size hsz, hos.trans h.os, htape.trans h.tape, hout.trans h.output, fun n o hn => ?_, h.inj, ⟨fun b j v hv => ?_, fun b es clk hv => hlt _ _ (h.imm.m b es clk hv)⟩, h.sep, h.loc, h.used, h.mu, h.newc, h.newm, h.glob, h.fix⟩
  · have hown := h.own n o hn
    refine hown.mono (Imm.le_refl μ) (fun _ _ => rfl) fun h0 => ?_
    have : ∃ q, W.heap[(β n).blk]? = some q := by
      cases o with
      | blk T l => obtain ⟨_, vs, h1, _⟩ := hown; exact ⟨_, h1⟩
      | tok T sz e =>
        rcases hown with ⟨h1, _⟩ | ⟨_, vs, h1, _⟩
        · rw [h0] at h1; cases h1
        · exact ⟨_, h1⟩
      | vec T sz l =>
        rcases hown.2 with ⟨h1, _⟩ | ⟨_, vs, h1, _⟩
        · rw [h0] at h1; cases h1
        · exact ⟨_, h1⟩
      | map ag l => obtain ⟨_, es, clk, h1, _⟩ := hown; exact ⟨_, h1⟩
    obtain ⟨q, hq⟩ := this
    rw [hq]; exact hlt _ _ hq
  · obtain ⟨cs, T, fr, h1, h2⟩ := h.imm.c b j v hv
    exact ⟨cs, T, fr, hlt _ _ h1, h2⟩
theorem opT_callL {C : Ctx} {ops : Array Oper} {i : Nat} {o : Oper} {s : St} (hi : ops[i]? = some o) (hw : wantA ops o s.fr = some true) (hd : ∀ d, o.dst = some d → d < C.n) {F : FuncId} {args : List Operand} {ts : Array TypeId} (ho : o.op = .call ⟨.value (.func F), args.toArray, ts⟩) (hF : FnOk C.E F)
    {As Bs : List AV} (hA : evL C s args = some As) {G : List (Nat × AObj)} (hG : ∀ n ob, G.lookup n = some ob → s.H n = some ob) (hB : lendL G As = some Bs) {x : Value} (hc : FnD C.E F 0 Bs [] (.c (.v x)) []) :
    OpT C ops i o s (some (.c (.v x))) [] (G.map (·.1)) [] := by
  intro s' U β μ a W hag hnew _ hrel Q K hK
  unfold wpOp
  simp only [hi]
  rw [if_pos (wantA_spec hw hag hrel)]
  left
  unfold Oper.wp
  rw [run_callee hF ho, Oper.upon_enter]
  obtain ⟨ea, eb⟩ := evL_get hA
  obtain ⟨g1, g2⟩ := lendL_get hB
  have hH : ∀ n p, G.lookup n = some p → s'.H n = some p := fun n p hn => by
    rw [hag.2 n (List.mem_map.2 ⟨_, lookup_memL hn, rfl⟩)]
    exact hG n p hn
  have hargs : (args.toArray.map a.eval) = (args.map a.eval).toArray := by simp
  rw [hargs]
  let p : Nat → Prop := fun b => ∃ n T sz l, G.lookup n = some (.vec T sz l) ∧ (β n).nil = false ∧ (β n).blk = b
  have hle : μ.le (μ.lend W p) := lend_le fun b ⟨n, T, sz, l, h1, h2, h3⟩ j => by
    subst h3
    exact (hrel.w.sep n _ (hH n _ h1) h2).2 j
  have hden : DenArgs (μ.lend W p) β Bs (args.map a.eval) := by
    refine ⟨by rw [List.length_map, ← g1, ea], fun j B hj => ?_⟩
    obtain ⟨A, hA', hAB⟩ := g2 j B hj
    obtain ⟨y, hy, hyA⟩ := eb j A hA'
    have hd : DenA μ β A (a.eval y) := St.ev_den hrel ((St.ev_agree (C := C) hag (by rw [ho]; simp only [Op.operands, Call.operands]; simp [List.mem_of_getElem? hy])).trans hyA)
    exact ⟨a.eval y, by simp [hy], lendA_den (fun n o hn => hrel.w.own n o (hH n o hn)) (fun n T sz l hn h0 => ⟨n, T, sz, l, hn, h0, rfl⟩) hle hAB hd β⟩
  refine (hc β (μ.lend W p) W _ (lend_imm hrel.w.imm) (fun g l hg => (hrel.w.glob g l hg).mono hle) ⟨fun n o hn => (nomatch hn), fun n m o p hn => (nomatch hn), fun n o hn => (nomatch hn)⟩ hden).mono ?_
  rintro e W' ⟨y, r', G', β'c, μ', rfl, ⟨hrr, _⟩, hy0, hleft⟩
  have hyx : y = x := den_true hrr hy0
  subst hyx
  have hwr := hrel.w.grown hleft.os hleft.tape hleft.output hleft.size fun b hb => hleft.keep b hb fun ⟨n, o, hn, _⟩ => nomatch hn
  refine hK β μ _ W' ⟨?_, ?_⟩
  · refine FR.put (s := s') (hrel.f.weaken fun n hn => .inl hn) hd fun z hz => ?_
    obtain rfl := Option.some.inj hz
    exact ⟨(DenI.v y : DenI μ (.v y) y), fun n hn => by simp [AV.ments, AV.ments0, AV.ments1, CV.ments, CV.ments1] at hn⟩
  · exact hwr.weaken fun n hn => .inl hn
def lentG (G : List (Nat × AObj)) (ns : List Nat) : List (Nat × AObj) := ns.filterMap fun n => (G.lookup n).map fun o => (n, o)
theorem lentG_get {G : List (Nat × AObj)} : ∀ {ns : List Nat} {n : Nat} {o : AObj}, (lentG G ns).lookup n = some o → G.lookup n = some o
  | [], n, o, h => by simp [lentG] at h
  | m :: ns, n, o, h => by
    unfold lentG at h
    rw [List.filterMap_cons] at h
    split at h
    · exact lentG_get (ns := ns) h
    · rename_i q hq
      simp only [Option.map_eq_some_iff] at hq
      obtain ⟨o', ho', rfl⟩ := hq
      rw [List.lookup_cons] at h
      split at h
      · rename_i he
        simp only [beq_iff_eq] at he
        subst he
        rw [ho', h]
      · exact lentG_get (ns := ns) h
section
variable {C : Ctx} {ops : Array Oper} {dr : Bool} {T : List (List Nat)} {b i : Nat} {o : Oper} {os : List Oper} {D D' : List (Nat × Fx)} {L L' : List (Nat × AV)} {G G' : List (Nat × AObj)} {lim : Nat} {K : St → Prop}
theorem rx_callL (ns : List Nat) {F : FuncId} {As Bs : List AV} {x : Value} (h : callB C ops o L = some (F, As)) (hF : FnOk C.E F) (hB : lendL (lentG G ns) As = some Bs) (hc : FnD C.E F 0 Bs [] (.c (.v x)) []) (hchk : stepOk dr T b i D (some (.c (.v x))) [] ((lentG G ns).map (·.1)) [] = true) (hL : appS o.dst (some (.c (.v x))) L = L') (hD : doneX dr D i ((lentG G ns).map (·.1)) [] = D') (hk : RX C ops dr T b (i + 1) os D' (mk L' G lim) K) : RX C ops dr T b i (o :: os) D (mk L G lim) K := by
  subst hL hD
  unfold callB at h
  split at h
  · rename_i F' args ts ho
    split at h
    · rename_i As' h1 h2 h3
      simp only [Option.some.injEq, Prod.mk.injEq] at h
      obtain ⟨rfl, rfl⟩ := h
      have hA : evL C (mk L G lim) args.toList = some As' := (evL_lim (s := mk L G lim) (s' := mk L [] 0) rfl _).trans h3
      have := fun hi => opT_callL (C := C) (ops := ops) (i := i) (o := o) (s := mk L G lim) hi h2 (dstOk_spec h1) (args := args.toList) (ts := ts) (by simpa using ho) hF hA (G := lentG G ns) (fun n ob hn => lentG_get hn) hB hc
      refine rx_op this hchk ?_
      rw [mk_app]
      exact hk
    · cases h
  · cases h
end
end Go.Bm
namespace Go.Bm
open Go
def ifO {α : Type} (es : List Bool) (x : Option α) (d : α) : Option α := if es.all id = true then x else some d
def OpWO (C : Ctx) (o : Oper) (L : List (Nat × AV)) (G : List (Nat × AObj)) (v : AV) (wr : List (Nat × Option AObj)) (foot : List Nat) : Prop :=
  ∀ (s' : St) (U : Nat → Prop) (β : Nat → Bk) (μ : Imm) (a : Act) (W : World), (∀ x, x ∈ o.op.operands → s'.ev C x = (mk L G 0).ev C x) → (∀ n, n ∈ foot → s'.H n = G.lookup n) → Rel C s' U β μ a W →
    ∀ (Q : Exit → Act → World → Prop) (K : Act → World → Prop), (∀ μ' W' y, WR C (s'.app none none wr).H U β μ' W' → μ.le μ' → DenT μ' β v y → K (a.put o.dst y) W') → o.wp C.E.P a W K Q
section
variable {C : Ctx} {ops : Array Oper} {dr : Bool} {T : List (List Nat)} {b i : Nat} {o : Oper} {os : List Oper} {D D' : List (Nat × Fx)} {L L' : List (Nat × AV)} {G G' : List (Nat × AObj)} {lim : Nat} {K : St → Prop}
end
end Go.Bm
namespace Go.Bm
open Go
def mkO (bytes : Nat) (l : Int) : Option Nat := if 0 ≤ l ∧ (bytes : Int) * l ≤ 281474976710656 ∧ l ≤ (maxLen : Int) then some l.toNat else none
def mkB (C : Ctx) (ops : Array Oper) (o : Oper) (L : List (Nat × AV)) : Option (Nat × Nat × Nat × List CV × Int) :=
  match o.op with
  | .makeSlice T x y => match C.E.ti T, wantA ops o (fun t => L.lookup t), dstOk C.n o, (mk L [] 0).ev C x, (mk L [] 0).ev C y with
    | some ⟨.sl e, _, _, _⟩, some true, true, some (.c (.v (.int _ l))), some (.c (.v (.int _ l'))) => match C.E.ti e with
      | some j => if (decide (0 < j.size) && Nat.beq j.zero.length j.size) && j.zero.all Value.oneCell' && l == l' then some (e, j.size, j.bytes, j.zero.map .v, l) else none
      | none => none
    | _, _, _, _, _ => none
  | _ => none
section
variable {C : Ctx} {ops : Array Oper} {dr : Bool} {T : List (List Nat)} {b i : Nat} {o : Oper} {os : List Oper} {D D' : List (Nat × Fx)} {L L' : List (Nat × AV)} {G G' : List (Nat × AObj)} {lim : Nat} {K : St → Prop}
end
end Go.Bm
namespace Go.Bm
open Go
theorem splice_flat_f {α : Type} {enc : α → List CV} {xs : List α} {k sz f : Nat} {e e2 : α} {lx : List CV} (hk : xs[k]? = some e) (hsz : ∀ x, (enc x).length = sz) (hf : f + lx.length ≤ sz) (h : splice (enc e) f lx = enc e2) : splice ((xs.map enc).flatten) (k * sz + f) lx = (((xs.set k e2).map enc).flatten) := by
  unfold splice at h ⊢
  induction xs generalizing k with
  | nil => simp at hk
  | cons x xs ih =>
    cases k with
    | zero =>
      simp at hk
      subst hk
      simp only [Nat.zero_mul, Nat.zero_add, List.map_cons, List.flatten_cons, List.set_cons_zero]
      rw [← h, List.take_append_of_le_length (by rw [hsz]; omega), List.drop_append_of_le_length (by rw [hsz]; omega)]
      simp [List.append_assoc]
    | succ k =>
      have hx := hsz x
      have := ih (k := k) (by simpa using hk)
      simp only [List.map_cons, List.flatten_cons, List.set_cons_succ]
      rw [← this]
      have e1 : (k + 1) * sz + f = (enc x).length + (k * sz + f) := by rw [hx, Nat.add_mul]; omega
      rw [e1, List.take_length_add_append, Nat.add_assoc, List.drop_length_add_append, List.append_assoc, List.append_assoc]
      simp [List.append_assoc]
section
variable {C : Ctx} {ops : Array Oper} {dr : Bool} {T : List (List Nat)} {b i : Nat} {o : Oper} {os : List Oper} {D D' : List (Nat × Fx)} {L L' : List (Nat × AV)} {G G' : List (Nat × AObj)} {lim : Nat} {K : St → Prop}
end
end Go.Bm
