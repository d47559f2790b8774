import Derived.Test.YtojkihhnioeggaaGreatDoorQMBD
import Derived.Below
import Derived.Test.YtojkihhnioeggaaGreatDoorQMBC
import Derived.WalkKit
import Derived.WalkSpells
import Derived.WalkLawsBesides
import Derived.Deep.QuietTactic
import Derived.BigQuiet
import Derived.BigRegion
import Derived.Lib.Hide
import Derived.Deep.RegionWith
set_option linter.unusedSimpArgs false
set_option linter.unusedVariables false
namespace Go.Bm
open Go
section
variable {C : bP} {ops : Array Oper} {dr : Bool} {T : List (List Nat)} {b i : Nat} {o : Oper} {os : List Oper} {D D' : List (Nat × Fx)} {L L' : List (Nat × AV)} {G G' : List (Nat × aY)} {lim : Nat} {K : St → Prop}
end
end Go.Bm
namespace Go.Bm
open Go
section
variable {C : bP} {ops : Array Oper} {dr : Bool} {T : List (List Nat)} {b i : Nat} {o : Oper} {os : List Oper} {D D' : List (Nat × Fx)} {L L' : List (Nat × AV)} {G G' : List (Nat × aY)} {lim : Nat} {K : St → Prop}
end
end Go.Bm
namespace Go.Bm
open Go
def Vb {α : Type} (es : List Bool) (x : Option α) (d : α) : Option α := if es.all id = true then x else some d
theorem Ru {α : Type} {es : List Bool} {x : Option α} {d y : α} (h : Vb es x d = some y) (he : es.all id = true) : x = some y := by unfold Vb at h; rwa [if_pos he] at h
theorem Ts {α : Type} {es : List Bool} {x : Option α} {d y : α} (h : Vb es x d = some y) (he : es.all id = false) : y = d := by unfold Vb at h; rw [if_neg (by simp [he])] at h; exact (Option.some.inj h).symm
def OpWO (C : bP) (o : Oper) (L : List (Nat × AV)) (G : List (Nat × aY)) (v : AV) (wr : List (Nat × Option aY)) (foot : List Nat) : Prop :=
 ∀ (s' : St) (U : Nat → Prop) (β : Nat → Bk) (μ : bV) (a : Act) (W : World), (∀ x, x ∈ o.op.operands → s'.ev C x = (mk L G 0).ev C x) → (∀ n, n ∈ foot → s'.H n = G.lookup n) → nI C s' U β μ a W →
  ∀ (Q : Exit → Act → World → Prop) (K : Act → World → Prop), (∀ μ' W' y, WR C (s'.app none none wr).H U β μ' W' → μ.le μ' → rT μ' β v y → K (a.put o.dst y) W') → o.wp C.E.P a W K Q
theorem Qe {C : bP} {ops : Array Oper} {i : Nat} {o : Oper} {L : List (Nat × AV)} {G : List (Nat × aY)} {lim : Nat} {e : List Bool} {l : Ls} {v : AV} {wr : List (Nat × Option aY)} {foot : List Nat} (hi : ops[i]? = some o) (hw : oB ops o L = some e) (hd : nX C.n o = true) (hp : v.plain = true) (hs : l.have_ L = l.want e) (hc : l.chk ops o = true) (h : e.all id = true → OpWO C o l.st G v wr foot)
  (hf : e.all id = false → ∀ q, q ∈ wr → q.1 ∈ foot ∧ G.lookup q.1 = q.2) : tU C ops i o (mk L G lim) (some (.cnd e v)) wr foot [] := by
 intro s' U β μ a W hag _ hm hr Q K hK
 have hd' := dN hd
 have hmv : ∀ n, n ∈ v.ments → U n := fun n hn => by
  have := hm.1 (.cnd e v) rfl n (by
   show n ∈ v.ments0
   cases v with
   | cnd gs x => cases hp
   | c x => exact hn
   | agg l => exact hn
   | tup l => exact hn)
  simpa using this
 unfold wpOp
 simp only [hi]
 rw [wS hw hag hr]
 by_cases he : e.all id = true
 ·rw [if_pos he]
  left
  have hr2 := qZ he hs hc hag hr
  refine h he ⟨fun t => l.st.lookup t, s'.H, s'.lim⟩ U β μ a W (fun x hx => ?_) (fun n hn => hag.2 n hn) hr2 Q K fun μ' W' y hwr hmu hy => hK β μ' _ W' ⟨?_, hwr.weaken fun n hn => .inl hn⟩
  ·cases x with
   | tmp t => rfl
   | _ => rfl
  ·refine (FR.put (s := s') (hr.f.mono (fun _ _ => rfl) hmu) hd' fun x hx => ?_).weaken fun n hn => .inl hn
   obtain rfl := Option.some.inj hx
   refine ⟨?_, fun n hn => hmv n ?_⟩
   ·simp only [cP]; rw [if_pos he]; exact hy
   ·rw [Im hy]; exact hn
 ·rw [if_neg he]
  have hH : (s'.app o.dst (some (.cnd e v)) wr).H = s'.H := funext fun j => by
   show (match wr.lookup j with | some ob => ob | none => s'.H j) = s'.H j
   cases hj : wr.lookup j with
   | none => rfl
   | some ob =>
    have hmem : (j, ob) ∈ wr := fI hj
    obtain ⟨h1, h2⟩ := hf (by simpa using he) _ hmem
    exact h2.symm.trans (hag.2 j h1).symm
  refine hK β μ _ W ⟨?_, ?_⟩
  ·refine (FR.put (s := s') (wr := wr) hr.f hd' fun x hx => ?_).weaken fun n hn => .inl hn
   obtain rfl := Option.some.inj hx
   refine ⟨?_, fun n hn => hmv n ?_⟩
   ·simp only [cP]; rw [if_neg he]; trivial
   ·cases v with
    | cnd gs x => cases hp
    | c x => exact hn
    | agg l => exact hn
    | tup l => exact hn
  ·rw [hH]
   exact hr.w.weaken fun n hn => .inl hn
theorem Qg {C : bP} {o : Oper} {L : List (Nat × AV)} {G : List (Nat × aY)} {F : FuncId} {As Bs : List AV} {σ : Nat → Nat} {k : Nat} {Gc Gf : List (Nat × aY)} {r v : AV} (h : xZ C o L = some (F, As)) (hF : bQ C.E F) (hB : uQ σ As Bs) (hc : cN C.E F k Bs Gc r Gf) (hok : yV k σ none 0 Gc Gf (fun n => G.lookup n)) (hr : r.pub = some v) : OpWO C o L G v (jX σ Gc Gf none) (Gc.map fun p => σ p.1) := by
 unfold xZ at h
 split at h
 ·rename_i F' args ts ho
  split at h
  ·rename_i As' h3
   simp only [Option.some.injEq, Prod.mk.injEq] at h
   obtain ⟨rfl, rfl⟩ := h
   intro s' U β μ a W he hfoot hrel Q K hK
   unfold Oper.wp
   rw [wH (args := args) (ts := ts) hF ho, Oper.upon_enter]
   obtain ⟨ea, eb⟩ := xL h3
   obtain ⟨g1, g2⟩ := sC hB
   rw [show args.map a.eval = (args.toList.map a.eval).toArray from by rw [← Array.toList_map, Array.toArray_toList]]
   have hH : ∀ n p, Gc.lookup n = some p → s'.H (σ n) = some (p.ren σ) := fun n p hn => by
    have hm := fI hn
    rw [hfoot (σ n) (List.mem_map.2 ⟨_, hm, rfl⟩)]
    exact hok.own _ hm
   have hden : oU μ (fun n => β (σ n)) Bs (args.toList.map a.eval) := by
    refine ⟨by rw [List.length_map, ← g1, ea], fun j B hj => ?_⟩
    obtain ⟨A, hA', hAB⟩ := g2 j B hj
    obtain ⟨x, hx, hxA⟩ := eb j A hA'
    have hd : cP μ β A (a.eval x) := St.ev_den hrel ((he x (by rw [ho]; simp only [Op.operands, Call.operands]; have := List.mem_of_getElem? hx; simp only [Array.mem_toList_iff] at this; simp [this])).trans ((eE rfl x).trans hxA))
    refine ⟨a.eval x, by simp [hx], ?_⟩
    rcases hAB with h1 | ⟨h1, h2⟩
    ·exact (hO h1 hd).den
    ·subst h1; exact (rM h2).1 hd
   have howns : Vx (fun n => Gc.lookup n) (fun n => β (σ n)) μ W := by
    refine ⟨fun n p hn => Ax.1 (hrel.w.own _ _ (hH n p hn)), fun n m p q hn hm h0 h0' he => ?_, fun n p hn h0 => yA.1 (hrel.w.sep _ _ (hH n p hn) h0)⟩
    exact hok.inj n m ((hok.dom n).2 ⟨p, hn⟩) ((hok.dom m).2 ⟨q, hm⟩) (hrel.w.inj _ _ _ _ (hH n p hn) (hH m q hm) h0 h0' he)
   refine (hc (fun n => β (σ n)) μ W _ hrel.w.imm hrel.w.glob howns hden).mono ?_
   rintro e W' ⟨y, r', G', β'c, μ', rfl, ⟨hrr, hGf⟩, hy0, hleft⟩
   have hy : cP μ' β'c r y := by
    rcases hrr with rfl | hrr
    ·exact hy0
    ·exact (hO hrr hy0).den
   have hback : Us k σ none 0 Gf s'.H (s'.app none none (jX σ Gc Gf none)).H := Ci ⟨fun p hp => by
    rw [hfoot (σ p.1) (List.mem_map.2 ⟨_, hp, rfl⟩)]
    exact hok.own p hp, hok.dom, hok.inj, hok.gf, hok.new, hok.ne⟩
   have hwr := hrel.w.call hleft (fun n p hn => hH n p hn) hok.dom hok.inj (Gf := Gf) (nw := none) (nm := 0) (fun n p hn => ⟨hGf n p hn, hok.gf _ (fI hn)⟩) (fun k' hk' => (nomatch hk')) hback
   have hwr2 : WR C (s'.app none none (jX σ Gc Gf none)).H (fun j => U j ∨ j ∈ xH none 0) β μ' W' := hwr
   refine hK μ' W' y (hwr2.weaken fun n hn => ?_) hleft.le ((hO hr hy).denT)
   rcases hn with hn | hn
   ·exact hn
   ·simp [xH] at hn
  ·cases h
 ·cases h
section
variable {C : bP} {ops : Array Oper} {dr : Bool} {T : List (List Nat)} {b i : Nat} {o : Oper} {os : List Oper} {D D' : List (Nat × Fx)} {L L' : List (Nat × AV)} {G G' : List (Nat × aY)} {lim : Nat} {K : St → Prop}
theorem yM {e : List Bool} (l : Ls) {F : FuncId} {As Bs : List AV} {σ : List (Nat × Nat)} {k : Nat} {Gc Gf : List (Nat × aY)} {r v : AV} (hw : oB ops o L = some e) (hs : l.have_ L = l.want e) (hd : nX C.n o = true) (hp : v.plain = true) (hlc : l.chk ops o = true) (h : xZ C o l.st = some (F, As)) (hF : bQ C.E F) (hB : uQ (dL σ) As Bs) (hc : e.all id = true → cN C.E F k Bs Gc r Gf) (hok : sR k σ Gc Gf = true) (ho : Gc.map (fun p => G.lookup (dL σ p.1)) = Gc.map (fun p => some (p.2.ren (dL σ)))) (hr : r.pub = some v)
  (hf : e.all id = false → (jX (dL σ) Gc Gf none).map (·.2) = (jX (dL σ) Gc Gf none).map fun q => G.lookup q.1) (hchk : gR dr T b i D (some (.cnd e v)) (jX (dL σ) Gc Gf none) (Gc.map fun p => dL σ p.1) [] = true) (hL : kM o.dst (some (.cnd e v)) L = L') (hG : sI (jX (dL σ) Gc Gf none) G = G') (hD : fN dr D i (Gc.map fun p => dL σ p.1) (jX (dL σ) Gc Gf none) = D') (hk : RX C ops dr T b (i + 1) os D' (mk L' G' lim) K) : RX C ops dr T b i (o :: os) D (mk L G lim) K := by
 subst hL hD hG
 refine kW (fun hi => Qe (lim := lim) hi hw hd hp hs hlc (fun he => Qg h hF hB (hc he) (yP hok ho) hr) fun he q hq => ⟨?_, ?_⟩) hchk ?_
 ·unfold jX at hq
  simp only [List.append_nil] at hq
  obtain ⟨p, hp', rfl⟩ := List.mem_map.1 hq
  exact List.mem_map.2 ⟨p, hp', rfl⟩
 ·obtain ⟨j, hj⟩ := List.getElem?_of_mem hq
  have := congrArg (fun l => l[j]?) (hf he)
  simp only [List.getElem?_map, hj, Option.map_some, Option.some.injEq] at this
  exact this.symm
 ·rw [gJ]
  exact hk
end
end Go.Bm
namespace Go.Bm
open Go
def Zs (bytes : Nat) (l : Int) : Option Nat := if 0 ≤ l ∧ (bytes : Int) * l ≤ 281474976710656 ∧ l ≤ (maxLen : Int) then some l.toNat else none
theorem Tl {C : bP} {ops : Array Oper} {i : Nat} {o : Oper} {s : St} {n : Nat} (hi : ops[i]? = some o) (hw : gB ops o s.fr = some true) (hd : ∀ d, o.dst = some d → d < C.n) {x y : Operand} {T e : TypeId} {j : TI} {z1 z2 : Nat} {z3 : List Value} (ho : o.op = .makeSlice T x y)
  (hT : C.E.ti T = some ⟨.sl e, z1, z2, z3⟩) (hj : C.E.ti e = some j) (hpos : 0 < j.size) (hz : j.zero.length = j.size) (hone : j.zero.all Value.oneCell' = true) {k k' : IntKind} {l : Int} {q : Nat} (hx : s.ev C x = some (.c (.v (.int k l)))) (hy : s.ev C y = some (.c (.v (.int k' l)))) (hq : Zs j.bytes l = some q) :
  tU C ops i o s (some (.c (.row n))) [(n, some (.vec e j.size (List.replicate q (j.zero.map .v))))] [] [n] := by
 unfold Zs at hq
 split at hq
 ·rename_i hb
  obtain rfl := Option.some.inj hq
  obtain ⟨b1, b2, b3⟩ := hb
  refine Aw (cap := l.toNat) (len := l.toNat) hi hw hd fun s' U β μ a W hag hr => ?_
  have hkx : a.eval x = .int k l := dV (St.ev_den hr ((St.ev_agree (C := C) hag (by rw [ho]; simp [Op.operands])).trans hx))
  have hky : a.eval y = .int k' l := dV (St.ev_den hr ((St.ev_agree (C := C) hag (by rw [ho]; simp [Op.operands])).trans hy))
  obtain ⟨inf, i1, i2, i3, zv, i4, i5, _⟩ := (C.E.ok e j hj).info
  have hu : C.E.P.underlying T = some (.slice e) := (C.E.ok T _ hT).k
  have hzs : zv.cells.size = j.size := by rw [← hz, ← i5]; simp
  have hrun := run_make (P := C.E.P) W T e inf zv hu i1 i4 k k' l l b1 (Int.le_refl _) (by rw [i3]; exact b2) (by simpa [maxLen] using b3)
  have hov : (execOp a.eval o).run C.E.P W = .ok (.value (.slice (some ⟨W.heap.size, 0, none⟩) l.toNat l.toNat)) (W.alloc (.cells (madeCells zv.cells (l.toNat * inf.size)) e)) := by
   simp only [execOp, ho, hkx, hky]
   exact gL _ _ _ hrun
  refine ⟨_, _, hov, ?_, ?_, ?_⟩
  ·intro m hm; simp [aY.ments] at hm
  ·intro W' hW
   refine ⟨by simp, .inr ⟨rfl, _, hW, ?_, ?_, ?_, fun p el hp => ⟨?_, fun q c hc => ?_⟩⟩⟩
   ·rw [size_madeCells, i2]
   ·show l.toNat ≤ maxLen
    omega
   ·simp
   ·rw [List.getElem?_replicate] at hp
    split at hp
    ·cases hp; simp [hz]
    ·cases hp
   ·rw [List.getElem?_replicate] at hp
    split at hp
    ·rename_i hpl
     cases hp
     rw [List.getElem?_map, Option.map_eq_some_iff] at hc
     obtain ⟨u, hu', rfl⟩ := hc
     have hql := (List.getElem?_eq_some_iff.1 hu').1
     rw [hz] at hql
     have hlt : p * j.size + q < l.toNat * inf.size := by
      rw [i2]
      have : (p + 1) * j.size ≤ l.toNat * j.size := Nat.mul_le_mul_right _ hpl
      rw [Nat.add_mul] at this
      omega
     refine ⟨u, ?_, List.all_eq_true.1 hone u (List.mem_of_getElem? hu'), .v _⟩
     unfold madeCells
     rw [Array.getElem?_map, Array.getElem?_range, if_pos hlt]
     have hm : (p * j.size + q) % zv.cells.size = q := by rw [hzs, Nat.add_comm, Nat.add_mul_mod_self_right, Nat.mod_eq_of_lt hql]
     simp only [Option.map_some, hm, Option.some.injEq]
     rw [← i5, Array.getElem?_toList] at hu'
     rw [getElem!_def, hu']
    ·cases hp
  ·show _ = (vK β n _ n).sl (vK β n _ n).len
   rw [dT]
   rfl
 ·cases hq
def mkB (C : bP) (ops : Array Oper) (o : Oper) (L : List (Nat × AV)) : Option (Nat × Nat × Nat × List CV × Int × Int) :=
 match o.op with
 | .makeSlice T x y => match C.E.ti T, gB ops o (fun t => L.lookup t), nX C.n o, (mk L [] 0).ev C x, (mk L [] 0).ev C y with
  | some ⟨.sl e, _, _, _⟩, some true, true, some (.c (.v (.int _ l))), some (.c (.v (.int _ l'))) => match C.E.ti e with
   | some j => if (decide (0 < j.size) && Nat.beq j.zero.length j.size) && j.zero.all Value.oneCell' then some (e, j.size, j.bytes, j.zero.map .v, l, l') else none
   | none => none
  | _, _, _, _, _ => none
 | _ => none
section
variable {C : bP} {ops : Array Oper} {dr : Bool} {T : List (List Nat)} {b i : Nat} {o : Oper} {os : List Oper} {D D' : List (Nat × Fx)} {L L' : List (Nat × AV)} {G G' : List (Nat × aY)} {lim : Nat} {K : St → Prop}
theorem Uw {α : Type} {enc : α → List CV} {e sz bytes nm q : Nat} {l : Int} (z : α) (he : Zs bytes l = some q) (h : mkB C ops o L = some (e, sz, bytes, enc z, l, l)) (hnm : b + i = nm)
  (hchk : gR dr T b i D (some (.c (.row nm))) [(nm, some (.vec e sz ((List.replicate q z).map enc)))] [] [nm] = true) (hL : kM o.dst (some (.c (.row nm))) L = L') (hG : sI [(nm, some (.vec e sz ((List.replicate q z).map enc)))] G = G') (hD : fN dr D i [] [(nm, some (.vec e sz ((List.replicate q z).map enc)))] = D') (hk : RX C ops dr T b (i + 1) os D' (mk L' G' lim) K) : RX C ops dr T b i (o :: os) D (mk L G lim) K := by
 subst hL hD hG hnm
 have hev : ∀ x, (mk L G lim).ev C x = (mk L [] 0).ev C x := fun x => eE rfl x
 unfold mkB at h
 split at h
 ·rename_i T1 x y ho
  split at h
  ·rename_i e1 z1 z2 z3 k l1 k' l2 hT hw hd hx hy
   split at h
   ·rename_i j hj
    split at h
    ·rename_i hc
     simp only [Bool.and_eq_true, decide_eq_true_eq] at hc
     obtain ⟨⟨c1, c2⟩, c3⟩ := hc
     simp only [Option.some.injEq, Prod.mk.injEq] at h
     obtain ⟨rfl, rfl, rfl, h5, rfl, rfl⟩ := h
     have := fun hi => Tl (C := C) (ops := ops) (i := i) (o := o) (s := mk L G lim) (n := b + i) hi hw (dN hd) ho hT hj c1 (Nat.eq_of_beq_eq_true c2) c3 ((hev x).trans hx) ((hev y).trans hy) he
     rw [h5, ← List.map_replicate] at this
     refine kW this hchk ?_
     rw [gJ]
     exact hk
    ·cases h
   ·cases h
  ·cases h
 ·cases h
end
end Go.Bm
namespace Go.Bm
open Go
section
variable {C : bP} {ops : Array Oper} {dr : Bool} {T : List (List Nat)} {b i : Nat} {o : Oper} {os : List Oper} {D D' : List (Nat × Fx)} {L L' : List (Nat × AV)} {G G' : List (Nat × aY)} {lim : Nat} {K : St → Prop}
end
end Go.Bm
namespace Go.Bm
open Go Go.RowKit
theorem Oy {μ : bV} {W : World} {l : List CV} {b : Nat} (hi : fF μ W) (hd : cA μ (.imm l) (.pointer (some ⟨b, 0, none⟩))) (j : Nat) (v : Value) (hj : l[j]? = some (.v v)) : W.cell? ⟨b, j, none⟩ = some v := by
 generalize hp : (Value.pointer (some ⟨b, 0, none⟩)) = p at hd
 generalize hq : CV.imm l = q at hd
 cases hd with
 | imm l' b' off w hw hd =>
  injection hq with hq
  subst hq
  injection hp with hp
  injection hp with hp
  injection hp with h1 h2
  subst h1 h2
  have h3 := hw j _ hj
  have h4 : w j = v := by
   have := hd j _ hj
   generalize w j = u at this
   cases this
   rfl
  rw [h4, Nat.zero_add] at h3
  exact rL hi h3
 | _ => cases hq
theorem Ve {E : oD} {F : FuncId} {vs : List Value} {x : Value} (h : ∀ (μ : bV) (W : World), fF μ W → E.globOk μ → Calls E.P F vs.toArray W fun e W' => e = .returned x ∧ Below W.heap.size W W') : cN E F 0 (vs.map fun v => .c (.v v)) [] (.c (.v x)) [] := by
 intro β μ W vs' himm hg how ha
 have hvs : vs' = vs := by
  refine List.ext_getElem (by rw [ha.1, List.length_map]) fun i h1 h2 => ?_
  obtain ⟨v, hv, hd⟩ := ha.2 i (.c (.v vs[i])) (by rw [List.getElem?_map, List.getElem?_eq_getElem h2]; rfl)
  rw [List.getElem?_eq_getElem h1] at hv
  rw [Option.some.inj hv]
  exact dV hd
 subst hvs
 refine (h μ W himm hg).mono ?_
 rintro e W' ⟨rfl, hb⟩
 have hlt : ∀ b o, W.heap[b]? = some o → W'.heap[b]? = some o := fun b o hbo => by
  rw [hb.block b (by by_cases hq : b < W.heap.size; exact hq; rw [Array.getElem?_eq_none (by omega)] at hbo; cases hbo)]
  exact hbo
 refine ⟨x, .c (.v x), fun _ => none, β, μ, rfl, ⟨.inl rfl, fun n o hn => (nomatch hn)⟩, (cA.v x : cA μ (.v x) x), ⟨⟨fun n o hn => (nomatch hn), fun n m o p hn => (nomatch hn), fun n o hn => (nomatch hn)⟩, ⟨fun b j v hv => ?_, fun b es clk hv => hlt _ _ (himm.m b es clk hv)⟩, bV.le_refl μ, fun n hn => rfl, hb.os, hb.tape, hb.output, hb.size, fun b h1 _ => hb.block b h1, fun n o hn => (nomatch hn), fun b j v hv => .inl hv, fun b z hv => .inl hv⟩⟩
 obtain ⟨cs, T, fr, h1, h2⟩ := himm.c b j v hv
 exact ⟨cs, T, fr, hlt _ _ h1, h2⟩
end Go.Bm
namespace Go.Bm
open Go
section
variable {C : bP} {o : Oper} {L : List (Nat × AV)} {G : List (Nat × aY)}
end
end Go.Bm
