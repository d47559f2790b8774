import Derived.Test.YtojkihhnioeggaaGreatDoorQEBD
import Derived.Below
import Derived.Test.YtojkihhnioeggaaGreatDoorQEBC
import Derived.WalkKit
import Derived.WalkSpells
import Derived.WalkLawsBesides
import Derived.Deep.QuietTactic
import Derived.BigQuiet
import Derived.BigRegion
import Derived.Lib.Hide
import Derived.Deep.RegionWith
set_option linter.all false
namespace Go.Bm
open Go
theorem Nj {C : cD} {ops : Array Oper} {i : Nat} {o : Oper} {s : St} {n : Nat} (hi : ops[i]? = some o) (hw : gN ops o s.fr = some true) (hd : ∀ d, o.dst = some d → d < C.n) {x y : Operand} {T e : TypeId} {j : TI} {z1 z2 : Nat} {z3 : List Value} (ho : o.op = .call ⟨.builtin .append, #[x, y], #[T, T]⟩)
  (hT : C.E.ti T = some ⟨.sl e, z1, z2, z3⟩) (hj : C.E.ti e = some j) (hpos : 0 < j.size) (hz : j.zero.length = j.size) {els : List (List CV)} (hx : s.ev C x = some (.c (.v (.slice none 0 0))))
  (hy : s.ev C y = some (.c (.lit els)) ∨ ∃ q, s.ev C y = some (.c (.app q els))) (hlen : ∀ x, x ∈ els → x.length = j.size) (h63 : els.length ≤ maxLen) (hbytes : els.length * j.bytes ≤ 140737488355328) :
  wW C ops i o s (some (.c (.row n))) [(n, some (.vec e j.size els))] [] [n] := by
 refine rP hi hw hd fun s' U β μ a W hag hn hm hr => ?_
 have hnU : ¬ U n := hn n (by simp)
 have hox : x ∈ o.op.operands := by rw [ho]; simp [Op.operands, Call.operands]
 have hoy : y ∈ o.op.operands := by rw [ho]; simp [Op.operands, Call.operands]
 have hkx : a.eval x = gJ.sl 0 := dY (St.ev_den hr ((St.ev_agree (C := C) hag hox).trans hx))
 have hyd : cQ μ (.lit els) (a.eval y) := by
  rcases hy with h1 | ⟨m, h1⟩
  ·exact St.ev_den hr ((St.ev_agree (C := C) hag hoy).trans h1)
  ·exact (rH (St.ev_den hr ((St.ev_agree (C := C) hag hoy).trans h1))).1
 have hown : qT μ β W gJ (.vec e j.size []) := ⟨rfl, .inl ⟨rfl, rfl⟩⟩
 obtain ⟨W', k', hrun, r1, r2, r3, r4, r5, r6, r7, r8, r9⟩ := Gs (ty := o.type) hT hj hpos hz hr.w.imm hown (fun h0 => by simp [gJ] at h0) hyd hlen (by simpa using h63) (by simpa using hbytes)
 rw [List.nil_append] at r1 r2
 refine ⟨k'.sl k'.len, W', wT β n k', μ, .inl ?_, fun q hq => ?_, fun m hm => eW (fun e => hnU (e ▸ hm)), cL.le_refl μ, ?_⟩
 ·rw [gP ho]
  simp only [List.map_toArray, List.map_cons, List.map_nil, hkx]
  unfold builtin
  rw [Sem.run_bind]
  have : (Builtin.append_ #[T, T] o.type #[gJ.sl 0, a.eval y]).run C.E.P W = .ok (k'.sl k'.len) W' := hrun
  rw [this]
  rfl
 ·cases hq
  show k'.sl k'.len = (wT β n k' n).sl (wT β n k' n).len
  rw [eG]
 ·refine hr.w.put_new (old := none) (ob := .vec e j.size els) hnU (fun q => ?_) r5 r6 r7 r8 (fun b hb hne => r9 b hb fun h0 => by simp [gJ] at h0) (by simp [bH.ments]) (jK.refl μ _) r3 (r1 _) r2 (fun h0 => ?_)
  ·refine (oJ q s'.H).trans ?_
   by_cases e1 : q = n
   ·simp [e1]
   ·simp [e1]
  ·rcases r4 h0 with h1 | ⟨h1, h2⟩
   ·exact .inl h1
   ·simp [gJ] at h1
def Zb (C : cD) (ops : Array Oper) (o : Oper) (L : List (Nat × AV)) : Option (Nat × Nat × Nat × List (List CV)) :=
 match o.op with
 | .call ⟨.builtin .append, args, ts⟩ => match args.toList, ts.toList, Wn C (ts.getD 0 0), gN ops o (fun t => L.lookup t), pX C.n o with
  | [x, y], [T, T'], some (e, j), some true, true => if (Nat.beq T T' && decide (0 < j.size)) && Nat.beq j.zero.length j.size then
    match (mk L [] 0).ev C x, (match (mk L [] 0).ev C y with | some (.c (.lit els)) => some els | some (.c (.app _ els)) => some els | _ => none) with
    | some (.c (.v (.slice none 0 0))), some els => some (e, j.size, j.bytes, els)
    | _, _ => none
   else none
  | _, _, _, _, _ => none
 | _ => none
section
variable {C : cD} {ops : Array Oper} {dr : Bool} {T : List (List Nat)} {b i : Nat} {o : Oper} {os : List Oper} {D D' : List (Nat × Fx)} {L L' : List (Nat × AV)} {G G' : List (Nat × bH)} {lim : Nat} {K : St → Prop}
theorem xA {α : Type} {enc : α → List CV} {els r : List α} {e sz bytes nm : Nat} (he : pA bytes [] els = some r) (h : Zb C ops o L = some (e, sz, bytes, els.map enc)) (hlen : ∀ x, (enc x).length = sz) (hnm : b + i = nm)
  (hchk : iO dr T b i D (some (.c (.row nm))) [(nm, some (.vec e sz (r.map enc)))] [] [nm] = true) (hL : lG o.dst (some (.c (.row nm))) L = L') (hG : uE [(nm, some (.vec e sz (r.map enc)))] G = G') (hD : fM dr D i [] [(nm, some (.vec e sz (r.map enc)))] = D') (hk : RX C ops dr T b (i + 1) os D' (mk L' G' lim) K) : RX C ops dr T b i (o :: os) D (mk L G lim) K := by
 subst hL hD hG hnm
 unfold pA at he
 split at he
 ·rename_i hb
  obtain rfl := Option.some.inj he
  have hall : ∀ x, x ∈ els.map enc → x.length = sz := fun x hx => by
   obtain ⟨y, _, rfl⟩ := List.mem_map.1 hx
   exact hlen y
  have hev : ∀ x, (mk L G lim).ev C x = (mk L [] 0).ev C x := fun x => eN rfl x
  unfold Zb at h
  split at h
  ·rename_i args ts ho0
   split at h
   ·rename_i x y T1 T2 e0 j0 hax hts hap hw hc2
    split at h
    ·rename_i hc1
     simp only [Bool.and_eq_true, decide_eq_true_eq] at hc1
     obtain ⟨⟨hc1, hpos⟩, hzz⟩ := hc1
     have hzz := Nat.eq_of_beq_eq_true hzz
     have hTT := Nat.eq_of_beq_eq_true hc1
     subst hTT
     have ho : o.op = .call ⟨.builtin .append, #[x, y], #[T1, T1]⟩ := by
      rw [ho0, ← Array.toArray_toList (xs := args), ← Array.toArray_toList (xs := ts), hax, hts]
     have hts0 : ts.getD 0 0 = T1 := by
      have : ts = #[T1, T1] := by rw [← Array.toArray_toList (xs := ts), hts]
      rw [this]; rfl
     rw [hts0] at hap
     unfold Wn at hap
     split at hap
     ·rename_i e' z1 z2 z3 hT
      split at hap
      ·rename_i j hj
       simp only [Option.some.injEq, Prod.mk.injEq] at hap
       obtain ⟨rfl, rfl⟩ := hap
       split at h
       ·rename_i els' hx hy
        simp only [Option.some.injEq, Prod.mk.injEq] at h
        obtain ⟨rfl, rfl, rfl, rfl⟩ := h
        have hy' : (mk L G lim).ev C y = some (.c (.lit (els.map enc))) ∨ ∃ q, (mk L G lim).ev C y = some (.c (.app q (els.map enc))) := by
         split at hy
         ·rename_i els2 hy2
          obtain rfl := Option.some.inj hy
          exact .inl ((hev y).trans hy2)
         ·rename_i q els2 hy2
          obtain rfl := Option.some.inj hy
          exact .inr ⟨q, (hev y).trans hy2⟩
         ·cases hy
        have := fun hi => Nj (C := C) (ops := ops) (i := i) (o := o) (s := mk L G lim) (n := b + i) hi hw (dW hc2) ho hT hj hpos hzz ((hev x).trans hx) hy' hall (by have := hb.2; simp only [List.length_map, maxLen]; simpa using this) (by simpa using hb.1)
        refine mH this hchk ?_
        rw [iA]
        exact hk
       ·cases h
      ·cases hap
     ·cases hap
    ·cases h
   ·cases h
  ·cases h
 ·cases he
end
end Go.Bm
namespace Go.Bm
open Go
section
variable {C : cD} {ops : Array Oper} {dr : Bool} {T : List (List Nat)} {b i : Nat} {o : Oper} {os : List Oper} {D D' : List (Nat × Fx)} {L L' : List (Nat × AV)} {G G' : List (Nat × bH)} {lim : Nat} {K : St → Prop}
end
end Go.Bm
namespace Go.Bm
open Go
def ifO {α : Type} (es : List Bool) (x : Option α) (d : α) : Option α := if es.all id = true then x else some d
theorem Vw {α : Type} {es : List Bool} {x : Option α} {d y : α} (h : ifO es x d = some y) (he : es.all id = true) : x = some y := by unfold ifO at h; rwa [if_pos he] at h
theorem Vg {α : Type} {es : List Bool} {x : Option α} {d y : α} (h : ifO es x d = some y) (he : es.all id = false) : y = d := by unfold ifO at h; rw [if_neg (by simp [he])] at h; exact (Option.some.inj h).symm
def OpWO (C : cD) (o : Oper) (L : List (Nat × AV)) (G : List (Nat × bH)) (v : AV) (wr : List (Nat × Option bH)) (foot : List Nat) : Prop :=
 ∀ (s' : St) (U : Nat → Prop) (β : Nat → Bk) (μ : cL) (a : Act) (W : World), (∀ x, x ∈ o.op.operands → s'.ev C x = (mk L G 0).ev C x) → (∀ n, n ∈ foot → s'.H n = G.lookup n) → pV C s' U β μ a W →
  ∀ (Q : Exit → Act → World → Prop) (K : Act → World → Prop), (∀ μ' W' y, WR C (s'.app none none wr).H U β μ' W' → μ.le μ' → uN μ' β v y → K (a.put o.dst y) W') → o.wp C.E.P a W K Q
theorem Xl {C : cD} {ops : Array Oper} {i : Nat} {o : Oper} {L : List (Nat × AV)} {G : List (Nat × bH)} {lim : Nat} {e : List Bool} {l : Ls} {v : AV} {wr : List (Nat × Option bH)} {foot : List Nat} (hi : ops[i]? = some o) (hw : pN ops o L = some e) (hd : pX C.n o = true) (hp : v.plain = true) (hs : l.have_ L = l.want e) (hc : l.chk ops o = true) (h : e.all id = true → OpWO C o l.st G v wr foot)
  (hf : e.all id = false → ∀ q, q ∈ wr → q.1 ∈ foot ∧ G.lookup q.1 = q.2) : wW C ops i o (mk L G lim) (some (.cnd e v)) wr foot [] := by
 intro s' U β μ a W hag _ hm hr Q K hK
 have hd' := dW hd
 have hmv : ∀ n, n ∈ v.ments → U n := fun n hn => by
  have := hm.1 (.cnd e v) rfl n (by
   show n ∈ v.ments0
   cases v with
   | cnd gs x => cases hp
   | c x => exact hn
   | agg l => exact hn
   | tup l => exact hn)
  simpa using this
 unfold wpOp
 simp only [hi]
 rw [zQ hw hag hr]
 by_cases he : e.all id = true
 ·rw [if_pos he]
  left
  have hr2 := uH he hs hc hag hr
  refine h he ⟨fun t => l.st.lookup t, s'.H, s'.lim⟩ U β μ a W (fun x hx => ?_) (fun n hn => hag.2 n hn) hr2 Q K fun μ' W' y hwr hmu hy => hK β μ' _ W' ⟨?_, hwr.weaken fun n hn => .inl hn⟩
  ·cases x with
   | tmp t => rfl
   | _ => rfl
  ·refine (FR.put (s := s') (hr.f.mono (fun _ _ => rfl) hmu) hd' fun x hx => ?_).weaken fun n hn => .inl hn
   obtain rfl := Option.some.inj hx
   refine ⟨?_, fun n hn => hmv n ?_⟩
   ·simp only [dL]; rw [if_pos he]; exact hy
   ·rw [Og hy]; exact hn
 ·rw [if_neg he]
  have hH : (s'.app o.dst (some (.cnd e v)) wr).H = s'.H := funext fun j => by
   show (match wr.lookup j with | some ob => ob | none => s'.H j) = s'.H j
   cases hj : wr.lookup j with
   | none => rfl
   | some ob =>
    have hmem : (j, ob) ∈ wr := gI hj
    obtain ⟨h1, h2⟩ := hf (by simpa using he) _ hmem
    exact h2.symm.trans (hag.2 j h1).symm
  refine hK β μ _ W ⟨?_, ?_⟩
  ·refine (FR.put (s := s') (wr := wr) hr.f hd' fun x hx => ?_).weaken fun n hn => .inl hn
   obtain rfl := Option.some.inj hx
   refine ⟨?_, fun n hn => hmv n ?_⟩
   ·simp only [dL]; rw [if_neg he]; trivial
   ·cases v with
    | cnd gs x => cases hp
    | c x => exact hn
    | agg l => exact hn
    | tup l => exact hn
  ·rw [hH]
   exact hr.w.weaken fun n hn => .inl hn
theorem Wx {C : cD} {o : Oper} {L : List (Nat × AV)} {G : List (Nat × bH)} {F : FuncId} {As Bs : List AV} {σ : Nat → Nat} {k : Nat} {Gc Gf : List (Nat × bH)} {r v : AV} (h : Cn C o L = some (F, As)) (hF : bX C.E F) (hB : xM σ As Bs) (hc : dC C.E F k Bs Gc r Gf) (hok : Ef k σ none 0 Gc Gf (fun n => G.lookup n)) (hr : r.pub = some v) : OpWO C o L G v (lS σ Gc Gf none) (Gc.map fun p => σ p.1) := by
 unfold Cn at h
 split at h
 ·rename_i F' args ts ho
  split at h
  ·rename_i As' h3
   simp only [Option.some.injEq, Prod.mk.injEq] at h
   obtain ⟨rfl, rfl⟩ := h
   intro s' U β μ a W he hfoot hrel Q K hK
   unfold Oper.wp
   rw [Ah (args := args) (ts := ts) hF ho, Oper.upon_enter]
   obtain ⟨ea, eb⟩ := Bu h3
   obtain ⟨g1, g2⟩ := uY hB
   rw [show args.map a.eval = (args.toList.map a.eval).toArray from by rw [← Array.toList_map, Array.toArray_toList]]
   have hH : ∀ n p, Gc.lookup n = some p → s'.H (σ n) = some (p.ren σ) := fun n p hn => by
    have hm := gI hn
    rw [hfoot (σ n) (List.mem_map.2 ⟨_, hm, rfl⟩)]
    exact hok.own _ hm
   have hden : rU μ (fun n => β (σ n)) Bs (args.toList.map a.eval) := by
    refine ⟨by rw [List.length_map, ← g1, ea], fun j B hj => ?_⟩
    obtain ⟨A, hA', hAB⟩ := g2 j B hj
    obtain ⟨x, hx, hxA⟩ := eb j A hA'
    have hd : dL μ β A (a.eval x) := St.ev_den hrel ((he x (by rw [ho]; simp only [Op.operands, Call.operands]; have := List.mem_of_getElem? hx; simp only [Array.mem_toList_iff] at this; simp [this])).trans ((eN rfl x).trans hxA))
    refine ⟨a.eval x, by simp [hx], ?_⟩
    rcases hAB with h1 | ⟨h1, h2⟩
    ·exact (jJ h1 hd).den
    ·subst h1; exact (uD h2).1 hd
   have howns : Owns (fun n => Gc.lookup n) (fun n => β (σ n)) μ W := by
    refine ⟨fun n p hn => Fy.1 (hrel.w.own _ _ (hH n p hn)), fun n m p q hn hm h0 h0' he => ?_, fun n p hn h0 => Bh.1 (hrel.w.sep _ _ (hH n p hn) h0)⟩
    exact hok.inj n m ((hok.dom n).2 ⟨p, hn⟩) ((hok.dom m).2 ⟨q, hm⟩) (hrel.w.inj _ _ _ _ (hH n p hn) (hH m q hm) h0 h0' he)
   refine (hc (fun n => β (σ n)) μ W _ hrel.w.imm hrel.w.glob howns hden).mono ?_
   rintro e W' ⟨y, r', G', β'c, μ', rfl, ⟨hrr, hGf⟩, hy0, hleft⟩
   have hy : dL μ' β'c r y := by
    rcases hrr with rfl | hrr
    ·exact hy0
    ·exact (jJ hrr hy0).den
   have hback : Back k σ none 0 Gf s'.H (s'.app none none (lS σ Gc Gf none)).H := Ir ⟨fun p hp => by
    rw [hfoot (σ p.1) (List.mem_map.2 ⟨_, hp, rfl⟩)]
    exact hok.own p hp, hok.dom, hok.inj, hok.gf, hok.new, hok.ne⟩
   have hwr := hrel.w.call hleft (fun n p hn => hH n p hn) hok.dom hok.inj (Gf := Gf) (nw := none) (nm := 0) (fun n p hn => ⟨hGf n p hn, hok.gf _ (gI hn)⟩) (fun k' hk' => (nomatch hk')) hback
   have hwr2 : WR C (s'.app none none (lS σ Gc Gf none)).H (fun j => U j ∨ j ∈ Bz none 0) β μ' W' := hwr
   refine hK μ' W' y (hwr2.weaken fun n hn => ?_) hleft.le ((jJ hr hy).denT)
   rcases hn with hn | hn
   ·exact hn
   ·simp [Bz] at hn
  ·cases h
 ·cases h
section
variable {C : cD} {ops : Array Oper} {dr : Bool} {T : List (List Nat)} {b i : Nat} {o : Oper} {os : List Oper} {D D' : List (Nat × Fx)} {L L' : List (Nat × AV)} {G G' : List (Nat × bH)} {lim : Nat} {K : St → Prop}
theorem yQ {e : List Bool} (l : Ls) {F : FuncId} {As Bs : List AV} {σ : List (Nat × Nat)} {k : Nat} {Gc Gf : List (Nat × bH)} {r v : AV} (hw : pN ops o L = some e) (hs : l.have_ L = l.want e) (hd : pX C.n o = true) (hp : v.plain = true) (hlc : l.chk ops o = true) (h : Cn C o l.st = some (F, As)) (hF : bX C.E F) (hB : xM (eA σ) As Bs) (hc : e.all id = true → dC C.E F k Bs Gc r Gf) (hok : vV k σ Gc Gf = true) (ho : Gc.map (fun p => G.lookup (eA σ p.1)) = Gc.map (fun p => some (p.2.ren (eA σ)))) (hr : r.pub = some v)
  (hf : e.all id = false → (lS (eA σ) Gc Gf none).map (·.2) = (lS (eA σ) Gc Gf none).map fun q => G.lookup q.1) (hchk : iO dr T b i D (some (.cnd e v)) (lS (eA σ) Gc Gf none) (Gc.map fun p => eA σ p.1) [] = true) (hL : lG o.dst (some (.cnd e v)) L = L') (hG : uE (lS (eA σ) Gc Gf none) G = G') (hD : fM dr D i (Gc.map fun p => eA σ p.1) (lS (eA σ) Gc Gf none) = D') (hk : RX C ops dr T b (i + 1) os D' (mk L' G' lim) K) : RX C ops dr T b i (o :: os) D (mk L G lim) K := by
 subst hL hD hG
 refine mH (fun hi => Xl (lim := lim) hi hw hd hp hs hlc (fun he => Wx h hF hB (hc he) (Db hok ho) hr) fun he q hq => ⟨?_, ?_⟩) hchk ?_
 ·unfold lS at hq
  simp only [List.append_nil] at hq
  obtain ⟨p, hp', rfl⟩ := List.mem_map.1 hq
  exact List.mem_map.2 ⟨p, hp', rfl⟩
 ·obtain ⟨j, hj⟩ := List.getElem?_of_mem hq
  have := congrArg (fun l => l[j]?) (hf he)
  simp only [List.getElem?_map, hj, Option.map_some, Option.some.injEq] at this
  exact this.symm
 ·rw [iA]
  exact hk
end
end Go.Bm
namespace Go.Bm
open Go
def mkO (bytes : Nat) (l : Int) : Option Nat := if 0 ≤ l ∧ (bytes : Int) * l ≤ 281474976710656 ∧ l ≤ (maxLen : Int) then some l.toNat else none
theorem aA1 {C : cD} {ops : Array Oper} {i : Nat} {o : Oper} {s : St} {n : Nat} (hi : ops[i]? = some o) (hw : gN ops o s.fr = some true) (hd : ∀ d, o.dst = some d → d < C.n) {x y : Operand} {T e : TypeId} {j : TI} {z1 z2 : Nat} {z3 : List Value} (ho : o.op = .makeSlice T x y)
  (hT : C.E.ti T = some ⟨.sl e, z1, z2, z3⟩) (hj : C.E.ti e = some j) (hpos : 0 < j.size) (hz : j.zero.length = j.size) (hone : j.zero.all Value.oneCell' = true) {k k' : IntKind} {l : Int} {q : Nat} (hx : s.ev C x = some (.c (.v (.int k l)))) (hy : s.ev C y = some (.c (.v (.int k' l)))) (hq : mkO j.bytes l = some q) :
  wW C ops i o s (some (.c (.row n))) [(n, some (.vec e j.size (List.replicate q (j.zero.map .v))))] [] [n] := by
 unfold mkO at hq
 split at hq
 ·rename_i hb
  obtain rfl := Option.some.inj hq
  obtain ⟨b1, b2, b3⟩ := hb
  refine Ga (cap := l.toNat) (len := l.toNat) hi hw hd fun s' U β μ a W hag hr => ?_
  have hkx : a.eval x = .int k l := dY (St.ev_den hr ((St.ev_agree (C := C) hag (by rw [ho]; simp [Op.operands])).trans hx))
  have hky : a.eval y = .int k' l := dY (St.ev_den hr ((St.ev_agree (C := C) hag (by rw [ho]; simp [Op.operands])).trans hy))
  obtain ⟨inf, i1, i2, i3, zv, i4, i5, _⟩ := (C.E.ok e j hj).info
  have hu : C.E.P.underlying T = some (.slice e) := (C.E.ok T _ hT).k
  have hzs : zv.cells.size = j.size := by rw [← hz, ← i5]; simp
  have hrun := run_make (P := C.E.P) W T e inf zv hu i1 i4 k k' l l b1 (Int.le_refl _) (by rw [i3]; exact b2) (by simpa [maxLen] using b3)
  have hov : (execOp a.eval o).run C.E.P W = .ok (.value (.slice (some ⟨W.heap.size, 0, none⟩) l.toNat l.toNat)) (W.alloc (.cells (madeCells zv.cells (l.toNat * inf.size)) e)) := by
   simp only [execOp, ho, hkx, hky]
   exact iE _ _ _ hrun
  refine ⟨_, _, hov, ?_, ?_, ?_⟩
  ·intro m hm; simp [bH.ments] at hm
  ·intro W' hW
   refine ⟨by simp, .inr ⟨rfl, _, hW, ?_, ?_, ?_, fun p el hp => ⟨?_, fun q c hc => ?_⟩⟩⟩
   ·rw [size_madeCells, i2]
   ·show l.toNat ≤ maxLen
    omega
   ·simp
   ·rw [List.getElem?_replicate] at hp
    split at hp
    ·cases hp; simp [hz]
    ·cases hp
   ·rw [List.getElem?_replicate] at hp
    split at hp
    ·rename_i hpl
     cases hp
     rw [List.getElem?_map, Option.map_eq_some_iff] at hc
     obtain ⟨u, hu', rfl⟩ := hc
     have hql := (List.getElem?_eq_some_iff.1 hu').1
     rw [hz] at hql
     have hlt : p * j.size + q < l.toNat * inf.size := by
      rw [i2]
      have : (p + 1) * j.size ≤ l.toNat * j.size := Nat.mul_le_mul_right _ hpl
      rw [Nat.add_mul] at this
      omega
     refine ⟨u, ?_, List.all_eq_true.1 hone u (List.mem_of_getElem? hu'), .v _⟩
     unfold madeCells
     rw [Array.getElem?_map, Array.getElem?_range, if_pos hlt]
     have hm : (p * j.size + q) % zv.cells.size = q := by rw [hzs, Nat.add_comm, Nat.add_mul_mod_self_right, Nat.mod_eq_of_lt hql]
     simp only [Option.map_some, hm, Option.some.injEq]
     rw [← i5, Array.getElem?_toList] at hu'
     rw [getElem!_def, hu']
    ·cases hp
  ·show _ = (wT β n _ n).sl (wT β n _ n).len
   rw [eG]
   rfl
 ·cases hq
def mkB (C : cD) (ops : Array Oper) (o : Oper) (L : List (Nat × AV)) : Option (Nat × Nat × Nat × List CV × Int × Int) :=
 match o.op with
 | .makeSlice T x y => match C.E.ti T, gN ops o (fun t => L.lookup t), pX C.n o, (mk L [] 0).ev C x, (mk L [] 0).ev C y with
  | some ⟨.sl e, _, _, _⟩, some true, true, some (.c (.v (.int _ l))), some (.c (.v (.int _ l'))) => match C.E.ti e with
   | some j => if (decide (0 < j.size) && Nat.beq j.zero.length j.size) && j.zero.all Value.oneCell' then some (e, j.size, j.bytes, j.zero.map .v, l, l') else none
   | none => none
  | _, _, _, _, _ => none
 | _ => none
section
variable {C : cD} {ops : Array Oper} {dr : Bool} {T : List (List Nat)} {b i : Nat} {o : Oper} {os : List Oper} {D D' : List (Nat × Fx)} {L L' : List (Nat × AV)} {G G' : List (Nat × bH)} {lim : Nat} {K : St → Prop}
theorem rx_make {α : Type} {enc : α → List CV} {e sz bytes nm q : Nat} {l : Int} (z : α) (he : mkO bytes l = some q) (h : mkB C ops o L = some (e, sz, bytes, enc z, l, l)) (hnm : b + i = nm)
  (hchk : iO dr T b i D (some (.c (.row nm))) [(nm, some (.vec e sz ((List.replicate q z).map enc)))] [] [nm] = true) (hL : lG o.dst (some (.c (.row nm))) L = L') (hG : uE [(nm, some (.vec e sz ((List.replicate q z).map enc)))] G = G') (hD : fM dr D i [] [(nm, some (.vec e sz ((List.replicate q z).map enc)))] = D') (hk : RX C ops dr T b (i + 1) os D' (mk L' G' lim) K) : RX C ops dr T b i (o :: os) D (mk L G lim) K := by
 subst hL hD hG hnm
 have hev : ∀ x, (mk L G lim).ev C x = (mk L [] 0).ev C x := fun x => eN rfl x
 unfold mkB at h
 split at h
 ·rename_i T1 x y ho
  split at h
  ·rename_i e1 z1 z2 z3 k l1 k' l2 hT hw hd hx hy
   split at h
   ·rename_i j hj
    split at h
    ·rename_i hc
     simp only [Bool.and_eq_true, decide_eq_true_eq] at hc
     obtain ⟨⟨c1, c2⟩, c3⟩ := hc
     simp only [Option.some.injEq, Prod.mk.injEq] at h
     obtain ⟨rfl, rfl, rfl, h5, rfl, rfl⟩ := h
     have := fun hi => aA1 (C := C) (ops := ops) (i := i) (o := o) (s := mk L G lim) (n := b + i) hi hw (dW hd) ho hT hj c1 (Nat.eq_of_beq_eq_true c2) c3 ((hev x).trans hx) ((hev y).trans hy) he
     rw [h5, ← List.map_replicate] at this
     refine mH this hchk ?_
     rw [iA]
     exact hk
    ·cases h
   ·cases h
  ·cases h
 ·cases h
end
end Go.Bm
namespace Go.Bm
open Go
section
variable {C : cD} {ops : Array Oper} {dr : Bool} {T : List (List Nat)} {b i : Nat} {o : Oper} {os : List Oper} {D D' : List (Nat × Fx)} {L L' : List (Nat × AV)} {G G' : List (Nat × bH)} {lim : Nat} {K : St → Prop}
end
end Go.Bm
namespace Go.Bm
open Go Go.RowKit
theorem Xz {μ : cL} {W : World} {l : List CV} {b : Nat} (hi : fQ μ W) (hd : cQ μ (.imm l) (.pointer (some ⟨b, 0, none⟩))) (j : Nat) (v : Value) (hj : l[j]? = some (.v v)) : W.cell? ⟨b, j, none⟩ = some v := by
 generalize hp : (Value.pointer (some ⟨b, 0, none⟩)) = p at hd
 generalize hq : CV.imm l = q at hd
 cases hd with
 | imm l' b' off w hw hd =>
  injection hq with hq
  subst hq
  injection hp with hp
  injection hp with hp
  injection hp with h1 h2
  subst h1 h2
  have h3 := hw j _ hj
  have h4 : w j = v := by
   have := hd j _ hj
   generalize w j = u at this
   cases this
   rfl
  rw [h4, Nat.zero_add] at h3
  exact uZ hi h3
 | _ => cases hq
theorem fnD_lib {E : oT} {F : FuncId} {vs : List Value} {x : Value} (h : ∀ (μ : cL) (W : World), fQ μ W → E.globOk μ → Calls E.P F vs.toArray W fun e W' => e = .returned x ∧ Below W.heap.size W W') : dC E F 0 (vs.map fun v => .c (.v v)) [] (.c (.v x)) [] := by
 intro β μ W vs' himm hg how ha
 have hvs : vs' = vs := by
  refine List.ext_getElem (by rw [ha.1, List.length_map]) fun i h1 h2 => ?_
  obtain ⟨v, hv, hd⟩ := ha.2 i (.c (.v vs[i])) (by rw [List.getElem?_map, List.getElem?_eq_getElem h2]; rfl)
  rw [List.getElem?_eq_getElem h1] at hv
  rw [Option.some.inj hv]
  exact dY hd
 subst hvs
 refine (h μ W himm hg).mono ?_
 rintro e W' ⟨rfl, hb⟩
 have hlt : ∀ b o, W.heap[b]? = some o → W'.heap[b]? = some o := fun b o hbo => by
  rw [hb.block b (by by_cases hq : b < W.heap.size; exact hq; rw [Array.getElem?_eq_none (by omega)] at hbo; cases hbo)]
  exact hbo
 refine ⟨x, .c (.v x), fun _ => none, β, μ, rfl, ⟨.inl rfl, fun n o hn => (nomatch hn)⟩, (cQ.v x : cQ μ (.v x) x), ⟨⟨fun n o hn => (nomatch hn), fun n m o p hn => (nomatch hn), fun n o hn => (nomatch hn)⟩, ⟨fun b j v hv => ?_, fun b es clk hv => hlt _ _ (himm.m b es clk hv)⟩, cL.le_refl μ, fun n hn => rfl, hb.os, hb.tape, hb.output, hb.size, fun b h1 _ => hb.block b h1, fun n o hn => (nomatch hn), fun b j v hv => .inl hv, fun b z hv => .inl hv⟩⟩
 obtain ⟨cs, T, fr, h1, h2⟩ := himm.c b j v hv
 exact ⟨cs, T, fr, hlt _ _ h1, h2⟩
end Go.Bm
namespace Go.Bm
open Go
theorem agg_cut {E : oT} {W : World} {e t : TypeId} {d z1 z3 z4 n : Nat} {z2 z5 : List Value} (hT : E.ti t = some ⟨.arr n e, n, z4, z5⟩) (he : E.ti e = some ⟨.int .i64, 1, z1, z2⟩) (xs ys : List Int) (o : Nat) (h1 : o + n ≤ xs.length) (h2 : o + n ≤ ys.length) :
  (do Op.equalIn (d + 2) t (← part t (xs.map (Value.int .i64)).toArray o) (← part t (ys.map (Value.int .i64)).toArray o) : Sem Bool).run E.P W = .ok ((xs.drop o).take n == (ys.drop o).take n) W := by
 have hu : E.P.underlying t = some (.array n e) := (E.ok t _ hT).k
 have hp : ∀ (l : List Int), o + n ≤ l.length → (part t (l.map (Value.int .i64)).toArray o).run E.P W = .ok (.agg (((l.drop o).take n).map (Value.int .i64)).toArray) W := fun l hl => by
  obtain ⟨z, hz, hzd⟩ := xT (μ := ⟨fun _ _ => none, fun _ => none⟩) (β := fun _ => gJ) hT (W := W) (cs := (l.map (Value.int .i64)).toArray) (l := l.map fun n => CV.v (.int .i64 n)) (o := o) (v := .agg (((l.drop o).take n).map fun n => CV.v (.int .i64 n))) ⟨by simp, fun j x hj => by
   rw [List.getElem?_map] at hj
   simp only [Option.map_eq_some_iff] at hj
   obtain ⟨n, hn, rfl⟩ := hj
   exact ⟨.int .i64 n, by simp [hn], .v _⟩⟩ (by
    unfold cut
    rw [if_pos (by rfl), if_pos (by simp; omega)]
    simp [List.map_take, List.map_drop])
  rw [hz, xU hzd]
 simp only [Sem.run_bind, hp xs h1, hp ys h2, Result.andThen_ok]
 exact run_eqA (d := d) hu he (by simp; omega) (by simp; omega)
theorem int_cut {E : oT} {W : World} {t : TypeId} {d z1 : Nat} {z2 : List Value} (he : E.ti t = some ⟨.int .i64, 1, z1, z2⟩) (xs ys : List Int) (o : Nat) (h1 : o + 1 ≤ xs.length) (h2 : o + 1 ≤ ys.length) :
  (do Op.equalIn (d + 1) t (← part t (xs.map (Value.int .i64)).toArray o) (← part t (ys.map (Value.int .i64)).toArray o) : Sem Bool).run E.P W = .ok ((xs.drop o).take 1 == (ys.drop o).take 1) W := by
 have hu : E.P.underlying t = some (.int .i64) := (E.ok t _ he).k
 have hp : ∀ (l : List Int) (hl : o < l.length), (part t (l.map (Value.int .i64)).toArray o).run E.P W = .ok (.int .i64 l[o]) W := fun l hl => by
  obtain ⟨z, hz, hzd⟩ := xT (μ := ⟨fun _ _ => none, fun _ => none⟩) (β := fun _ => gJ) he (W := W) (cs := (l.map (Value.int .i64)).toArray) (l := l.map fun n => CV.v (.int .i64 n)) (o := o) (v := .c (.v (.int .i64 l[o]))) ⟨by simp, fun j x hj => by
   rw [List.getElem?_map] at hj
   simp only [Option.map_eq_some_iff] at hj
   obtain ⟨n, hn, rfl⟩ := hj
   exact ⟨.int .i64 n, by simp [hn], .v _⟩⟩ (by
    have : (l.map fun n => CV.v (.int .i64 n)).drop o = CV.v (.int .i64 l[o]) :: (l.map fun n => CV.v (.int .i64 n)).drop (o + 1) := by
     rw [List.drop_eq_getElem_cons (by simpa using hl)]
     simp
    rw [this]; rfl)
  have : z = .int .i64 l[o] := dY hzd
  subst this
  exact hz
 simp only [Sem.run_bind, hp xs (by omega), hp ys (by omega), Result.andThen_ok]
 unfold Op.equalIn
 rw [Sem.run_bind, run_underlying hu]
 rw [List.drop_eq_getElem_cons (show o < xs.length by omega), List.drop_eq_getElem_cons (show o < ys.length by omega)]
 simp only [List.take_succ_cons, List.take_zero]
 show Result.ok (xs[o] == ys[o]) W = _
 congr 1
 simp
def flatB (E : oT) (t : TypeId) (z : Nat) : Bool :=
 match E.ti t with
 | some ⟨.int .i64, 1, _, _⟩ => z == 1
 | some ⟨.arr n e, s, _, _⟩ => n == z && s == z && (match E.ti e with | some ⟨.int .i64, 1, _, _⟩ => true | _ => false)
 | _ => false
theorem flat_cut {E : oT} {W : World} {t : TypeId} {d z : Nat} (h : flatB E t z = true) (xs ys : List Int) (o : Nat) (h1 : o + z ≤ xs.length) (h2 : o + z ≤ ys.length) :
  (do Op.equalIn (d + 2) t (← part t (xs.map (Value.int .i64)).toArray o) (← part t (ys.map (Value.int .i64)).toArray o) : Sem Bool).run E.P W = .ok ((xs.drop o).take z == (ys.drop o).take z) W := by
 unfold flatB at h
 split at h
 ·rename_i z1 z2 he
  obtain rfl : z = 1 := by simpa using h
  exact int_cut (d := d + 1) he xs ys o h1 h2
 ·rename_i n e s z4 z5 hT
  simp only [Bool.and_eq_true, beq_iff_eq] at h
  obtain ⟨⟨rfl, rfl⟩, h⟩ := h
  split at h
  ·rename_i z1 z2 he
   exact agg_cut (z3 := 0) hT he xs ys o h1 h2
  ·cases h
 ·cases h
def Cb (E : oT) : List (TypeId × Nat × Nat) → Nat → Option Nat
 | [], o => some o
 | (t, p, z) :: fs, o => if p = o ∧ flatB E t z = true then Cb E fs (o + z) else none
theorem Qz {E : oT} : ∀ {fs : List (TypeId × Nat × Nat)} {o e : Nat}, Cb E fs o = some e → o ≤ e
 | [], o, e, h => by simp only [Cb, Option.some.injEq] at h; omega
 | (t, p, z) :: fs, o, e, h => by
  rw [Cb] at h
  split at h
  ·have := Qz h; omega
  ·cases h
theorem Ox {o z e : Nat} (l : List Int) (h : o + z ≤ e) : (l.drop o).take (e - o) = (l.drop o).take z ++ (l.drop (o + z)).take (e - (o + z)) := by
 rw [show e - o = z + (e - (o + z)) by omega, List.take_add, List.drop_drop]
theorem seg_eq {xs ys : List Int} {o z e : Nat} (h : o + z ≤ e) (h1 : e ≤ xs.length) (h2 : e ≤ ys.length) : ((xs.drop o).take (e - o) == (ys.drop o).take (e - o)) = (((xs.drop o).take z == (ys.drop o).take z) && ((xs.drop (o + z)).take (e - (o + z)) == (ys.drop (o + z)).take (e - (o + z)))) := by
 rw [Ox xs h, Ox ys h, Bool.eq_iff_iff]
 simp only [beq_iff_eq, Bool.and_eq_true]
 constructor
 ·intro q
  exact List.append_inj q (by simp; omega)
 ·rintro ⟨q1, q2⟩
  rw [q1, q2]
theorem Vj {E : oT} {W : World} {d e : Nat} (xs ys : List Int) (h1 : e ≤ xs.length) (h2 : e ≤ ys.length) (f : Field → Option Bool × PUnit → Sem (ForInStep (Option Bool × PUnit)))
  (hf : ∀ (x : Field), x.name ≠ "_" → ∀ b, (do Op.equalIn (d + 2) x.type (← part x.type (xs.map (Value.int .i64)).toArray x.offset) (← part x.type (ys.map (Value.int .i64)).toArray x.offset) : Sem Bool).run E.P W = .ok b W → (f x (none, PUnit.unit)).run E.P W = .ok (if b = true then .yield (none, PUnit.unit) else .done (some false, PUnit.unit)) W) :
  ∀ (fl : List Field) (fs : List (TypeId × Nat × Nat)) (o : Nat), fl.length = fs.length → (∀ (i : Nat) t p z, fs[i]? = some (t, p, z) → ∃ x, fl[i]? = some x ∧ x.type = t ∧ x.offset = p) → (∀ x, x ∈ fl → x.name ≠ "_") → Cb E fs o = some e →
  (forIn fl ((none, PUnit.unit) : Option Bool × PUnit) f).run E.P W = .ok (if ((xs.drop o).take (e - o) == (ys.drop o).take (e - o)) = true then (none, PUnit.unit) else (some false, PUnit.unit)) W
 | [], [], o, _, _, _, h => by
  simp only [Cb, Option.some.injEq] at h
  subst h
  simp only [Nat.sub_self, List.take_zero]
  rfl
 | [], _ :: _, o, h, _, _, _ => by simp at h
 | _ :: _, [], o, h, _, _, _ => by simp at h
 | x :: fl, (t, p, z) :: fs, o, hl, hm, hn, h => by
  rw [Cb] at h
  split at h
  ·rename_i hc
   obtain ⟨rfl, hb⟩ := hc
   have hle := Qz h
   obtain ⟨x', hx, rfl, rfl⟩ := hm 0 t p z rfl
   simp only [List.getElem?_cons_zero, Option.some.injEq] at hx
   subst hx
   rw [List.forIn_cons, Sem.run_bind, hf x (hn x (by simp)) _ (flat_cut hb xs ys x.offset (by omega) (by omega)), Result.andThen_ok, seg_eq hle h1 h2]
   cases hq : ((xs.drop x.offset).take z == (ys.drop x.offset).take z)
   ·rfl
   ·simp only [if_true, Bool.true_and]
    exact Vj xs ys h1 h2 f hf fl fs (x.offset + z) (by simpa using hl) (fun i t p z hi => hm (i + 1) t p z (by simpa using hi)) (fun y hy => hn y (by simp [hy])) h
  ·cases h
theorem Km {α β γ : Type} (r : Result α) (f : α → World → Result β) (g : β → World → Result γ) : (r.andThen f).andThen g = r.andThen (fun a w => (f a w).andThen g) := by cases r <;> rfl
def Sw (P : Program) (T : TypeId) : Bool :=
 match P.underlying T with
 | some (.struct fs) => fs.toList.all (fun f => f.name != "_") && !(P.stoodInHeld T)
 | _ => false
theorem run_eqS {E : oT} {W : World} {T : TypeId} {d z1 m : Nat} {z2 : List Value} {fs : List (TypeId × Nat × Nat)} {xs ys : List Int} (hT : E.ti T = some ⟨.st fs, m, z1, z2⟩) (hn : Sw E.P T = true) (hf : Cb E fs 0 = some m) (h1 : xs.length = m) (h2 : ys.length = m) :
  (Op.equalIn (d + 3) T (.agg (xs.map (Value.int .i64)).toArray) (.agg (ys.map (Value.int .i64)).toArray)).run E.P W = .ok (xs == ys) W := by
 obtain ⟨F, hu, hF, hlen⟩ := (E.ok T _ hT).k
 unfold Sw at hn
 rw [hu] at hn
 simp only [Bool.and_eq_true, List.all_eq_true, Array.mem_toList_iff, bne_iff_ne, ne_eq, Bool.not_eq_true'] at hn
 obtain ⟨hn1, hn2⟩ := hn
 have hprog : ∀ W, (program).run E.P W = .ok E.P W := fun W => rfl
 unfold Op.equalIn
 simp only [Sem.run_bind, run_underlying hu, Result.andThen_ok, hprog, hn2, Bool.false_eq_true, if_false, ← Array.forIn_toList]
 have key := Vj (E := E) (W := W) (d := d) (e := m) xs ys (by omega) (by omega) (fun f r => if f.name ≠ "_" then (do if !(← Op.equalIn (d + 2) f.type (← part f.type (xs.map (Value.int .i64)).toArray f.offset) (← part f.type (ys.map (Value.int .i64)).toArray f.offset)) then pure (.done (some false, PUnit.unit)) else pure (.yield (none, PUnit.unit))) else pure (.yield (none, PUnit.unit))) ?_ F.toList fs 0 (by simpa using hlen) (fun i t p z hi => ?_) (fun x hx => by simpa using hn1 x (by simpa using hx)) hf
 ·refine (congrArg (fun q => Result.andThen q _) key).trans ?_
  simp only [Nat.sub_zero, List.drop_zero, Result.andThen_ok, List.take_of_length_le (Nat.le_of_eq h1), List.take_of_length_le (Nat.le_of_eq h2)]
  cases hq : (xs == ys) <;> rfl
 ·intro x hx b hb
  have e := congrArg (fun q => Result.andThen q (fun (c : Bool) w => (if (!c) = true then pure (ForInStep.done (some false, PUnit.unit)) else pure (ForInStep.yield (none, PUnit.unit)) : Sem (ForInStep (Option Bool × PUnit))).run E.P w)) hb
  rw [if_pos hx]
  simp only [Sem.run_bind, Km, Result.andThen_ok] at e ⊢
  rw [e]
  cases b <;> rfl
 ·obtain ⟨x, inf, hx, ht, ho, _⟩ := hF i t p z hi
  exact ⟨x, by simpa using hx, ht, ho⟩
section
variable {C : cD} {o : Oper} {L : List (Nat × AV)} {G : List (Nat × bH)}
theorem rdW_eqS {xs ys : List Int} {T : TypeId} {m z1 : Nat} {z2 : List Value} {fs : List (TypeId × Nat × Nat)} {w r : Bool} (h : eqAB C o L = some (w, T, xs.map fun n => CV.v (.int .i64 n), ys.map fun n => CV.v (.int .i64 n))) (hT : C.E.ti T = some ⟨.st fs, m, z1, z2⟩) (hn : Sw C.E.P T = true) (hf : Cb C.E fs 0 = some m)
  (hg : C.E.P.eqGuardType C.E.P.depth T = false) (h1 : xs.length = m) (h2 : ys.length = m) (hr : (if w then xs == ys else !(xs == ys)) = r) : Ki C o L G (.c (.v (.bool r))) [] :=
 rdW_eqG h (fun W => run_eqS (d := 9997) hT hn hf h1 h2) hg hr
end
abbrev nB : ByteArray := ⟨#[]⟩
abbrev w6 (x : Int) : Int := IntKind.wrap .i64 x
theorem nS (n : Nat) (h : 0 < n) : ∃ m, n = m + 1 := ⟨n - 1, by omega⟩
theorem wS {n : Int} (h0 : -1 ≤ n) (h1 : n < 9223372036854775808) : w6 n = n := by
 unfold w6
 rw [IntKind.wrap_i64]
 omega
theorem wJ (n : Int) : w6 n = (n + 9223372036854775808) % 18446744073709551616 - 9223372036854775808 := IntKind.wrap_i64 n
theorem oB {α β : Type} {a : α} {f : α → Option β} : (some a).bind f = f a := rfl
theorem fT : (false = true) = False := Bool.false_eq_true
end Go.Bm
