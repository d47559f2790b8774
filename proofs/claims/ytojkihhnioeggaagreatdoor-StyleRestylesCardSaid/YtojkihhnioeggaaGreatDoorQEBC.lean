import Derived.Test.YtojkihhnioeggaaGreatDoorQEBB
import Derived.Laws.Cover4
import Derived.Laws.BytesString
import Derived.Laws.IdiomStrings
import Derived.RangeFuncSeq
import Derived.OpenShut
import Derived.DataReads
import Derived.ProofKit
import Derived.Lib.LaidU8
import Derived.Below
import Derived.WalkKit
import Derived.WalkSpells
import Derived.WalkLawsBesides
import Derived.Deep.QuietTactic
import Derived.BigQuiet
import Derived.BigRegion
import Derived.Lib.Hide
import Derived.Deep.RegionWith
set_option linter.all false
namespace Go.Bm
open Go
def gJ : Bk := ⟨0, 0, true, 0⟩
theorem WR.add_nil {C : cD} {H : Nat → Option bH} {lim : Nat} {β : Nat → Bk} {μ : cL} {W : World} (h : WR C H (· < lim) β μ W) (T sz : Nat) : WR C (fun j => if j = lim then some (.tok T sz 0) else H j) (· < lim + 1) (wT β lim gJ) μ W := by
 have := h.put_new (W' := W) (μ' := μ) (m := lim) (H' := fun j => if j = lim then some (.tok T sz 0) else H j) (ob := .tok T sz 0) (k := gJ) (Nat.lt_irrefl lim) none (fun j => by by_cases e : j = lim <;> simp [e]) rfl rfl rfl (Nat.le_refl _) (fun b _ _ => rfl) (by simp [bH.ments]) (jK.refl μ _) h.imm (.inl ⟨rfl, rfl⟩) (fun h0 => by simp [gJ] at h0) (fun h0 => by simp [gJ] at h0)
 refine this.weaken fun n hn => ?_
 rcases hn with hn | hn
 ·exact Nat.lt_succ_of_lt hn
 ·simp at hn; subst hn; exact Nat.lt_succ_self _
theorem FR.up {C : cD} {fr : Nat → Option AV} {lim : Nat} {β : Nat → Bk} {μ : cL} {a : Act} (h : FR C fr (· < lim) β μ a) (k : Bk) : FR C fr (· < lim + 1) (wT β lim k) μ a :=
 (h.mono (fun n hn => eW (Nat.ne_of_lt hn)) (cL.le_refl μ)).weaken fun n hn => Nat.lt_succ_of_lt hn
theorem jZ {α : Type} (d t : Nat) (x : α) (L : List (Nat × α)) : (nO d x L).lookup t = if t = d then some x else L.lookup t := sQ d t x L
theorem mB {C : cD} {L L2 : List (Nat × AV)} {G G2 : List (Nat × bH)} {lim lim2 : Nat} (t T sz : Nat) (h : L.lookup t = some (.c (.v (.slice none 0 0)))) (hL : nO t (.c (.app lim [])) L = L2) (hG : nO lim (.tok T sz 0) G = G2) (hl : lim + 1 = lim2) : dZ C (mk L G lim) (mk L2 G2 lim2) := by
 subst hL hG hl
 intro D β μ a W hr
 have hw := WR.add_nil hr.w T sz
 have hf := hr.f.up gJ
 refine ⟨wT β lim gJ, μ, ⟨hf.defers, hf.size, fun s x hs => ?_, fun s x hs n hn => ?_⟩, ?_⟩
 ·have hs' : (nO t (.c (.app lim [])) L).lookup s = some x := hs
  rw [jZ] at hs'
  split at hs'
  ·rename_i e
   subst e
   obtain rfl := Option.some.inj hs'
   obtain ⟨v, hv, hd⟩ := hr.f.den s _ h
   have := dY hd
   subst this
   refine ⟨_, hv, .nil none 0, ?_⟩
   rw [eG]; rfl
  ·exact hf.den s x hs'
 ·have hs' : (nO t (.c (.app lim [])) L).lookup s = some x := hs
  rw [jZ] at hs'
  split at hs'
  ·obtain rfl := Option.some.inj hs'
   simp [AV.ments, AV.ments0, AV.ments1, CV.ments, CV.ments1] at hn
   subst hn; exact Nat.lt_succ_self _
  ·exact hf.used s x hs' n hn
 ·have e : (mk (nO t (.c (.app lim [])) L) (nO lim (.tok T sz 0) G) (lim + 1)).H = fun j => if j = lim then some (.tok T sz 0) else (mk L G lim).H j := funext fun j => jZ lim j _ G
  rw [e]; exact hw
theorem lZ {C : cD} {L : List (Nat × AV)} {G G2 : List (Nat × bH)} {lim lim2 n T0 : Nat} {l : List CV} (j T sz : Nat) (h : G.lookup n = some (.blk T0 l)) (hj : l[j]? = some (.v (.slice none 0 0))) (hG : nO n (.blk T0 (l.set j (.app lim []))) (nO lim (.tok T sz 0) G) = G2) (hl : lim + 1 = lim2) : dZ C (mk L G lim) (mk L G2 lim2) := by
 subst hG hl
 intro D β μ a W hr
 have hw := WR.add_nil hr.w T sz
 have hn : n < lim := (hr.w.used n _ h).1
 have hne : n ≠ lim := Nat.ne_of_lt hn
 have hβn : wT β lim gJ n = β n := eW hne
 have hH : (fun q => if q = lim then some (bH.tok T sz 0) else (mk L G lim).H q) n = some (.blk T0 l) := by simp only [if_neg hne]; exact h
 obtain ⟨h0, vs, h1, h2⟩ := hw.own n _ hH
 refine ⟨wT β lim gJ, μ, hr.f.up gJ, ?_⟩
 have := hw.put_same (W' := W) (ob := .blk T0 (l.set j (.app lim []))) (H' := fun q => if q = n then some (.blk T0 (l.set j (.app lim []))) else if q = lim then some (.tok T sz 0) else (mk L G lim).H q) hH h0 (fun q => rfl) rfl rfl rfl (Nat.le_refl _) (fun _ _ _ => rfl) (fun x hx => ?_) hw.imm ⟨h0, vs, h1, by simpa using h2.1, fun q x hq => ?_⟩ (by have := hw.sep n _ hH h0; exact this)
 ·have e : (mk L (nO n (.blk T0 (l.set j (.app lim []))) (nO lim (.tok T sz 0) G)) (lim + 1)).H = fun q => if q = n then some (.blk T0 (l.set j (.app lim []))) else if q = lim then some (.tok T sz 0) else (mk L G lim).H q := funext fun q => by
   show (nO n _ (nO lim _ G)).lookup q = _
   rw [jZ, jZ]; rfl
  rw [e]; exact this
 ·simp only [bH.ments, List.mem_flatMap] at hx
  obtain ⟨y, hy, hx⟩ := hx
  rcases List.mem_or_eq_of_mem_set hy with hy | rfl
  ·exact (hw.used n _ hH).2 x (List.mem_flatMap.2 ⟨y, hy, hx⟩)
  ·simp [CV.ments, CV.ments1] at hx; subst hx; exact Nat.lt_succ_self _
 ·by_cases e : q = j
  ·subst e
   obtain ⟨hlt, _⟩ := List.getElem?_eq_some_iff.1 hj
   rw [List.getElem?_set_self hlt] at hq
   obtain rfl := Option.some.inj hq
   obtain ⟨y, hy, hd⟩ := h2.2 q _ hj
   have hy2 : y = .slice none 0 0 := dY (μ := μ) (β := wT β lim gJ) hd
   subst hy2
   refine ⟨_, hy, .nil none 0, ?_⟩
   show _ = (wT β lim gJ lim).sl 0
   rw [eG]; rfl
  ·rw [List.getElem?_set_ne (Ne.symm e)] at hq
   exact h2.2 q x hq
end Go.Bm
namespace Go.Bm
open Go
structure Fz where
 n : Nat
 l : List CV
 m : Option (Bool × List (Value × List CV))
 r : Option (List (List CV))
def Fz.f1 (z : Fz) : CV → CV
 | .ptr k off => if k = z.n ∧ z.m = none ∧ z.r = none then .imm (z.l.drop off) else .ptr k off
 | .mapr k => if k = z.n then (match z.m with | some p => .lmap p.1 p.2 | none => .mapr k) else .mapr k
 | .row k => if k = z.n then (match z.r with | some p => .lit p | none => .row k) else .row k
 | x => x
def Fz.f (z : Fz) : CV → CV
 | .fn g caps => .fn g (caps.map z.f1)
 | x => z.f1 x
def Fz.a1 (z : Fz) : AV → AV
 | .c x => .c (z.f x)
 | .agg l => .agg (l.map z.f)
 | x => x
def Fz.a (z : Fz) : AV → AV
 | .tup l => .tup (l.map z.a1)
 | x => z.a1 x
def Fz.o (z : Fz) : bH → bH
 | .blk T l => .blk T (l.map z.f)
 | o => o
structure Wm (z : Fz) (μ : cL) (β : Nat → Bk) : Prop where
 p : z.m = none → z.r = none → ∀ off, cQ μ (.imm (z.l.drop off)) (.pointer (some ⟨(β z.n).blk, off, none⟩))
 m : ∀ q, z.m = some q → cQ μ (.lmap q.1 q.2) (.map (some (β z.n).blk))
 r : ∀ q, z.r = some q → cQ μ (.lit q) ((β z.n).sl (β z.n).len)
theorem Fz.den1 {z : Fz} {μ : cL} {β : Nat → Bk} (h : Wm z μ β) {x : CV} {v : Value} (hd : pW μ β x v) : pW μ β (z.f1 x) v := by
 cases x with
 | ptr k off =>
  simp only [Fz.f1]
  split
  ·rename_i hc
   have hv : v = .pointer (some ⟨(β k).blk, off, none⟩) := hd
   subst hv
   rw [hc.1]
   exact h.p hc.2.1 hc.2.2 off
  ·exact hd
 | mapr k =>
  simp only [Fz.f1]
  split
  ·rename_i hc
   have hv : v = .map (some (β k).blk) := hd
   subst hv
   split
   ·rename_i q hq
    rw [hc]
    exact h.m q hq
   ·rfl
  ·exact hd
 | row k =>
  simp only [Fz.f1]
  split
  ·rename_i hc
   have hv : v = (β k).sl (β k).len := hd
   subst hv
   split
   ·rename_i q hq
    rw [hc]
    exact h.r q hq
   ·rfl
  ·exact hd
 | v x => exact hd
 | lit l => exact hd
 | imm l => exact hd
 | lmap ag l => exact hd
 | fn f l => exact hd
 | app n l => exact hd
theorem Fz.den {z : Fz} {μ : cL} {β : Nat → Bk} (h : Wm z μ β) {x : CV} {v : Value} (hd : Kf μ β x v) : Kf μ β (z.f x) v := by
 cases x with
 | fn g caps =>
  obtain ⟨vs, h1, h2, h3⟩ := hd
  refine ⟨vs, h1, by simpa using h2, fun j x hj => ?_⟩
  rw [List.getElem?_map] at hj
  simp only [Option.map_eq_some_iff] at hj
  obtain ⟨y, hy, rfl⟩ := hj
  obtain ⟨w, hw, hwd⟩ := h3 j y hy
  exact ⟨w, hw, Fz.den1 h hwd⟩
 | ptr k off => exact Ao (Fz.den1 (x := .ptr k off) h hd)
 | mapr k => exact Ao (Fz.den1 (x := .mapr k) h hd)
 | row k => exact Ao (Fz.den1 (x := .row k) h hd)
 | v x => exact hd
 | lit l => exact hd
 | imm l => exact hd
 | lmap ag l => exact hd
 | app n l => exact hd
theorem Fz.denL {z : Fz} {μ : cL} {β : Nat → Bk} (h : Wm z μ β) {l : List CV} {vs : Array Value} (hd : wQ μ β l vs) : wQ μ β (l.map z.f) vs := by
 refine ⟨by simpa using hd.1, fun j x hj => ?_⟩
 rw [List.getElem?_map] at hj
 simp only [Option.map_eq_some_iff] at hj
 obtain ⟨y, hy, rfl⟩ := hj
 obtain ⟨w, hw, hwd⟩ := hd.2 j y hy
 exact ⟨w, hw, Fz.den h hwd⟩
theorem Fz.denS {z : Fz} {μ : cL} {β : Nat → Bk} (h : Wm z μ β) {x : AV} {v : Value} (hd : Bq μ β x v) : Bq μ β (z.a1 x) v := by
 cases x with
 | c x => exact Fz.den h hd
 | agg l => obtain ⟨vs, h1, h2⟩ := hd; exact ⟨vs, h1, Fz.denL h h2⟩
 | tup l => exact hd.elim
 | cnd gs x => exact hd.elim
theorem Fz.denA {z : Fz} {μ : cL} {β : Nat → Bk} (h : Wm z μ β) {x : AV} {v : Value} (hd : dL μ β x v) : dL μ β (z.a x) v := by
 cases x with
 | tup l =>
  obtain ⟨vs, h1, h2, h3⟩ := hd
  refine ⟨vs, h1, by simpa using h2, fun j x hj => ?_⟩
  rw [List.getElem?_map] at hj
  simp only [Option.map_eq_some_iff] at hj
  obtain ⟨y, hy, rfl⟩ := hj
  obtain ⟨w, hw, hwd⟩ := h3 j y hy
  exact ⟨w, hw, Fz.denS h hwd⟩
 | c x => exact Fz.denS (x := .c x) h hd
 | agg l => exact Fz.denS (x := .agg l) h hd
 | cnd gs x => exact hd
theorem Fz.m1 {z : Fz} {x : CV} {n : Nat} (h : n ∈ (z.f1 x).ments1) : n ∈ x.ments1 := by
 cases x <;> simp only [Fz.f1] at h <;> try exact h
 ·split at h
  ·simp [CV.ments1] at h
  ·exact h
 ·split at h
  ·split at h
   ·simp [CV.ments1] at h
   ·exact h
  ·exact h
 ·split at h
  ·split at h
   ·simp [CV.ments1] at h
   ·exact h
  ·exact h
theorem Fz.m0 {z : Fz} {x : CV} {n : Nat} (h : n ∈ (z.f x).ments) : n ∈ x.ments := by
 have key : ∀ y : CV, (match y with | .fn _ _ => False | _ => True) → n ∈ (z.f1 y).ments → n ∈ y.ments1 := by
  intro y hy h
  cases y <;> simp only [Fz.f1] at h <;> try exact h
  ·exact hy.elim
  ·split at h
   ·simp [CV.ments, CV.ments1] at h
   ·exact h
  ·split at h
   ·split at h
    ·simp [CV.ments, CV.ments1] at h
    ·exact h
   ·exact h
  ·split at h
   ·split at h
    ·simp [CV.ments, CV.ments1] at h
    ·exact h
   ·exact h
 cases x with
 | fn g caps =>
  simp only [Fz.f, CV.ments, List.flatMap_map, List.mem_flatMap] at h ⊢
  obtain ⟨y, hy, h⟩ := h
  exact ⟨y, hy, Fz.m1 h⟩
 | v x => exact key (.v x) trivial h
 | lit l => exact key (.lit l) trivial h
 | imm l => exact key (.imm l) trivial h
 | lmap ag l => exact key (.lmap ag l) trivial h
 | ptr k o => exact key (.ptr k o) trivial h
 | app k l => exact key (.app k l) trivial h
 | row k => exact key (.row k) trivial h
 | mapr k => exact key (.mapr k) trivial h
theorem Fz.mL {z : Fz} {l : List CV} {n : Nat} (h : n ∈ (l.map z.f).flatMap CV.ments) : n ∈ l.flatMap CV.ments := by
 simp only [List.flatMap_map, List.mem_flatMap] at h ⊢
 obtain ⟨y, hy, h⟩ := h
 exact ⟨y, hy, Fz.m0 h⟩
theorem Fz.mS {z : Fz} {x : AV} {n : Nat} (h : n ∈ (z.a1 x).ments1) : n ∈ x.ments1 := by
 cases x with
 | c x => exact Fz.m0 h
 | agg l => exact Fz.mL h
 | tup l => exact h
 | cnd gs x => exact h
theorem Fz.mA {z : Fz} {x : AV} {n : Nat} (h : n ∈ (z.a x).ments) : n ∈ x.ments := by
 cases x with
 | tup l =>
  have h' : n ∈ (l.map z.a1).flatMap AV.ments1 := h
  show n ∈ l.flatMap AV.ments1
  simp only [List.flatMap_map, List.mem_flatMap] at h' ⊢
  obtain ⟨y, hy, h'⟩ := h'
  exact ⟨y, hy, Fz.mS h'⟩
 | c x => exact Fz.m0 (x := x) h
 | agg l => exact Fz.mL h
 | cnd gs x => exact h
theorem tF {α β : Type} {f : α → β} (n : Nat) : ∀ {L : List (Nat × α)}, (L.map fun p => (p.1, f p.2)).lookup n = (L.lookup n).map f
 | [] => rfl
 | p :: L => by
  rw [List.map_cons, List.lookup_cons, List.lookup_cons]
  split
  ·rfl
  ·exact tF n
theorem Di {C : cD} {L L2 : List (Nat × AV)} {G G2 : List (Nat × bH)} {lim : Nat} (z : Fz) (hL : L.map (fun p => (p.1, z.a p.2)) = L2) (hG : (Ff z.n G).map (fun p => (p.1, z.o p.2)) = G2)
  (h : ∀ D β μ W, WR (C.on D) (mk L G lim).H (· < lim) β μ W → ∃ μ2 bb, jK μ μ2 bb ∧ fQ μ2 W ∧ Wm z μ2 β ∧ (∀ x, bb = some x → x = (β z.n).blk ∧ (β z.n).nil = false) ∧ ∃ o, G.lookup z.n = some o) : dZ C (mk L G lim) (mk L2 G2 lim) := by
 subst hL hG
 intro D β μ a W hr
 obtain ⟨μ2, bb, hg, himm, hz, hbb, o0, ho0⟩ := h D β μ W hr.w
 have hH : ∀ n o, ((Ff z.n G).map (fun p => (p.1, z.o p.2))).lookup n = some o → n ≠ z.n ∧ ∃ p, G.lookup n = some p ∧ o = z.o p := fun n o hn => by
  rw [tF, sN] at hn
  simp only [Option.map_eq_some_iff] at hn
  obtain ⟨p, hp, rfl⟩ := hn
  split at hp
  ·cases hp
  ·rename_i hne; exact ⟨hne, p, hp, rfl⟩
 have hne : ∀ n p, G.lookup n = some p → n ≠ z.n → (β n).nil = false → bb ≠ some (β n).blk := fun n p hn hne hn0 he => hne (hr.w.inj n z.n p o0 hn ho0 hn0 (hbb _ he).2 (hbb _ he).1)
 refine ⟨β, μ2, ⟨hr.f.defers, hr.f.size, fun t x ht => ?_, fun t x ht n hn => ?_⟩, ⟨hr.w.keep, hr.w.size, hr.w.os, hr.w.tape, hr.w.output, fun n o hn => ?_, fun n m o p hn hm h1 h2 he => ?_, himm, fun n o hn hn0 => ?_, fun n o hn hn0 => ?_, fun n o hn => ?_, cL.le_trans hr.w.mu hg.le, fun b j v hb => ?_, fun b x hb => ?_, fun g l hgl => (hr.w.glob g l hgl).mono hg.le, hr.w.fix⟩⟩
 ·have ht' : (L.map (fun p => (p.1, z.a p.2))).lookup t = some x := ht
  rw [tF] at ht'
  simp only [Option.map_eq_some_iff] at ht'
  obtain ⟨y, hy, rfl⟩ := ht'
  obtain ⟨v, hv, hd⟩ := hr.f.den t y hy
  exact ⟨v, hv, Fz.denA hz (hd.mono hg.le fun _ _ => rfl)⟩
 ·have ht' : (L.map (fun p => (p.1, z.a p.2))).lookup t = some x := ht
  rw [tF] at ht'
  simp only [Option.map_eq_some_iff] at ht'
  obtain ⟨y, hy, rfl⟩ := ht'
  exact hr.f.used t y hy n (Fz.mA hn)
 ·obtain ⟨hnz, p, hp, rfl⟩ := hH n o hn
  have := (hr.w.own n p hp).mono (β' := β) (W' := W) hg.le (fun _ _ => rfl) (fun _ => rfl)
  cases p with
  | blk T l => obtain ⟨g1, vs, g2, g3⟩ := this; exact ⟨g1, vs, g2, Fz.denL hz g3⟩
  | tok T sz e => exact this
  | vec T sz l => exact this
  | map ag l => exact this
 ·obtain ⟨hnz, q, hq, rfl⟩ := hH n o hn
  obtain ⟨hmz, q', hq', rfl⟩ := hH m p hm
  exact hr.w.inj n m q q' hq hq' h1 h2 he
 ·obtain ⟨hnz, p, hp, rfl⟩ := hH n o hn
  have := (hr.w.sep n p hp hn0).grow hg (hne n p hp hnz hn0)
  cases p <;> exact this
 ·obtain ⟨hnz, p, hp, rfl⟩ := hH n o hn
  exact hr.w.loc n p hp hn0
 ·obtain ⟨hnz, p, hp, rfl⟩ := hH n o hn
  refine ⟨(hr.w.used n p hp).1, fun x hx => (hr.w.used n p hp).2 x ?_⟩
  cases p with
  | blk T l => exact Fz.mL hx
  | tok T sz e => exact hx
  | vec T sz l => exact hx
  | map ag l => exact hx
 ·rcases hg.c b j v hb with h1 | h1
  ·exact hr.w.newc b j v h1
  ·obtain ⟨rfl, h0⟩ := hbb _ h1; exact .inr (hr.w.loc _ o0 ho0 h0)
 ·rcases hg.m b x hb with h1 | h1
  ·exact hr.w.newm b x h1
  ·obtain ⟨rfl, h0⟩ := hbb _ h1; exact .inr (hr.w.loc _ o0 ho0 h0)
theorem yP {C : cD} {L L2 : List (Nat × AV)} {G G2 : List (Nat × bH)} {lim T : Nat} {l l2 : List CV} (n : Nat) (h : G.lookup n = some (.blk T l)) (hp : Jw CV.pub l = some l2) (hL : L.map (fun p => (p.1, (Fz.mk n l2 none none).a p.2)) = L2) (hG : (Ff n G).map (fun p => (p.1, (Fz.mk n l2 none none).o p.2)) = G2) : dZ C (mk L G lim) (mk L2 G2 lim) := by
 refine Di ⟨n, l2, none, none⟩ hL hG fun D β μ W hw => ?_
 obtain ⟨h0, vs, h1, h2⟩ := hw.own n _ h
 have hfree := hw.sep n _ h h0
 obtain ⟨p1, p2⟩ := tA hp
 have hgr : jK μ (fY μ (β n).blk (fun j => vs[j]?)) (some (β n).blk) := sW fun j v _ => .inl (hfree.2 j)
 refine ⟨fY μ (β n).blk (fun j => vs[j]?), some (β n).blk, hgr, ⟨fun b j v hb => ?_, fun b es clk hb => hw.imm.m b es clk hb⟩, ⟨fun _ _ off => ?_, fun q hq => (by cases hq), fun q hq => (by cases hq)⟩, fun x hx => ⟨(Option.some.inj hx).symm, h0⟩, _, h⟩
 ·by_cases e : b = (β n).blk
  ·subst e
   simp only [fY, if_true] at hb
   refine ⟨vs, T, (0, 0), h1, ?_⟩
   split at hb
   ·rename_i w hw'; rw [hw', hb]
   ·rw [hfree.2 j] at hb; cases hb
  ·simp only [fY, if_neg e] at hb
   exact hw.imm.c b j v hb
 ·have key : ∀ (j : Nat) (x : CV), l2[j]? = some x → ∃ v, (fY μ (β n).blk (fun j => vs[j]?)).c (β n).blk (0 + j) = some v ∧ cQ (fY μ (β n).blk (fun j => vs[j]?)) x v := fun j x hj => by
   obtain ⟨y, hy, hyx⟩ := p2 j x hj
   obtain ⟨v, hv, hd⟩ := h2.2 j y hy
   refine ⟨v, by simp only [fY, if_true, Nat.zero_add, hv], (Bx hyx hd).mono hgr.le⟩
  have := Ii (k := off) key
  rw [Nat.zero_add] at this
  exact this
theorem uM {C : cD} {L L2 : List (Nat × AV)} {G G2 : List (Nat × bH)} {lim : Nat} {ag : Bool} {l : List (Value × List CV)} (n : Nat) (h : G.lookup n = some (.map ag l)) (hL : L.map (fun p => (p.1, (Fz.mk n [] (some (ag, l)) none).a p.2)) = L2) (hG : (Ff n G).map (fun p => (p.1, (Fz.mk n [] (some (ag, l)) none).o p.2)) = G2) : dZ C (mk L G lim) (mk L2 G2 lim) := by
 refine Di ⟨n, [], some (ag, l), none⟩ hL hG fun D β μ W hw => ?_
 obtain ⟨h0, es, clk, h1, h2, h3⟩ := hw.own n _ h
 have hfree := hw.sep n _ h h0
 let μ2 : cL := ⟨μ.c, fun b => if b = (β n).blk then some (es, clk) else μ.m b⟩
 have hle : μ.le μ2 := ⟨fun _ _ _ hx => hx, fun b x hx => by
  show (if b = (β n).blk then some (es, clk) else μ.m b) = some x
  by_cases e : b = (β n).blk
  ·rw [e, hfree.1] at hx; cases hx
  ·rw [if_neg e]; exact hx⟩
 have hgr : jK μ μ2 (some (β n).blk) := ⟨hle, fun _ _ _ hx => .inl hx, fun b x hx => by
  have hx' : (if b = (β n).blk then some (es, clk) else μ.m b) = some x := hx
  by_cases e : b = (β n).blk
  ·exact .inr (by rw [e])
  ·rw [if_neg e] at hx'; exact .inl hx'⟩
 refine ⟨μ2, some (β n).blk, hgr, ⟨fun b j v hb => hw.imm.c b j v hb, fun b es' clk' hb => ?_⟩, ⟨fun hq => by simp at hq, fun q hq => ?_, fun q hq => (by cases hq)⟩, fun x hx => ⟨(Option.some.inj hx).symm, h0⟩, _, h⟩
 ·have hb' : (if b = (β n).blk then some (es, clk) else μ.m b) = some (es', clk') := hb
  by_cases e : b = (β n).blk
  ·rw [if_pos e] at hb'; cases hb'; rw [e]; exact h1
  ·rw [if_neg e] at hb'; exact hw.imm.m b es' clk' hb'
 ·cases hq
  let w : Nat → Nat → Value := fun i j => match es[i]? with | some m => (if ag = true then (match m.val with | .agg cs => cs.getD j undef | _ => undef) else m.val) | none => undef
  refine .lmap ag l (β n).blk clk es w (by show (if (β n).blk = (β n).blk then some (es, clk) else μ.m (β n).blk) = _; rw [if_pos rfl]) h2 (fun i k e hi => ?_) (fun i j k e x hi hj => ?_)
  ·obtain ⟨m, hm, hk, ha, hb⟩ := h3 i k e hi
   refine ⟨m, hm, hk, fun hag => ?_, fun hag => ?_⟩
   ·obtain ⟨cs, hcs, hsz, hcd⟩ := hb hag
    refine ⟨cs, hcs, hsz, fun j x hj => ?_⟩
    obtain ⟨y, hy, _⟩ := hcd j x hj
    simp [w, hm, hag, hcs, hy]
   ·obtain ⟨y, rfl, hd⟩ := ha hag
    exact ⟨rfl, by simp [w, hm, hag]⟩
  ·obtain ⟨m, hm, hk, ha, hb⟩ := h3 i k e hi
   cases hag : ag with
   | true =>
    obtain ⟨cs, hcs, hsz, hcd⟩ := hb hag
    obtain ⟨y, hy, hd⟩ := hcd j x hj
    have : w i j = y := by simp [w, hm, hag, hcs, hy]
    rw [this]; exact hd.mono hle
   | false =>
    obtain ⟨y, rfl, hd⟩ := ha hag
    cases j with
    | zero =>
     simp at hj; subst hj
     have : w i 0 = m.val := by simp [w, hm, hag]
     rw [this]; exact hd.mono hle
    | succ j => simp at hj
theorem nM {C : cD} {L L2 : List (Nat × AV)} {G G2 : List (Nat × bH)} {lim T sz : Nat} {l : List (List CV)} (n : Nat) (h : G.lookup n = some (.vec T sz l)) (hL : L.map (fun p => (p.1, (Fz.mk n [] none (some l)).a p.2)) = L2) (hG : (Ff n G).map (fun p => (p.1, (Fz.mk n [] none (some l)).o p.2)) = G2) : dZ C (mk L G lim) (mk L2 G2 lim) := by
 refine Di ⟨n, [], none, some l⟩ hL hG fun D β μ W hw => ?_
 obtain ⟨hlen, hown⟩ := hw.own n _ h
 rcases hown with ⟨h0, rfl⟩ | ⟨h0, vs, h1, h2, h3, h4, h5⟩
 ·refine ⟨μ, none, jK.refl μ _, hw.imm, ⟨fun _ hq => by simp at hq, fun q hq => by simp at hq, fun q hq => ?_⟩, fun x hx => (by cases hx), _, h⟩
  cases hq
  unfold Bk.sl
  rw [if_pos h0]
  exact .nil none 0
 ·have hfree := hw.sep n _ h h0
  have hgr : jK μ (fY μ (β n).blk (fun j => vs[j]?)) (some (β n).blk) := sW fun j v _ => .inl (hfree.2 j)
  refine ⟨fY μ (β n).blk (fun j => vs[j]?), some (β n).blk, hgr, ⟨fun b j v hb => ?_, fun b es clk hb => hw.imm.m b es clk hb⟩, ⟨fun _ hq => by simp at hq, fun q hq => by simp at hq, fun q hq => ?_⟩, fun x hx => ⟨(Option.some.inj hx).symm, h0⟩, _, h⟩
  ·by_cases e : b = (β n).blk
   ·subst e
    simp only [fY, if_true] at hb
    refine ⟨vs, T, (0, 0), h1, ?_⟩
    split at hb
    ·rename_i w hw'; rw [hw', hb]
    ·rw [hfree.2 j] at hb; cases hb
   ·simp only [fY, if_neg e] at hb
    exact hw.imm.c b j v hb
  ·cases hq
   have hsl : (β n).sl (β n).len = .slice (some ⟨(β n).blk, 0, none⟩) l.length (β n).cap := by
    unfold Bk.sl
    rw [if_neg (by simp [h0]), hlen]
   rw [hsl]
   refine .lit l (β n).blk 0 (β n).cap sz (fun i j => vs.getD (i * sz + j) undef) h4 (fun i e he => (h5 i e he).1) (fun i j e x he hx => ?_) (fun i j e x he hx => ?_)
   ·obtain ⟨y, hy, hy1, _⟩ := (h5 i e he).2 j x hx
    have e1 : vs.getD (i * sz + j) undef = y := by simp [hy]
    rw [e1, Nat.zero_add]
    exact ⟨by simp only [fY, if_true, hy], hy1⟩
   ·obtain ⟨y, hy, _, hd⟩ := (h5 i e he).2 j x hx
    have e1 : vs.getD (i * sz + j) undef = y := by simp [hy]
    rw [e1]
    exact hd.mono hgr.le
end Go.Bm
namespace Go.Bm
open Go
theorem Zx (a b : ByteArray) : (a == b) = (a.data == b.data) := rfl
instance : LawfulBEq ByteArray where
 eq_of_beq {a b} h := by
  rw [Zx] at h
  cases a; cases b
  simpa using h
 rfl {a} := by rw [Zx]; simp
structure Mt (kk : TK) {α : Type} [BEq α] (kf : α → Value) : Prop where
 same : ∀ (P : Program) (T : TypeId), kk.ok P T → ∃ d, P.underlying T = some d ∧ (∀ a b, Instr.sameNow d (kf a) (kf b) = some (a == b)) ∧ (∀ (W : World) e a, (Instr.checkKey e 10000 T (kf a)).run P W = .ok () W) ∧ ∀ a, Instr.sameBits 10000 (kf a) (kf a) = true
theorem eQ : Mt (.int .i64) (Value.int .i64) := ⟨fun P T h => by
 have h' : P.underlying T = some (.int .i64) := h
 refine ⟨_, h', fun a b => ?_, fun W e a => ?_, fun a => ?_⟩
 ·simp [Instr.sameNow]
 ·obtain ⟨d, hd⟩ : ∃ d, (10000 : Nat) = d + 1 := ⟨9999, rfl⟩
  rw [hd, Instr.checkKey, Sem.run_bind, run_underlying h']
  rfl
 ·obtain ⟨d, hd⟩ : ∃ d, (10000 : Nat) = d + 1 := ⟨9999, rfl⟩
  rw [hd]; simp [Instr.sameBits]⟩
theorem Ol : Mt .str Value.string := ⟨fun P T h => by
 have h' : P.underlying T = some .string := h
 refine ⟨_, h', fun a b => ?_, fun W e a => ?_, fun a => ?_⟩
 ·simp [Instr.sameNow]
 ·obtain ⟨d, hd⟩ : ∃ d, (10000 : Nat) = d + 1 := ⟨9999, rfl⟩
  rw [hd, Instr.checkKey, Sem.run_bind, run_underlying h']
  rfl
 ·obtain ⟨d, hd⟩ : ∃ d, (10000 : Nat) = d + 1 := ⟨9999, rfl⟩
  rw [hd]; simp [Instr.sameBits]⟩
def cZ {α β : Type} [BEq α] [Inhabited β] (k : α) (l : List (α × β)) : β := (l.lookup k).getD default
def iG {α β : Type} [BEq α] (k : α) (l : List (α × β)) : Bool := (l.lookup k).isSome
def gS {α β : Type} [BEq α] (k : α) (v : β) : List (α × β) → List (α × β)
 | [] => [(k, v)]
 | p :: l => if p.1 == k then (p.1, v) :: l else p :: gS k v l
theorem vL {α β : Type} [BEq α] [LawfulBEq α] {d : TypeDesc} {kf : α → Value} (hs : ∀ a b, Instr.sameNow d (kf a) (kf b) = some (a == b)) (k : α) : ∀ (l : List (α × β)) (ms : List MapEntry) (i0 : Nat), ms.length = l.length → (∀ (i : Nat) (p : α × β), l[i]? = some p → ∃ m : MapEntry, ms[i]? = some m ∧ m.key = kf p.1) →
  (l.lookup k = none ∧ Instr.findNow d (kf k) ms i0 = some none ∧ ∀ v, gS k v l = l ++ [(k, v)]) ∨ ∃ j v m, l.lookup k = some v ∧ l[j]? = some (k, v) ∧ ms[j]? = some m ∧ Instr.findNow d (kf k) ms i0 = some (some (i0 + j, m.val)) ∧ ∀ w, gS k w l = l.set j (k, w)
 | [], ms, i0, hl, _ => by
  have : ms = [] := List.eq_nil_of_length_eq_zero (by simpa using hl)
  subst this
  exact .inl ⟨rfl, rfl, fun v => rfl⟩
 | p :: l, [], i0, hl, _ => by simp at hl
 | p :: l, m :: ms, i0, hl, hr => by
  obtain ⟨m', hm', hk⟩ := hr 0 p rfl
  simp at hm'
  subst hm'
  simp only [Instr.findNow, hk, hs]
  by_cases e : k = p.1
  ·have e1 : (k == p.1) = true := by simpa using e
   have e2 : (p.1 == k) = true := by simpa using e.symm
   right
   obtain ⟨pk, pv⟩ := p
   simp only at e e1 e2
   subst e
   exact ⟨0, pv, m, by simp, rfl, rfl, by simp, fun w => by simp [gS]⟩
  ·have e1 : (k == p.1) = false := by simpa using e
   have e2 : (p.1 == k) = false := by simpa using Ne.symm e
   simp only [e1]
   rcases vL hs k l ms (i0 + 1) (by simpa using hl) (fun i q hi => hr (i + 1) q (by simpa using hi)) with ⟨h1, h2, h3⟩ | ⟨j, v, m', h1, h2, h3, h4, h5⟩
   ·refine .inl ⟨?_, h2, fun v => ?_⟩
    ·rw [List.lookup_cons, e1]; exact h1
    ·rw [gS, if_neg (by simp [e2]), h3]; rfl
   ·refine .inr ⟨j + 1, v, m', ?_, by simpa using h2, by simpa using h3, ?_, fun w => ?_⟩
    ·rw [List.lookup_cons, e1]; exact h1
    ·rw [h4]; congr 3; omega
    ·rw [gS, if_neg (by simp [e2]), h5]; rfl
def Uq (μ : cL) (ag : Bool) (l : List (Value × List CV)) (es : Array MapEntry) : Prop :=
 es.size = l.length ∧ ∀ (i : Nat) (key : Value) (e : List CV), l[i]? = some (key, e) → ∃ m, es[i]? = some m ∧ m.key = key ∧ (ag = false → ∃ y, e = [y] ∧ cQ μ y m.val) ∧ (ag = true → ∃ cs : Array Value, m.val = .agg cs ∧ cs.size = e.length ∧ ∀ (j : Nat) (x : CV), e[j]? = some x → ∃ y, cs[j]? = some y ∧ cQ μ x y)
theorem Az {μ : cL} {ag : Bool} {l : List (Value × List CV)} {y : Value} (h : cQ μ (.lmap ag l) y) : (y = .map none ∧ l = []) ∨ ∃ b clk es, y = .map (some b) ∧ μ.m b = some (es, clk) ∧ Uq μ ag l es := by
 cases h with
 | lmapn ag => exact .inl ⟨rfl, rfl⟩
 | lmap _ _ b clk es w hm hn hk hd =>
  refine .inr ⟨b, clk, es, rfl, hm, hn, fun i key e hi => ?_⟩
  obtain ⟨m, h1, h2, h3, h4⟩ := hk i key e hi
  refine ⟨m, h1, h2, fun hag => ?_, fun hag => ?_⟩
  ·obtain ⟨g1, g2⟩ := h4 hag
   obtain ⟨x, rfl⟩ := List.length_eq_one_iff.1 g1
   exact ⟨x, rfl, g2 ▸ hd i 0 key [x] x hi rfl⟩
  ·obtain ⟨cs, g1, g2, g3⟩ := h3 hag
   exact ⟨cs, g1, g2, fun j x hj => ⟨w i j, g3 j x hj, hd i j key e x hi hj⟩⟩
def Ki (C : cD) (o : Oper) (L : List (Nat × AV)) (G : List (Nat × bH)) (v : AV) (foot : List Nat) : Prop :=
 ∀ (s' : St) (U : Nat → Prop) (β : Nat → Bk) (μ : cL) (a : Act) (W : World), (∀ x, x ∈ o.op.operands → s'.ev C x = (mk L [] 0).ev C x) → (∀ n, n ∈ foot → s'.H n = G.lookup n) → pV C s' U β μ a W →
  ∃ y, (execOp a.eval o).run C.E.P W = .ok (.value y) W ∧ dL μ β v y
theorem Ki.opT {C : cD} {ops : Array Oper} {i : Nat} {o : Oper} {L : List (Nat × AV)} {G : List (Nat × bH)} {v : AV} {foot : List Nat} {lim : Nat} (h : Ki C o L G v foot) (hi : ops[i]? = some o) (hw : gN ops o (fun t => L.lookup t) = some true) (hd : ∀ d, o.dst = some d → d < C.n) : wW C ops i o (mk L G lim) (some v) [] foot [] :=
 Qu hi hw hd fun s' U β μ a W ha hr => h s' U β μ a W (fun x hx => (St.ev_agree (C := C) ha hx).trans (eN rfl x)) (fun n hn => ha.2 n hn) hr
theorem Ki.opW {C : cD} {o : Oper} {L : List (Nat × AV)} {G : List (Nat × bH)} {v : AV} {foot : List Nat} (hp : v.plain = true) (h : Ki C o L G v foot) : Yf C o L G v foot := by
 intro s' U β μ a W he hf hr Q K hK
 obtain ⟨y, hy, hd⟩ := h s' U β μ a W (fun x hx => (he x hx).trans (eN rfl x)) hf hr
 unfold Oper.wp
 rw [hy]
 exact hK μ W y hr.w (cL.le_refl μ) (Na hp hd)
section
variable {C : cD} {ops : Array Oper} {dr : Bool} {T : List (List Nat)} {b i : Nat} {o : Oper} {os : List Oper} {D D' : List (Nat × Fx)} {L L' : List (Nat × AV)} {G G' : List (Nat × bH)} {lim : Nat} {K : St → Prop}
theorem rx_W {v : AV} {foot : List Nat} (h : Ki C o L G v foot) (hchk : uW C ops dr T b i o L D v foot = true) (hL : lG o.dst (some v) L = L') (hD : fM dr D i foot [] = D') (hk : RX C ops dr T b (i + 1) os D' (mk L' G lim) K) : RX C ops dr T b i (o :: os) D (mk L G lim) K := by
 subst hL hD
 simp only [uW, Bool.and_eq_true] at hchk
 obtain ⟨⟨c1, c2⟩, c3⟩ := hchk
 have hw : gN ops o (fun t => L.lookup t) = some true := by
  split at c2
  ·assumption
  ·cases c2
 refine mH (fun hi => h.opT (lim := lim) hi hw (dW c1)) c3 ?_
 rw [iA]
 exact hk
theorem wH {e : List Bool} (l : Ls) {v : AV} {foot : List Nat} (hw : pN ops o L = some e) (hs : l.have_ L = l.want e) (hchk : Bp C ops dr T b i o D e l v foot = true) (h : e.all id = true → Ki C o l.st G v foot) (hL : lG o.dst (some (.cnd e v)) L = L') (hD : fM dr D i foot [] = D') (hk : RX C ops dr T b (i + 1) os D' (mk L' G lim) K) : RX C ops dr T b i (o :: os) D (mk L G lim) K := by
 subst hL hD
 simp only [Bp, Bool.and_eq_true] at hchk
 obtain ⟨⟨⟨⟨c1, c2⟩, c3⟩, c4⟩, c5⟩ := hchk
 refine mH (fun hi => yG (lim := lim) hi hw c1 c2 hs c3 (fun he => (h he).opW c2) c5) c4 ?_
 rw [iA]
 exact hk
end
def oneV (ag : Bool) (l : List CV) : Option AV := if ag then some (.agg l) else match l with | [x] => some (.c x) | _ => none
section
variable {C : cD} {ops : Array Oper} {dr : Bool} {T : List (List Nat)} {b i : Nat} {o : Oper} {os : List Oper} {D D' : List (Nat × Fx)} {L L' : List (Nat × AV)} {G G' : List (Nat × bH)} {lim : Nat} {K : St → Prop}
def lkB (C : cD) (o : Oper) (L : List (Nat × AV)) (G : List (Nat × bH)) : Option (Bool × List (Value × List CV) × Value × Bool × TK × TI × List Nat) :=
 match o.op with
 | .lookup Ty x ix ok => match (mk L [] 0).ev C x, (mk L [] 0).ev C ix, C.E.ti Ty with
  | some (.c (.lmap ag l)), some (.c (.v key)), some ⟨.mp kt et, _, _, _⟩ => match C.E.ti kt, C.E.ti et with | some kj, some j => some (ag, l, key, ok, kj.k, j, []) | _, _ => none
  | some (.c (.mapr n)), some (.c (.v key)), some ⟨.mp kt et, _, _, _⟩ => match C.E.ti kt, C.E.ti et, G.lookup n with | some kj, some j, some (.map ag l) => some (ag, l, key, ok, kj.k, j, [n]) | _, _, _ => none
  | _, _, _ => none
 | _ => none
theorem Qx {α γ : Type} [BEq α] [LawfulBEq α] [Inhabited γ] {kf : α → Value} {enc : γ → List CV} {l : List (α × γ)} {k : α} {ok : Bool} {kk : TK} {j : TI} {foot : List Nat} {v : AV} (h : lkB C o L G = some (j.k.agg, l.map (eM kf enc), kf k, ok, kk, j, foot)) (hk : Mt kk kf) (hz : j.zero.map Mk = enc default)
  (hv : oneV j.k.agg (enc (cZ k l)) = some v) : Ki C o L G (if ok then .tup [v, .c (.v (.bool (iG k l)))] else v) foot := by
 have key : ∀ (Ty et kt : TypeId) (x ix : Operand) (z1 z2 : Nat) (z3 : List Value), o.op = .lookup Ty x ix ok → (mk L [] 0).ev C ix = some (.c (.v (kf k))) → C.E.ti Ty = some ⟨.mp kt et, z1, z2, z3⟩ → (∃ kj, C.E.ti kt = some kj ∧ kj.k = kk) → C.E.ti et = some j →
   (∀ (s' : St) (U : Nat → Prop) (β : Nat → Bk) (μ : cL) (a : Act) (W : World), (∀ x, x ∈ o.op.operands → s'.ev C x = (mk L [] 0).ev C x) → (∀ n, n ∈ foot → s'.H n = G.lookup n) → pV C s' U β μ a W → (a.eval x = .map none ∧ l = []) ∨ ∃ bb clk es, a.eval x = .map (some bb) ∧ W.heap[bb]? = some (.map es clk) ∧ Uq μ j.k.agg (l.map (eM kf enc)) es) →
   Ki C o L G (if ok then .tup [v, .c (.v (.bool (iG k l)))] else v) foot := by
  intro Ty et kt x ix z1 z2 z3 ho hix hT hkt het hx
  intro s' U β μ a W ha hf hr
  have eix := dY (St.ev_den hr ((ha ix (by rw [ho]; simp [Op.operands])).trans hix))
  obtain ⟨kj, hkj, rfl⟩ := hkt
  obtain ⟨dd, hdd, hsame, hchk, _⟩ := hk.same C.E.P kt (C.E.ok kt _ hkj).k
  have hu : C.E.P.underlying Ty = some (.map kt et) := (C.E.ok Ty _ hT).k
  obtain ⟨zv, q1, q2, q3⟩ := An het W
  have vF : ∀ (y : Value) (bo : Bool), (Instr.lookup Ty (a.eval x) (a.eval ix) ok).run C.E.P W = .ok (if ok then .tuple #[y, .bool bo] else y) W → Bq μ β v y → bo = iG k l → ∃ y, (execOp a.eval o).run C.E.P W = .ok (.value y) W ∧ dL μ β (if ok then .tup [v, .c (.v (.bool (iG k l)))] else v) y := by
   intro y bo hrun hy hbo
   refine ⟨if ok then .tuple #[y, .bool bo] else y, ?_, ?_⟩
   ·simp only [execOp, ho]; exact iE _ _ _ hrun
   ·cases ok with
    | true =>
     subst hbo
     refine ⟨_, rfl, rfl, fun q A hA => ?_⟩
     match q, hA with
     | 0, hA => simp at hA; subst hA; exact ⟨y, rfl, hy⟩
     | 1, hA => simp at hA; subst hA; exact ⟨_, rfl, .v _⟩
     | q + 2, hA => simp at hA
    | false =>
     cases v with
     | c x => exact hy
     | agg l => exact hy
     | tup l => exact hy.elim
     | cnd gs x => exact hy.elim
  have miss : (Instr.lookup Ty (a.eval x) (a.eval ix) ok).run C.E.P W = .ok (if ok then .tuple #[zv, .bool false] else zv) W → l.lookup k = none → ∃ y, (execOp a.eval o).run C.E.P W = .ok (.value y) W ∧ dL μ β (if ok then .tup [v, .c (.v (.bool (iG k l)))] else v) y := by
   intro hrun f1
   refine vF zv false hrun ?_ (by simp [iG, f1])
   ·have hg : cZ k l = default := by simp [cZ, f1]
    rw [hg, ← hz] at hv
    unfold oneV at hv
    have hzd : wQ μ β (j.zero.map Mk) zv.cells := by
     refine ⟨by rw [← q2]; simp, fun q x hq => ?_⟩
     rw [List.getElem?_map, ← q2] at hq
     simp only [Option.map_eq_some_iff] at hq
     obtain ⟨u, hu', rfl⟩ := hq
     exact ⟨u, by simpa using hu', iT Lg⟩
    by_cases hag : j.k.agg = true
    ·rw [if_pos hag] at hv
     obtain rfl := Option.some.inj hv
     rw [if_pos hag] at q3
     exact ⟨zv.cells, q3, hzd⟩
    ·rw [if_neg hag] at hv
     split at hv
     ·rename_i x0 hx0
      obtain rfl := Option.some.inj hv
      rw [hx0] at hzd
      obtain ⟨y, hy, hyd⟩ := hzd.2 0 x0 rfl
      have hsz : zv.cells.size = 1 := by rw [hzd.1]; rfl
      have hcell : zv.cells[0]? = some zv := by rw [if_neg hag] at q3; rw [q3]; rfl
      rw [hcell] at hy
      obtain rfl := Option.some.inj hy
      exact hyd
     ·cases hv
  rcases hx s' U β μ a W ha hf hr with ⟨e1, hl0⟩ | ⟨bb, clk, es, e1, e2, e3, e4⟩
  ·have hf0 : (Instr.findKey kt (kf k) []).run C.E.P W = .ok none W := by
    unfold Instr.findKey
    rw [Sem.run_bind, run_underlying hdd, Result.andThen_ok]
    rfl
   refine miss ?_ (by rw [hl0]; rfl)
   rw [e1, eix]
   unfold Instr.lookup
   simp only [Sem.run_bind, run_underlying hu, Result.andThen_ok, Sem.run_pure, hchk, hf0, q1]
   try (cases ok <;> rfl)
  have hml : es.toList.length = l.length := by simpa using e3
  have hrel : ∀ (i : Nat) (p : α × γ), l[i]? = some p → ∃ m : MapEntry, es.toList[i]? = some m ∧ m.key = kf p.1 := fun i p hp => by
   obtain ⟨m, hm, hmk, _⟩ := e4 i (kf p.1) (enc p.2) (by rw [List.getElem?_map, hp]; rfl)
   exact ⟨m, by simpa using hm, hmk⟩
  have hfind : ∀ r, Instr.findNow dd (kf k) es.toList 0 = some r → (Instr.findKey kt (kf k) es.toList).run C.E.P W = .ok r W := fun r hr' => by
   unfold Instr.findKey
   rw [Sem.run_bind, run_underlying hdd, Result.andThen_ok, hr']
   rfl
  have hgo : (getObj bb).run C.E.P W = .ok (.map es clk) W := by simp [getObj, Sem.run, e2]
  rcases vL hsame k l es.toList 0 hml hrel with ⟨f1, f2, _⟩ | ⟨jj, w, m, f1, f2, f3, f4, _⟩
  ·refine miss ?_ f1
   rw [e1, eix]
   unfold Instr.lookup
   simp only [Sem.run_bind, run_underlying hu, Result.andThen_ok, hgo, Sem.run_pure, hchk, hfind _ f2, q1]
   try (cases ok <;> rfl)
  ·refine vF m.val true ?_ ?_ (by simp [iG, f1])
   ·rw [e1, eix]
    unfold Instr.lookup
    simp only [Sem.run_bind, run_underlying hu, Result.andThen_ok, hgo, Sem.run_pure, hchk, hfind _ f4]
    try (cases ok <;> rfl)
   ·have hg : cZ k l = w := by simp [cZ, f1]
    rw [hg] at hv
    obtain ⟨m', hm', _, ha', hb'⟩ := e4 jj (kf k) (enc w) (by rw [List.getElem?_map, f2]; rfl)
    have hmm : m' = m := by
     have : es.toList[jj]? = some m' := by simpa using hm'
     rw [f3] at this; exact (Option.some.inj this).symm
    subst hmm
    unfold oneV at hv
    by_cases hag : j.k.agg = true
    ·rw [if_pos hag] at hv
     obtain rfl := Option.some.inj hv
     obtain ⟨cs, g1, g2, g3⟩ := hb' hag
     exact ⟨cs, g1, g2, fun q x hq => let ⟨y, hy, hd⟩ := g3 q x hq; ⟨y, hy, iT hd⟩⟩
    ·rw [if_neg hag] at hv
     obtain ⟨y, g1, g2⟩ := ha' (by simpa using hag)
     rw [g1] at hv
     obtain rfl := Option.some.inj hv
     exact iT g2
 unfold lkB at h
 split at h
 ·rename_i Ty x ix ok' ho
  split at h
  ·rename_i ag l' key' kt et z1 z2 z3 h1 h2 h3
   split at h
   ·rename_i kj j' hkj hj
    simp only [Option.some.injEq, Prod.mk.injEq] at h
    obtain ⟨rfl, rfl, rfl, rfl, rfl, rfl, rfl⟩ := h
    refine key Ty et kt x ix z1 z2 z3 ho h2 h3 ⟨kj, hkj, rfl⟩ hj fun s' U β μ a W ha hf hr => ?_
    have := St.ev_den hr ((ha x (by rw [ho]; simp [Op.operands])).trans h1)
    rcases Az (μ := μ) this with ⟨g1, g2⟩ | ⟨bb, clk, es, g1, g2, g3⟩
    ·exact .inl ⟨g1, List.map_eq_nil_iff.1 g2⟩
    ·exact .inr ⟨bb, clk, es, g1, hr.w.imm.m bb es clk g2, g3⟩
   ·cases h
  ·rename_i n key' kt et z1 z2 z3 h1 h2 h3
   split at h
   ·rename_i kj j' ag l' hkj hj hn
    simp only [Option.some.injEq, Prod.mk.injEq] at h
    obtain ⟨rfl, rfl, rfl, rfl, rfl, rfl, rfl⟩ := h
    refine key Ty et kt x ix z1 z2 z3 ho h2 h3 ⟨kj, hkj, rfl⟩ hj fun s' U β μ a W ha hf hr => ?_
    have hx : a.eval x = .map (some (β n).blk) := St.ev_den hr ((ha x (by rw [ho]; simp [Op.operands])).trans h1)
    have hH : s'.H n = some (.map _ _) := (hf n (by simp)).trans hn
    obtain ⟨h0, es, clk, g1, g2, g3⟩ := hr.w.own n _ hH
    exact .inr ⟨_, clk, es, hx, g1, g2, g3⟩
   ·cases h
  ·cases h
 ·cases h
theorem cW {α γ : Type} [BEq α] [LawfulBEq α] [Inhabited γ] {kf : α → Value} {enc : γ → List CV} {l : List (α × γ)} {k : α} {ok : Bool} {kk : TK} {j : TI} {foot : List Nat} {p : γ × Bool} {v w : AV} (he : some (cZ k l, iG k l) = some p) (h : lkB C o L G = some (j.k.agg, l.map (eM kf enc), kf k, ok, kk, j, foot)) (hk0 : Mt kk kf) (hz : j.zero.map Mk = enc default)
  (hv : oneV j.k.agg (enc p.1) = some v) (hw : (if ok then .tup [v, .c (.v (.bool p.2))] else v) = w) : Ki C o L G w foot := by
 obtain rfl := Option.some.inj he
 subst hw
 exact Qx h hk0 hz hv
def msB (C : cD) (ops : Array Oper) (o : Oper) (L : List (Nat × AV)) (G : List (Nat × bH)) : Option (Nat × Bool × List (Value × List CV) × Value × List CV × TK) :=
 match (match o.op with | .mapUpdate Ty m k x => some (Ty, m, k, x) | .insert Ty m k x => some (Ty, m, k, x) | _ => none), o.dst, gN ops o (fun t => L.lookup t) with
 | some (Ty, m, k, x), none, some true => match (mk L [] 0).ev C m, (mk L [] 0).ev C k, (mk L [] 0).ev C x, C.E.ti Ty with
  | some (.c (.mapr n)), some (.c (.v key)), some A, some ⟨.mp kt et, _, _, _⟩ => match C.E.ti kt, C.E.ti et, G.lookup n, A.pub with
   | some kj, some j, some (.map ag l), some (.agg e) => if ag && j.k.agg then some (n, ag, l, key, e, kj.k) else none
   | some kj, some j, some (.map ag l), some (.c y) => if !ag && !j.k.agg then some (n, ag, l, key, [y], kj.k) else none
   | _, _, _, _ => none
  | _, _, _, _ => none
 | _, _, _ => none
theorem Ij {P : Program} {W : World} {r : Nat} {es : Array MapEntry} {c : Nat} (h : W.heap[r]? = some (.map es c)) (o' : Obj) : (setObj r o').run P W = .ok () { W with heap := W.heap.setIfInBounds r o' } := by
 simp [setObj, Sem.run, h]
theorem Tj {α γ : Type} [BEq α] [LawfulBEq α] {kf : α → Value} {enc : γ → List CV} {l : List (α × γ)} {k : α} {v : γ} {n : Nat} {ag : Bool} {kk : TK} (h : msB C ops o L G = some (n, ag, l.map (eM kf enc), kf k, enc v, kk)) (hk : Mt kk kf) (hi : ops[i]? = some o) :
  wW C ops i o (mk L G lim) none [(n, some (.map ag ((gS k v l).map (eM kf enc))))] [n] [] := by
 have key : ∀ (Ty et kt : TypeId) (m ik x : Operand) (z1 z2 : Nat) (z3 : List Value) (A : AV), (o.op = .mapUpdate Ty m ik x ∨ o.op = .insert Ty m ik x) → o.dst = none → gN ops o (fun t => L.lookup t) = some true → (mk L [] 0).ev C m = some (.c (.mapr n)) → (mk L [] 0).ev C ik = some (.c (.v (kf k))) → (mk L [] 0).ev C x = some A →
   C.E.ti Ty = some ⟨.mp kt et, z1, z2, z3⟩ → (∃ kj, C.E.ti kt = some kj ∧ kj.k = kk) → G.lookup n = some (.map ag (l.map (eM kf enc))) → (∀ (μ : cL) (β : Nat → Bk) (y : Value), dL μ β A y → (ag = false → ∃ z, enc v = [z] ∧ cQ μ z y) ∧ (ag = true → ∃ cs : Array Value, y = .agg cs ∧ cs.size = (enc v).length ∧ ∀ (j : Nat) (x : CV), (enc v)[j]? = some x → ∃ y, cs[j]? = some y ∧ cQ μ x y)) →
   wW C ops i o (mk L G lim) none [(n, some (.map ag ((gS k v l).map (eM kf enc))))] [n] [] := by
  intro Ty et kt m ik x z1 z2 z3 A ho hdst hw hm hik hx hT hkt hn hval
  refine rP hi hw (fun d hd => by rw [hdst] at hd; cases hd) fun s' U β μ a W hag _ _ hr => ?_
  have hop : ∀ q, q ∈ [m, ik, x] → q ∈ o.op.operands := by
   intro q hq
   rcases ho with ho | ho <;> (rw [ho]; simpa [Op.operands] using hq)
  have hev : ∀ q Aq, q ∈ [m, ik, x] → (mk L [] 0).ev C q = some Aq → dL μ β Aq (a.eval q) := fun q Aq hq hA => St.ev_den hr ((St.ev_agree (C := C) (s := mk L G lim) hag (hop q hq)).trans ((eN (s := mk L G lim) (s' := mk L [] 0) rfl q).trans hA))
  have em : a.eval m = .map (some (β n).blk) := hev m _ (by simp) hm
  have ek := dY (hev ik _ (by simp) hik)
  have hvd := hval μ β _ (hev x _ (by simp) hx)
  have hH : s'.H n = some (.map ag (l.map (eM kf enc))) := (hag.2 n (by simp)).trans hn
  obtain ⟨h0, es, clk, g1, g2, g3⟩ := hr.w.own n _ hH
  have hfree := hr.w.sep n _ hH h0
  obtain ⟨kj, hkj, rfl⟩ := hkt
  obtain ⟨dd, hdd, hsame, hchk, hbits⟩ := hk.same C.E.P kt (C.E.ok kt _ hkj).k
  have hu : C.E.P.underlying Ty = some (.map kt et) := (C.E.ok Ty _ hT).k
  have hml : es.toList.length = l.length := by simpa using g2
  have hes : es.size = l.length := g2.trans (by simp)
  have hrel : ∀ (i : Nat) (p : α × γ), l[i]? = some p → ∃ m : MapEntry, es.toList[i]? = some m ∧ m.key = kf p.1 := fun i p hp => by
   obtain ⟨m, hm, hmk, _⟩ := g3 i (kf p.1) (enc p.2) (by rw [List.getElem?_map, hp]; rfl)
   exact ⟨m, by simpa using hm, hmk⟩
  have hfind : ∀ r, Instr.findNow dd (kf k) es.toList 0 = some r → (Instr.findKey kt (kf k) es.toList).run C.E.P W = .ok r W := fun r hr' => by
   unfold Instr.findKey
   rw [Sem.run_bind, run_underlying hdd, Result.andThen_ok, hr']
   rfl
  have hgo : (getObj (β n).blk).run C.E.P W = .ok (.map es clk) W := by simp [getObj, Sem.run, g1]
  have hlt : (β n).blk < W.heap.size := (Array.getElem?_eq_some_iff.1 g1).1
  have vF : ∀ (es2 : Array MapEntry) (clk2 : Nat), (Instr.mapUpdate Ty (a.eval m) (a.eval ik) (a.eval x)).run C.E.P W = .ok () { W with heap := W.heap.setIfInBounds (β n).blk (.map es2 clk2) } → es2.size = (gS k v l).length →
    (∀ (i : Nat) (p : α × γ), (gS k v l)[i]? = some p → ∃ m, es2[i]? = some m ∧ m.key = kf p.1 ∧ (ag = false → ∃ y, enc p.2 = [y] ∧ cQ μ y m.val) ∧ (ag = true → ∃ cs : Array Value, m.val = .agg cs ∧ cs.size = (enc p.2).length ∧ ∀ (j : Nat) (x : CV), (enc p.2)[j]? = some x → ∃ y, cs[j]? = some y ∧ cQ μ x y)) →
    ∃ y W' β' μ', ((execOp a.eval o).run C.E.P W = .ok (.value y) W' ∨ (o.dst = none ∧ (execOp a.eval o).run C.E.P W = .ok .skip W')) ∧ (∀ x, none = some x → dL μ' β' x y) ∧ (∀ n, U n → β' n = β n) ∧ μ.le μ' ∧ WR C (s'.app o.dst none [(n, some (.map ag ((gS k v l).map (eM kf enc))))]).H (fun n => U n ∨ n ∈ []) β' μ' W' := by
   intro es2 clk2 hrun hsz hent
   have hother : ∀ q, q ≠ (β n).blk → ({ W with heap := W.heap.setIfInBounds (β n).blk (.map es2 clk2) } : World).heap[q]? = W.heap[q]? := fun q hq => by
    show (W.heap.setIfInBounds (β n).blk (.map es2 clk2))[q]? = _
    rw [Array.getElem?_setIfInBounds_ne (Ne.symm hq)]
   refine ⟨undef, { W with heap := W.heap.setIfInBounds (β n).blk (.map es2 clk2) }, β, μ, .inr ⟨hdst, ?_⟩, by simp, fun _ _ => rfl, cL.le_refl μ, ?_⟩
   ·rcases ho with ho | ho
    ·simp only [execOp, ho, Sem.run_bind, hrun]; rfl
    ·simp only [execOp, ho, Sem.run_bind, hrun]; rfl
   ·have key2 : WR C (fun q => match [(n, some (bH.map ag ((gS k v l).map (eM kf enc))))].lookup q with | some o => o | none => s'.H q) U β μ { W with heap := W.heap.setIfInBounds (β n).blk (.map es2 clk2) } := by
     refine hr.w.put_same hH h0 (ob := .map ag ((gS k v l).map (eM kf enc))) (fun q => oJ q s'.H) rfl rfl rfl (by simp) (fun q _ hq => hother q hq) (by simp [bH.ments]) ⟨fun q j w hq => ?_, fun q es' c' hq => ?_⟩ ⟨h0, es2, clk2, ?_, by simpa using hsz, fun q ky e hq => ?_⟩ (by have := hfree; exact this)
     ·by_cases e : q = (β n).blk
      ·subst e; rw [hfree.2 j] at hq; cases hq
      ·rw [hother q e]; exact hr.w.imm.c q j w hq
     ·by_cases e : q = (β n).blk
      ·subst e; rw [hfree.1] at hq; cases hq
      ·rw [hother q e]; exact hr.w.imm.m q es' c' hq
     ·show (W.heap.setIfInBounds (β n).blk (.map es2 clk2))[(β n).blk]? = _
      simp [hlt]
     ·rw [List.getElem?_map] at hq
      simp only [Option.map_eq_some_iff] at hq
      obtain ⟨p, hp, hpe⟩ := hq
      simp only [eM, Prod.mk.injEq] at hpe
      obtain ⟨rfl, rfl⟩ := hpe
      exact hent q p hp
    exact key2.weaken fun m hm' => .inl hm'
  have hold : ∀ (i : Nat) (p : α × γ), l[i]? = some p → ∃ m, es[i]? = some m ∧ m.key = kf p.1 ∧ (ag = false → ∃ y, enc p.2 = [y] ∧ cQ μ y m.val) ∧ (ag = true → ∃ cs : Array Value, m.val = .agg cs ∧ cs.size = (enc p.2).length ∧ ∀ (j : Nat) (x : CV), (enc p.2)[j]? = some x → ∃ y, cs[j]? = some y ∧ cQ μ x y) := fun i p hp => g3 i (kf p.1) (enc p.2) (by rw [List.getElem?_map, hp]; rfl)
  rcases vL hsame k l es.toList 0 hml hrel with ⟨f1, f2, f3⟩ | ⟨jj, w, m', f1, f2, f3, f4, f5⟩
  ·refine vF (es.push { key := kf k, val := a.eval x, born := clk }) (clk + 1) ?_ (by rw [f3]; simp; omega) fun q p hp => ?_
   ·rw [em, ek]
    unfold Instr.mapUpdate
    simp only [Sem.run_bind, run_underlying hu, Result.andThen_ok, hgo, hchk, hfind _ f2, Ij g1]
   ·rw [f3] at hp
    by_cases hq : q < l.length
    ·rw [List.getElem?_append_left hq] at hp
     obtain ⟨mm, h1, h2⟩ := hold q p hp
     refine ⟨mm, ?_, h2⟩
     rw [Array.getElem?_push, if_neg (by omega)]; exact h1
    ·rw [List.getElem?_append_right (by omega)] at hp
     have hq2 : q = l.length := by
      have := (List.getElem?_eq_some_iff.1 hp).1
      simp at this; omega
     subst hq2
     simp at hp
     subst hp
     refine ⟨_, by rw [Array.getElem?_push, if_pos (by omega)], rfl, hvd.1, hvd.2⟩
  ·have hmj : es[jj]? = some m' := by simpa using f3
   refine vF (es.modify (0 + jj) fun e => { e with key := kf k, val := a.eval x }) clk ?_ (by rw [f5]; simp; exact g2.trans (by simp)) fun q p hp => ?_
   ·rw [em, ek]
    have hmk : m'.key = kf k := by
     obtain ⟨m2, h1, h2, _⟩ := hold jj (k, w) f2
     rw [hmj] at h1
     cases h1; exact h2
    have hkts : (Instr.keyThatStays ((Option.map (fun x => x.key) es[0 + jj]?).getD (kf k)) (kf k)).run C.E.P W = .ok (kf k) W := by
     rw [Nat.zero_add, hmj]
     show (Instr.keyThatStays m'.key (kf k)).run C.E.P W = _
     rw [hmk]
     unfold Instr.keyThatStays
     rw [if_pos (hbits k)]
     rfl
    unfold Instr.mapUpdate
    simp only [Sem.run_bind, run_underlying hu, Result.andThen_ok, hgo, hchk, hfind _ f4, hkts, Ij g1]
   ·rw [f5] at hp
    rw [Nat.zero_add]
    by_cases hq : q = jj
    ·subst hq
     have hlt2 := (List.getElem?_eq_some_iff.1 f2).1
     rw [List.getElem?_set_self hlt2] at hp
     obtain rfl := Option.some.inj hp
     refine ⟨{ m' with key := kf k, val := a.eval x }, by rw [Array.getElem?_modify, if_pos rfl, hmj]; rfl, rfl, hvd.1, hvd.2⟩
    ·rw [List.getElem?_set_ne (Ne.symm hq)] at hp
     obtain ⟨mm, h1, h2⟩ := hold q p hp
     refine ⟨mm, ?_, h2⟩
     rw [Array.getElem?_modify, if_neg (Ne.symm hq)]; exact h1
 unfold msB at h
 split at h
 ·rename_i Ty m ik x hop hdst hw
  have ho : o.op = .mapUpdate Ty m ik x ∨ o.op = .insert Ty m ik x := by
   split at hop
   ·rename_i ho; simp only [Option.some.injEq, Prod.mk.injEq] at hop; obtain ⟨rfl, rfl, rfl, rfl⟩ := hop; exact .inl ho
   ·rename_i ho; simp only [Option.some.injEq, Prod.mk.injEq] at hop; obtain ⟨rfl, rfl, rfl, rfl⟩ := hop; exact .inr ho
   ·cases hop
  split at h
  ·rename_i n' ky A kt et z1 z2 z3 h1 h2 h3 h4
   split at h
   ·rename_i kj j ag' l' e hkj hj hn hA
    split at h
    ·rename_i hc
     simp only [Option.some.injEq, Prod.mk.injEq] at h
     obtain ⟨rfl, rfl, rfl, rfl, he, rfl⟩ := h
     simp only [Bool.and_eq_true] at hc
     refine key Ty et kt m ik x z1 z2 z3 A ho hdst hw h1 h2 h3 h4 ⟨kj, hkj, rfl⟩ hn fun μ β y hy => ?_
     have := jJ hA hy
     rw [he] at this
     obtain ⟨cs, rfl, q1, q2⟩ := this
     exact ⟨fun hf => (by rw [hc.1] at hf; cases hf), fun _ => ⟨cs, rfl, q1, q2⟩⟩
    ·cases h
   ·rename_i kj j ag' l' y0 hkj hj hn hA
    split at h
    ·rename_i hc
     simp only [Option.some.injEq, Prod.mk.injEq] at h
     obtain ⟨rfl, rfl, rfl, rfl, he, rfl⟩ := h
     simp only [Bool.and_eq_true, Bool.not_eq_true'] at hc
     refine key Ty et kt m ik x z1 z2 z3 A ho hdst hw h1 h2 h3 h4 ⟨kj, hkj, rfl⟩ hn fun μ β y hy => ?_
     have := jJ hA hy
     exact ⟨fun _ => ⟨y0, he.symm, this⟩, fun hf => (by rw [hc.1] at hf; cases hf)⟩
    ·cases h
   ·cases h
  ·cases h
 ·cases h
theorem kT {α γ : Type} [BEq α] [LawfulBEq α] {kf : α → Value} {enc : γ → List CV} {l : List (α × γ)} {k : α} {v : γ} {n : Nat} {ag : Bool} {kk : TK} (h : msB C ops o L G = some (n, ag, l.map (eM kf enc), kf k, enc v, kk)) (hk0 : Mt kk kf) (hdst : o.dst = none) (hchk : iO dr T b i D none [(n, some (.map ag ((gS k v l).map (eM kf enc))))] [n] [] = true)
  (hG : uE [(n, some (.map ag ((gS k v l).map (eM kf enc))))] G = G') (hD : fM dr D i [n] [(n, some (.map ag ((gS k v l).map (eM kf enc))))] = D') (hk : RX C ops dr T b (i + 1) os D' (mk L G' lim) K) : RX C ops dr T b i (o :: os) D (mk L G lim) K := by
 subst hG hD
 refine mH (fun hi => Tj (lim := lim) h hk0 hi) hchk ?_
 rw [iA, hdst]
 exact hk
end
end Go.Bm
namespace Go.Bm
open Go
def Fd {α : Type} (l : List α) (lo hi : Int) : Option (List α) := if 0 ≤ lo ∧ lo ≤ hi ∧ hi ≤ l.length then some ((l.take hi.toNat).drop lo.toNat) else none
theorem lit_sub {μ : cL} {l : List (List CV)} {a : Option Addr} {n c lo hi sz : Nat} (h : cQ μ (.lit l) (.slice a n c)) (h1 : lo ≤ hi) (h2 : hi ≤ l.length) (hsz : ∀ e, e ∈ l → e.length = sz) : cQ μ (.lit ((l.take hi).drop lo)) (.slice (if c = lo then a else a.map (·.add (lo * sz))) (hi - lo) (c - lo)) := by
 have hlen : ((l.take hi).drop lo).length = hi - lo := by simp; omega
 generalize hy : Value.slice a n c = y at h
 cases h with
 | nil a' c' =>
  cases hy
  have : (([] : List (List CV)).take hi).drop lo = [] := by simp
  rw [this]
  have h0 : hi - lo = 0 := by simp at h2; omega
  rw [h0]
  exact .nil _ _
 | lit _ b off c' sz' w hc hz hw hd =>
  cases hy
  by_cases h0 : hi - lo = 0
  ·have : (l.take hi).drop lo = [] := List.eq_nil_of_length_eq_zero (by omega)
   rw [this, h0]
   exact .nil _ _
  ·have hne : c ≠ lo := by omega
   have hszz : sz' = sz := by
    obtain ⟨e, he⟩ : ∃ e, l[0]? = some e := ⟨_, List.getElem?_eq_getElem (by omega)⟩
    exact (hz 0 e he).symm.trans (hsz e (List.mem_of_getElem? he))
   subst hszz
   rw [if_neg hne]
   have hget : ∀ i e, ((l.take hi).drop lo)[i]? = some e → l[lo + i]? = some e := fun i e he => by
    rw [List.getElem?_drop, List.getElem?_take] at he
    split at he
    ·exact he
    ·cases he
   have := cQ.lit (μ := μ) ((l.take hi).drop lo) b (off + lo * sz') (c - lo) sz' (fun i j => w (lo + i) j) (by rw [hlen]; omega) (fun i e he => hz _ e (hget i e he)) (fun i j e x he hx => ?_) (fun i j e x he hx => hd _ j e x (hget i e he) hx)
   ·rw [hlen] at this
    simp only [Option.map_some, rJ]
    exact this
   ·have := hw (lo + i) j e x (hget i e he) hx
    rw [show off + lo * sz' + i * sz' + j = off + (lo + i) * sz' + j by rw [Nat.add_mul]; omega]
    exact this
section
variable {C : cD} {ops : Array Oper} {dr : Bool} {T : List (List Nat)} {b i : Nat} {o : Oper} {os : List Oper} {D D' : List (Nat × Fx)} {L L' : List (Nat × AV)} {G G' : List (Nat × bH)} {lim : Nat} {K : St → Prop}
def Tl (C : cD) (L : List (Nat × AV)) (d : Int) : Option Operand → Option Int
 | none => some d
 | some x => match (mk L [] 0).ev C x with
  | some (.c (.v (.int _ n))) => some n
  | _ => none
def slB (C : cD) (o : Oper) (L : List (Nat × AV)) (len : Int) : Option (List (List CV) × Int × Int × Nat) :=
 match o.op with
 | .slice Ty x lo hi none => match (mk L [] 0).ev C x, C.E.ti Ty, Tl C L 0 lo, Tl C L len hi with
  | some (.c (.lit l)), some ⟨.sl e, _, _, _⟩, some p, some q => match C.E.ti e with | some j => some (l, p, q, j.size) | none => none
  | some (.c (.app _ l)), some ⟨.sl e, _, _, _⟩, some p, some q => match C.E.ti e with | some j => some (l, p, q, j.size) | none => none
  | _, _, _, _ => none
 | _ => none
theorem On {s' : St} {U : Nat → Prop} {β : Nat → Bk} {μ : cL} {a : Act} {W : World} {x : Option Operand} {d n : Int} (hr : pV C s' U β μ a W) (h : Tl C L d x = some n) (hev : ∀ y, x = some y → s'.ev C y = (mk L [] 0).ev C y) : (x = none ∧ n = d) ∨ ∃ y k, x = some y ∧ a.eval y = .int k n := by
 cases x with
 | none => simp only [Tl, Option.some.injEq] at h; exact .inl ⟨rfl, h.symm⟩
 | some y =>
  simp only [Tl] at h
  split at h
  ·rename_i k n' hy
   obtain rfl := Option.some.inj h
   exact .inr ⟨y, k, rfl, dY (St.ev_den hr ((hev y rfl).trans hy))⟩
  ·cases h
theorem yL {P : Program} {W : World} {k : IntKind} {n : Int} {cap : Nat} {e : BoundsCode} (h0 : 0 ≤ n) (h1 : n ≤ cap) : (Instr.sliceBound (.int k n) cap e).run P W = .ok n.toNat W := by
 unfold Instr.sliceBound
 simp [asInt, asIntOf, h0, h1]
theorem sl_of {s' : St} {U : Nat → Prop} {β : Nat → Bk} {μ : cL} {a : Act} {W : World} (hr : pV C s' U β μ a W) {Ty e : TypeId} {x : Operand} {lo hi : Option Operand} {l : List (List CV)} {p q : Int} {j : TI} {z1 z2 : Nat} {z3 : List Value} (ho : o.op = .slice Ty x lo hi none) (hT : C.E.ti Ty = some ⟨.sl e, z1, z2, z3⟩) (hj : C.E.ti e = some j)
  (hx : cQ μ (.lit l) (a.eval x)) (hp : Tl C L 0 lo = some p) (hq : Tl C L l.length hi = some q) (hev : ∀ y, y ∈ o.op.operands → s'.ev C y = (mk L [] 0).ev C y) (hb : 0 ≤ p ∧ p ≤ q ∧ q ≤ l.length) (hsz : ∀ e, e ∈ l → e.length = j.size) :
  ∃ y, (execOp a.eval o).run C.E.P W = .ok (.value y) W ∧ cQ μ (.lit ((l.take q.toNat).drop p.toNat)) y := by
 obtain ⟨aa, c, he⟩ := Ht hx
 have hc : l.length ≤ c := by
  rw [he] at hx
  generalize hy : Value.slice aa l.length c = y at hx
  cases hx with
  | nil a' c' => cases hy; exact Nat.zero_le _
  | lit _ b off c' sz' w hc hz hw hd => cases hy; exact hc
 have hu : C.E.P.underlying Ty = some (.slice e) := (C.E.ok Ty _ hT).k
 have hopl : ∀ y, lo = some y → y ∈ o.op.operands := fun y hy => by rw [ho, hy]; simp [Op.operands]
 have hoph : ∀ y, hi = some y → y ∈ o.op.operands := fun y hy => by rw [ho, hy]; simp [Op.operands]
 have hbd : (Instr.sliceBounds true l.length c (lo.map a.eval) (hi.map a.eval) none).run C.E.P W = .ok (p.toNat, q.toNat, c) W := by
  unfold Instr.sliceBounds
  rcases On hr hq (fun y hy => hev y (hoph y hy)) with ⟨rfl, rfl⟩ | ⟨y, k, rfl, hy⟩
  ·rcases On hr hp (fun y hy => hev y (hopl y hy)) with ⟨rfl, rfl⟩ | ⟨y', k', rfl, hy'⟩
   ·simp
   ·simp [hy', yL (show (0 : Int) ≤ p by omega) (show p ≤ (l.length : Int) by omega)]
  ·rcases On hr hp (fun y hy => hev y (hopl y hy)) with ⟨rfl, rfl⟩ | ⟨y', k', rfl, hy'⟩
   ·simp [hy, yL (show (0 : Int) ≤ q by omega) (show q ≤ (c : Int) by omega)]
   ·simp [hy, hy', yL (show (0 : Int) ≤ q by omega) (show q ≤ (c : Int) by omega), yL (show (0 : Int) ≤ p by omega) (show p ≤ (q.toNat : Int) by omega)]
 refine ⟨_, ?_, lit_sub (he ▸ hx) (lo := p.toNat) (hi := q.toNat) (by omega) (by omega) hsz⟩
 simp only [execOp, ho]
 refine iE _ _ _ ?_
 unfold Instr.sliceAt
 simp only [Sem.run_bind, run_underlying hu, Result.andThen_ok]
 rw [he]
 unfold Instr.slice
 simp only [Sem.run_bind, run_underlying hu, Result.andThen_ok, Option.map_none, hbd, lH hj, Sem.run_pure]
theorem rZ {α : Type} {enc : α → List CV} {l r : List α} {p q : Int} {sz : Nat} (he : Fd l p q = some r) (h : slB C o L l.length = some (l.map enc, p, q, sz)) (hsz : ∀ x, (enc x).length = sz) : Ki C o L G (.c (.lit (r.map enc))) [] := by
 unfold Fd at he
 split at he
 ·rename_i hb
  obtain rfl := Option.some.inj he
  have hml : (l.map enc).length = l.length := List.length_map ..
  have hsz' : ∀ e, e ∈ l.map enc → e.length = sz := fun e he => by obtain ⟨y, _, rfl⟩ := List.mem_map.1 he; exact hsz y
  have hr2 : ((l.map enc).take q.toNat).drop p.toNat = ((l.take q.toNat).drop p.toNat).map enc := by rw [List.map_drop, List.map_take]
  intro s' U β μ a W hev _ hr
  unfold slB at h
  split at h
  ·rename_i Ty x lo hi' ho
   split at h
   ·rename_i l' e z1 z2 z3 p' q' h1 h2 h3 h4
    split at h
    ·rename_i j hj
     simp only [Option.some.injEq, Prod.mk.injEq] at h
     obtain ⟨rfl, rfl, rfl, rfl⟩ := h
     have hx : cQ μ (.lit (l.map enc)) (a.eval x) := St.ev_den hr ((hev x (by rw [ho]; simp [Op.operands])).trans h1)
     obtain ⟨y, g1, g2⟩ := sl_of hr ho h2 hj hx h3 (by rw [hml]; exact h4) hev (by rw [hml]; exact hb) hsz'
     exact ⟨y, g1, by rw [hr2] at g2; exact g2⟩
    ·cases h
   ·rename_i m l' e z1 z2 z3 p' q' h1 h2 h3 h4
    split at h
    ·rename_i j hj
     simp only [Option.some.injEq, Prod.mk.injEq] at h
     obtain ⟨rfl, rfl, rfl, rfl⟩ := h
     have hx : cQ μ (.lit (l.map enc)) (a.eval x) := (rH (St.ev_den hr ((hev x (by rw [ho]; simp [Op.operands])).trans h1))).1
     obtain ⟨y, g1, g2⟩ := sl_of hr ho h2 hj hx h3 (by rw [hml]; exact h4) hev (by rw [hml]; exact hb) hsz'
     exact ⟨y, g1, by rw [hr2] at g2; exact g2⟩
    ·cases h
   ·cases h
  ·cases h
 ·cases he
theorem rY {C : cD} {L L2 : List (Nat × AV)} {G : List (Nat × bH)} {lim : Nat} (t : Nat) (ag : Bool) (h : L.lookup t = some (.c (.v (.map none)))) (hL : nO t (.c (.lmap ag [])) L = L2) : dZ C (mk L G lim) (mk L2 G lim) := by
 subst hL
 intro D β μ a W hr
 refine ⟨β, μ, ⟨hr.f.defers, hr.f.size, fun s x hs => ?_, fun s x hs n hn => ?_⟩, hr.w⟩
 ·have hs' : (nO t (.c (.lmap ag [])) L).lookup s = some x := hs
  rw [jZ] at hs'
  split at hs'
  ·rename_i e
   subst e
   obtain rfl := Option.some.inj hs'
   obtain ⟨v, hv, hd⟩ := hr.f.den s _ h
   have hd' : v = .map none := dY (μ := μ) (β := β) hd
   subst hd'
   exact ⟨_, hv, cQ.lmapn ag⟩
  ·exact hr.f.den s x hs'
 ·have hs' : (nO t (.c (.lmap ag [])) L).lookup s = some x := hs
  rw [jZ] at hs'
  split at hs'
  ·obtain rfl := Option.some.inj hs'
   cases hn
  ·exact hr.f.used s x hs' n hn
end
end Go.Bm
namespace Go.Bm
open Go
section
variable {C : cD} {o : Oper} {L : List (Nat × AV)} {G : List (Nat × bH)}
def Zm (C : cD) (o : Oper) (L : List (Nat × AV)) (G : List (Nat × bH)) : Option (Nat × List Nat) :=
 match o.op with
 | .call ⟨.builtin .len, args, ts⟩ => match args[0]?, ts[0]? with
  | some x, some T => match (mk L [] 0).ev C x, C.E.ti T with
   | some (.c (.lmap _ l)), some ⟨.mp _ _, _, _, _⟩ => some (l.length, [])
   | some (.c (.mapr n)), some ⟨.mp _ _, _, _, _⟩ => match G.lookup n with
    | some (.map _ l) => some (l.length, [n])
    | _ => none
   | _, _ => none
  | _, _ => none
 | _ => none
theorem Ws {n : Nat} {foot : List Nat} (h : Zm C o L G = some (n, foot)) : Ki C o L G (.c (.v (.int .i64 n))) foot := by
 unfold Zm at h
 split at h
 ·rename_i args ts ho
  split at h
  ·rename_i x T hx0 hT0
   have hmem : x ∈ o.op.operands := by
    rw [ho]
    simp only [Op.operands, Call.operands]
    have := Array.mem_of_getElem? hx0
    simpa using this
   have vF : ∀ (a : Act) (W : World) (μ : cL) (β : Nat → Bk), (Builtin.len_ ts o.type (args.map a.eval)).run C.E.P W = .ok (.int .i64 n) W → ∃ y, (execOp a.eval o).run C.E.P W = .ok (.value y) W ∧ dL μ β (.c (.v (.int .i64 n))) y := by
    intro a W μ β e2
    refine ⟨_, ?_, .v _⟩
    rw [gP ho]
    unfold builtin
    rw [Sem.run_bind, e2]
    rfl
   split at h
   ·rename_i ag l k0 e0 z1 z2 z3 hx hT
    simp only [Option.some.injEq, Prod.mk.injEq] at h
    obtain ⟨rfl, rfl⟩ := h
    intro s' U β μ a W ha hf hr
    have hd := St.ev_den hr ((ha x hmem).trans hx)
    have hk : C.E.P.underlying T = some (.map k0 e0) := (C.E.ok T _ hT).k
    refine vF a W μ β ?_
    unfold Builtin.len_
    rcases Az (μ := μ) hd with ⟨g1, g2⟩ | ⟨bb, clk, es, g1, g2, g3⟩
    ·subst g2
     simp only [Array.getElem?_map, hx0, hT0, Option.map_some, g1, Sem.run_bind, run_underlying hk, Result.andThen_ok]
     rfl
    ·have hgo : (getObj bb).run C.E.P W = .ok (.map es clk) W := by simp [getObj, Sem.run, hr.w.imm.m bb es clk g2]
     simp only [Array.getElem?_map, hx0, hT0, Option.map_some, g1, Sem.run_bind, run_underlying hk, Result.andThen_ok, hgo]
     rw [g3.1]
     rfl
   ·rename_i m k0 e0 z1 z2 z3 hx hT
    split at h
    ·rename_i ag l hH
     simp only [Option.some.injEq, Prod.mk.injEq] at h
     obtain ⟨rfl, rfl⟩ := h
     intro s' U β μ a W ha hf hr
     have hd : a.eval x = .map (some (β m).blk) := St.ev_den hr ((ha x hmem).trans hx)
     have hk : C.E.P.underlying T = some (.map k0 e0) := (C.E.ok T _ hT).k
     obtain ⟨h0, es, clk, g1, g2, g3⟩ := hr.w.own m _ ((hf m (by simp)).trans hH)
     refine vF a W μ β ?_
     unfold Builtin.len_
     have hgo : (getObj (β m).blk).run C.E.P W = .ok (.map es clk) W := by simp [getObj, Sem.run, g1]
     simp only [Array.getElem?_map, hx0, hT0, Option.map_some, hd, Sem.run_bind, run_underlying hk, Result.andThen_ok, hgo]
     rw [g2]
     rfl
    ·cases h
   ·cases h
  ·cases h
 ·cases h
theorem Jk {α γ : Type} (kf : α → Value) (enc : γ → List CV) (l : List (α × γ)) {foot : List Nat} (h : Zm C o L G = some ((l.map (eM kf enc)).length, foot)) : Ki C o L G (.c (.v (.int .i64 l.length))) foot := by
 have := Ws h
 rw [List.length_map] at this
 exact this
def Ju (x y : Int) : Int := if y > x then y else x
def maxB (C : cD) (o : Oper) (L : List (Nat × AV)) : Option (IntKind × Int × Int) :=
 match o.op with
 | .call ⟨.builtin .max, args, ts⟩ => match args.toList with
  | [x, y] => match (mk L [] 0).ev C x, (mk L [] 0).ev C y with
   | some (.c (.v (.int k a))), some (.c (.v (.int _ b))) => some (k, a, b)
   | _, _ => none
  | _ => none
 | _ => none
theorem rdW_max {k : IntKind} {p q : Int} (h : maxB C o L = some (k, p, q)) : Ki C o L G (.c (.v (.int k (Ju p q)))) [] := by
 unfold maxB at h
 split at h
 ·rename_i args ts ho
  split at h
  ·rename_i x y hargs
   split at h
   ·rename_i k1 a1 k2 b1 h1 h2
    simp only [Option.some.injEq, Prod.mk.injEq] at h
    obtain ⟨rfl, rfl, rfl⟩ := h
    intro s' U β μ a W ha hf hr
    have hm : ∀ z, z ∈ args.toList → z ∈ o.op.operands := fun z hz => by
     rw [ho]
     simp only [Op.operands, Call.operands]
     simpa using hz
    have e1 := dY (St.ev_den hr ((ha x (hm x (by simp [hargs]))).trans h1))
    have e2 := dY (St.ev_den hr ((ha y (hm y (by simp [hargs]))).trans h2))
    refine ⟨_, ?_, .v _⟩
    rw [gP ho]
    unfold builtin
    have : (Builtin.max_ ts o.type (args.map a.eval)).run C.E.P W = .ok (.int k1 (Ju a1 b1)) W := by
     unfold Builtin.max_
     have hl : (args.map a.eval).toList = [.int k1 a1, .int k2 b1] := by
      rw [Array.toList_map, hargs]; simp [e1, e2]
     rw [hl]
     rfl
    rw [Sem.run_bind, this]
    rfl
   ·cases h
  ·cases h
 ·cases h
end
end Go.Bm
namespace Go.Bm
open Go
theorem WR.alloc_imm {C : cD} {H : Nat → Option bH} {U : Nat → Prop} {β : Nat → Bk} {μ μ' : cL} {W W' : World} (h : WR C H U β μ W) (hos : W'.os = W.os) (htape : W'.tape = W.tape) (hout : W'.output = W.output) (hsz : W.heap.size ≤ W'.heap.size)
  (hblk : ∀ b, b < W.heap.size → W'.heap[b]? = W.heap[b]?) (hg : jK μ μ' (some W.heap.size)) (himm : fQ μ' W') : WR C H U β μ' W' := by
 have hne : ∀ n o, H n = some o → (β n).nil = false → (some W.heap.size) ≠ some (β n).blk := fun n o hn h0 he => by
  have := vH h hn h0
  have := Option.some.inj he
  omega
 refine ⟨fun b hb hF => (hblk b (Nat.lt_of_lt_of_le hb h.size)).trans (h.keep b hb hF), Nat.le_trans h.size hsz, hos.trans h.os, htape.trans h.tape, hout.trans h.output, fun n o hn => ?_, h.inj, himm, fun n o hn h0 => (h.sep n o hn h0).grow hg (hne n o hn h0), h.loc, h.used, cL.le_trans h.mu hg.le, fun b j v hb => ?_, fun b x hb => ?_, fun g l hgl => (h.glob g l hgl).mono hg.le, h.fix⟩
 ·exact (h.own n o hn).mono hg.le (fun _ _ => rfl) fun h0 => hblk _ (vH h hn h0)
 ·rcases hg.c b j v hb with h1 | h1
  ·exact h.newc b j v h1
  ·cases h1; exact .inr (.inl h.size)
 ·rcases hg.m b x hb with h1 | h1
  ·exact h.newm b x h1
  ·cases h1; exact .inr (.inl h.size)
theorem Qc {μ : cL} {k : IntKind} {ns : List Int} {y : Value} (h : cQ μ (.lit (ns.map fun n => [CV.v (.int k n)])) y) : ∃ (a : Option Addr) (c : Nat), y = .slice a ns.length c ∧ (ns ≠ [] → ∃ b off, a = some ⟨b, off, none⟩ ∧ ∀ p n, ns[p]? = some n → μ.c b (off + p) = some (.int k n)) := by
 obtain ⟨a, c, us, h1, h2, h3, _, h5⟩ := yT (sz := 1) (by decide) (fun e he => by obtain ⟨n, _, rfl⟩ := List.mem_map.1 he; rfl) h
 have hlen : (ns.map fun n => [CV.v (.int k n)]).length = ns.length := List.length_map ..
 have hfl : (ns.map fun n => [CV.v (.int k n)]).flatten = ns.map fun n => CV.v (.int k n) := by
  clear h h1 h2 h3 h5 hlen
  induction ns with
  | nil => rfl
  | cons n ns ih => rw [List.map_cons, List.flatten_cons, ih]; rfl
 rw [hlen] at h1
 refine ⟨a, c, h1, fun hne => ?_⟩
 obtain ⟨b, off, ha, hb⟩ := h3 (fun e => hne (List.map_eq_nil_iff.1 e))
 refine ⟨b, off, ha, fun p n hp => ?_⟩
 obtain ⟨u, hu, hd⟩ := h5 p (.v (.int k n)) (by rw [hfl, List.getElem?_map, hp]; rfl)
 have : u = .int k n := dY (μ := μ) (β := fun _ => ⟨0, 0, true, 0⟩) hd
 subst this
 exact hb p _ hu
theorem Lh {P : Program} {μ : cL} {W : World} {k : IntKind} {ns : List Int} {a : Addr} (himm : fQ μ W) (h : ns ≠ [] → ∃ b off, (some a : Option Addr) = some ⟨b, off, none⟩ ∧ ∀ p n, ns[p]? = some n → μ.c b (off + p) = some (.int k n)) : (loadCells a ns.length).run P W = .ok (ns.map (Value.int k)).toArray W := by
 rw [run_loadCells W a ns.length (fun j => .int k (ns.getD j 0)) fun j hj => ?_]
 ·congr 2
  apply List.ext_getElem
  ·simp
  ·intro i h1 h2
   simp at h1
   simp [List.getD, List.getElem?_eq_getElem h1]
 ·obtain ⟨b, off, ha, hb⟩ := h (by rintro rfl; simp at hj)
  obtain rfl := Option.some.inj ha
  rw [rJ]
  refine uZ himm (hb j _ ?_)
  rw [List.getElem?_eq_getElem hj]
  simp [List.getD, List.getElem?_eq_getElem hj]
def dQ (ns : List Int) : ByteArray := ns.foldl (fun r n => r.push (UInt8.ofNat n.toNat)) ByteArray.empty
section
variable {C : cD} {ops : Array Oper} {dr : Bool} {T : List (List Nat)} {b i : Nat} {o : Oper} {os : List Oper} {D D' : List (Nat × Fx)} {L L' : List (Nat × AV)} {G G' : List (Nat × bH)} {lim : Nat} {K : St → Prop}
def rsB (C : cD) (o : Oper) (L : List (Nat × AV)) : Option (IntKind × List (List CV)) :=
 match o.op with
 | .convert src dst x => match (mk L [] 0).ev C x, C.E.ti src, C.E.ti dst with
  | some (.c (.lit l)), some ⟨.sl e, _, _, _⟩, some ⟨.str, _, _, _⟩ => match C.E.ti e with
   | some ⟨.int k, _, _, _⟩ => some (k, l)
   | _ => none
  | some (.c (.app _ l)), some ⟨.sl e, _, _, _⟩, some ⟨.str, _, _, _⟩ => match C.E.ti e with
   | some ⟨.int k, _, _, _⟩ => some (k, l)
   | _ => none
  | _, _, _ => none
 | _ => none
theorem Pu {k : IntKind} {l : List (List CV)} (h : rsB C o L = some (k, l)) : ∃ src dst e x, o.op = .convert src dst x ∧ C.E.P.underlying src = some (.slice e) ∧ C.E.P.underlying e = some (.int k) ∧ C.E.P.underlying dst = some .string ∧
  ∀ (s' : St) (U : Nat → Prop) (β : Nat → Bk) (μ : cL) (a : Act) (W : World), (∀ x, x ∈ o.op.operands → s'.ev C x = (mk L [] 0).ev C x) → pV C s' U β μ a W → cQ μ (.lit l) (a.eval x) := by
 unfold rsB at h
 split at h
 ·rename_i src dst x ho
  split at h
  ·rename_i l' e z1 z2 z3 y1 y2 y3 h1 h2 h3
   split at h
   ·rename_i k' w1 w2 w3 h4
    simp only [Option.some.injEq, Prod.mk.injEq] at h
    obtain ⟨rfl, rfl⟩ := h
    refine ⟨src, dst, e, x, ho, (C.E.ok src _ h2).k, (C.E.ok e _ h4).k, (C.E.ok dst _ h3).k, fun s' U β μ a W ha hr => ?_⟩
    exact St.ev_den hr ((ha x (by rw [ho]; simp [Op.operands])).trans h1)
   ·cases h
  ·rename_i n l' e z1 z2 z3 y1 y2 y3 h1 h2 h3
   split at h
   ·rename_i k' w1 w2 w3 h4
    simp only [Option.some.injEq, Prod.mk.injEq] at h
    obtain ⟨rfl, rfl⟩ := h
    refine ⟨src, dst, e, x, ho, (C.E.ok src _ h2).k, (C.E.ok e _ h4).k, (C.E.ok dst _ h3).k, fun s' U β μ a W ha hr => ?_⟩
    exact (rH (St.ev_den hr ((ha x (by rw [ho]; simp [Op.operands])).trans h1))).1
   ·cases h
  ·cases h
 ·cases h
theorem tU {ns : List Int} (h : rsB C o L = some (.i32, ns.map pU)) : Ki C o L G (.c (.v (.string (runesBytes ns)))) [] := by
 obtain ⟨src, dst, e, x, ho, hs, he, hd, hx⟩ := Pu h
 intro s' U β μ a W ha _ hr
 obtain ⟨ad, c, h1, h2⟩ := Qc (k := .i32) (hx s' U β μ a W ha hr)
 refine ⟨_, ?_, .v _⟩
 simp only [execOp, ho]
 refine iE _ _ _ ?_
 rw [h1]
 cases ad with
 | none =>
  have : ns = [] := by
   cases ns with
   | nil => rfl
   | cons n ns => obtain ⟨b, off, hb, _⟩ := h2 (by simp); cases hb
  subst this
  exact run_convert_runes_nil W src dst e _ _ hs he hd
 | some ad =>
  rw [run_convert_runes_string W src dst e _ _ _ hs he hd]
  exact run_runesToString W ad _ _ ns (Lh hr.w.imm h2)
theorem nV {ns : List Int} (h : rsB C o L = some (.u8, ns.map Ye)) : Ki C o L G (.c (.v (.string (dQ ns)))) [] := by
 obtain ⟨src, dst, e, x, ho, hs, he, hd, hx⟩ := Pu h
 intro s' U β μ a W ha _ hr
 obtain ⟨ad, c, h1, h2⟩ := Qc (k := .u8) (hx s' U β μ a W ha hr)
 refine ⟨_, ?_, .v _⟩
 simp only [execOp, ho]
 refine iE _ _ _ ?_
 rw [h1, run_convert_bytes_string W src dst e _ _ _ hs he hd]
 cases ad with
 | none =>
  have : ns = [] := by
   cases ns with
   | nil => rfl
   | cons n ns => obtain ⟨b, off, hb, _⟩ := h2 (by simp); cases hb
  subst this
  simp [Conv.bytesToString, dQ]
 | some ad =>
  exact run_bytesToString W ad _ _ ns (Lh hr.w.imm h2)
def sK (s : ByteArray) : List Int := (Conv.runesFrom s s.size 0 #[]).toList.map fun v => match v with | .int _ n => n | _ => 0
def Da (s : ByteArray) : Option (List Int) := if s.size ≤ 70368744177664 then some (sK s) else none
theorem xY (s : ByteArray) : ∀ (bound i : Nat) (acc : Array Value), (∀ v, v ∈ acc.toList → ∃ n, v = .int .i32 n) → ∀ v, v ∈ (Conv.runesFrom s bound i acc).toList → ∃ n, v = .int .i32 n
 | 0, _, acc, h => by simpa [Conv.runesFrom] using h
 | bound + 1, i, acc, h => by
  unfold Conv.runesFrom
  split
  ·refine xY s bound _ _ fun v hv => ?_
   rw [Array.toList_push, List.mem_append, List.mem_singleton] at hv
   rcases hv with hv | rfl
   ·exact h v hv
   ·exact ⟨_, rfl⟩
  ·exact h
theorem Nv (s : ByteArray) : Conv.runesFrom s s.size 0 #[] = ((sK s).map (Value.int .i32)).toArray := by
 apply Array.ext'
 unfold sK
 rw [List.map_map]
 symm
 rw [List.toList_toArray]
 refine (List.map_congr_left fun v hv => ?_).trans (List.map_id _)
 obtain ⟨n, rfl⟩ := xY s s.size 0 #[] (by simp) v hv
 rfl
def txB (C : cD) (o : Oper) (L : List (Nat × AV)) : Option ByteArray :=
 match o.op with
 | .convert src dst x => match (mk L [] 0).ev C x, C.E.ti src, C.E.ti dst with
  | some (.c (.v (.string s))), some ⟨.str, _, _, _⟩, some ⟨.sl e, _, _, _⟩ => match C.E.ti e with
   | some ⟨.int .i32, _, _, _⟩ => some s
   | _ => none
  | _, _, _ => none
 | _ => none
theorem Mg {s : ByteArray} {r : List Int} (he : Da s = some r) (h : txB C o L = some s) : Yf C o L G (.c (.lit (r.map pU))) [] := by
 unfold Da at he
 split at he
 ·rename_i hsz
  obtain rfl := Option.some.inj he
  unfold txB at h
  split at h
  ·rename_i src dst x ho
   split at h
   ·rename_i s0 z1 z2 z3 e y1 y2 y3 h1 h2 h3
    split at h
    ·rename_i w1 w2 w3 h4
     obtain rfl := Option.some.inj h
     intro s' U β μ a W ha _ hr Q K hK
     have e1 := dY (St.ev_den hr ((ha x (by rw [ho]; simp [Op.operands])).trans ((eN rfl x).trans h1)))
     have hle := size_runesFrom s0 s0.size 0 #[]
     have hrun := run_runes_of_string (P := C.E.P) W src dst e s0 (C.E.ok src _ h2).k (C.E.ok dst _ h3).k (C.E.ok e _ h4).k (by simp at hle; omega)
     generalize hcap : grownCap W (Conv.runesFrom s0 s0.size 0 #[]).size 0 e = cap at hrun
     have hge : (Conv.runesFrom s0 s0.size 0 #[]).size ≤ cap := by
      have := grownCap_ge W (Conv.runesFrom s0 s0.size 0 #[]).size 0 e
      rw [hcap] at this; exact this
     rw [Nv] at hrun hge
     generalize hns : sK s0 = ns at hrun hge
     have hn : ((ns.map (Value.int .i32)).toArray).size = ns.length := by simp
     rw [hn] at hrun hge
     generalize hcs : (ns.map (Value.int .i32)).toArray ++ Array.replicate (cap - ns.length) (.int .i32 0) = cs at hrun
     have hcell : ∀ (p : Nat) (n : Int), ns[p]? = some n → cs[p]? = some (.int .i32 n) := fun p n hp => by
      have hlt := (List.getElem?_eq_some_iff.1 hp).1
      rw [← hcs, Array.getElem?_append_left (by simpa using hlt)]
      simp [hp]
     have hfr := tR.fresh hr.w.imm (Nat.le_refl _) (.blk 0 [])
     have hgr : jK μ (fY μ W.heap.size (fun k => cs[k]?)) (some W.heap.size) := sW fun k v _ => .inl (hfr.2 k)
     have hold : ∀ b, b < W.heap.size → (W.drew.alloc (.cells cs e)).heap[b]? = W.heap[b]? := fun b hb => by rw [heap_alloc_old]; rfl; exact hb
     have hnew : (W.drew.alloc (.cells cs e)).heap[W.heap.size]? = some (.cells cs e (0, 0)) := heap_alloc_new W.drew _
     have himm : fQ (fY μ W.heap.size (fun k => cs[k]?)) (W.drew.alloc (.cells cs e)) := by
      refine ⟨fun b k v hb => ?_, fun b es clk hb => ?_⟩
      ·by_cases hbe : b = W.heap.size
       ·subst hbe
        simp only [fY, if_true] at hb
        refine ⟨cs, e, (0, 0), hnew, ?_⟩
        split at hb
        ·rename_i w hw; rw [hw]; exact hb
        ·have := qO hr.w.imm hb; omega
       ·simp only [fY, if_neg hbe] at hb
        rw [hold b (qO hr.w.imm hb)]
        exact hr.w.imm.c b k v hb
      ·have hb' : μ.m b = some (es, clk) := hb
       rw [hold b (tH hr.w.imm hb')]
       exact hr.w.imm.m b es clk hb'
     unfold Oper.wp
     have hex : (execOp a.eval o).run C.E.P W = .ok (.value (.slice (some ⟨W.heap.size, 0, none⟩) ns.length cap)) (W.drew.alloc (.cells cs e)) := by
      simp only [execOp, ho]
      refine iE _ _ _ ?_
      rw [e1]
      exact hrun
     rw [hex]
     refine hK _ _ _ (hr.w.alloc_imm rfl rfl rfl (by simp) hold hgr himm) hgr.le ?_
     have hlit := cQ.lit (μ := fY μ W.heap.size (fun k => cs[k]?)) (ns.map pU) W.heap.size 0 cap 1 (fun p _ => .int .i32 (ns.getD p 0)) (by simpa using hge) (fun p e he => ?_) (fun p j e x he hx => ?_) (fun p j e x he hx => ?_)
     ·rw [List.length_map] at hlit
      rw [hns]; exact hlit
     ·rw [List.getElem?_map] at he
      simp only [Option.map_eq_some_iff] at he
      obtain ⟨n, _, rfl⟩ := he
      rfl
     ·rw [List.getElem?_map] at he
      simp only [Option.map_eq_some_iff] at he
      obtain ⟨n, hn, rfl⟩ := he
      cases j with
      | zero =>
       refine ⟨?_, rfl⟩
       simp only [fY, if_true, Nat.zero_add, Nat.mul_one, Nat.add_zero]
       rw [hcell p n hn]
       simp [List.getD, hn]
      | succ j => simp [pU] at hx
     ·rw [List.getElem?_map] at he
      simp only [Option.map_eq_some_iff] at he
      obtain ⟨n, hn, rfl⟩ := he
      cases j with
      | zero =>
       simp [pU] at hx
       subst hx
       have : ns.getD p 0 = n := by simp [List.getD, hn]
       rw [this]
       exact .v _
      | succ j => simp [pU] at hx
    ·cases h
   ·cases h
  ·cases h
 ·cases he
theorem Yf.opT {v : AV} {foot : List Nat} (h : Yf C o L G v foot) (hi : ops[i]? = some o) (hw : gN ops o (fun t => L.lookup t) = some true) (hd : ∀ d, o.dst = some d → d < C.n) : wW C ops i o (mk L G lim) (some v) [] foot [] := by
 intro s' U β μ a W ha _ hm hr Q K hK
 unfold wpOp
 simp only [hi]
 rw [if_pos (vJ (s := mk L G lim) hw ha hr)]
 left
 refine h s' U β μ a W (fun x hx => (St.ev_agree (C := C) ha hx).trans (eN rfl x)) (fun n hn => ha.2 n hn) hr Q K fun μ' W' y hwr hmu hy => hK β μ' _ W' ⟨?_, hwr.weaken fun n hn => .inl hn⟩
 refine FR.put ((hr.f.mono (fun _ _ => rfl) hmu).weaken fun n hn => .inl hn) hd fun x hx => ?_
 obtain rfl := Option.some.inj hx
 exact ⟨Dw hy, fun n hn => hm.1 _ rfl n hn⟩
theorem rx_O {v : AV} {foot : List Nat} (h : Yf C o L G v foot) (hchk : uW C ops dr T b i o L D v foot = true) (hL : lG o.dst (some v) L = L') (hD : fM dr D i foot [] = D') (hk : RX C ops dr T b (i + 1) os D' (mk L' G lim) K) : RX C ops dr T b i (o :: os) D (mk L G lim) K := by
 subst hL hD
 simp only [uW, Bool.and_eq_true] at hchk
 obtain ⟨⟨c1, c2⟩, c3⟩ := hchk
 have hw : gN ops o (fun t => L.lookup t) = some true := by
  split at c2
  ·assumption
  ·cases c2
 refine mH (fun hi => h.opT (lim := lim) hi hw (dW c1)) c3 ?_
 rw [iA]
 exact hk
theorem rx_EO {e : List Bool} (l : Ls) {v : AV} {foot : List Nat} (hw : pN ops o L = some e) (hs : l.have_ L = l.want e) (hchk : Bp C ops dr T b i o D e l v foot = true) (h : e.all id = true → Yf C o l.st G v foot) (hL : lG o.dst (some (.cnd e v)) L = L') (hD : fM dr D i foot [] = D') (hk : RX C ops dr T b (i + 1) os D' (mk L' G lim) K) : RX C ops dr T b i (o :: os) D (mk L G lim) K := by
 subst hL hD
 simp only [Bp, Bool.and_eq_true] at hchk
 obtain ⟨⟨⟨⟨c1, c2⟩, c3⟩, c4⟩, c5⟩ := hchk
 refine mH (fun hi => yG (lim := lim) hi hw c1 c2 hs c3 (fun he => h he) c5) c4 ?_
 rw [iA]
 exact hk
end
end Go.Bm
namespace Go.Bm
open Go
theorem Gs {E : oT} {μ : cL} {β : Nat → Bk} {W : World} {T e ty : TypeId} {j : TI} {z1 z2 : Nat} {z3 : List Value} (hT : E.ti T = some ⟨.sl e, z1, z2, z3⟩) (hj : E.ti e = some j) (hpos : 0 < j.size) (hz : j.zero.length = j.size) (himm : fQ μ W) {k : Bk} {l els : List (List CV)} {y : Value}
  (hown : qT μ β W k (.vec e j.size l)) (hfree : k.nil = false → tR μ k.blk (.vec e j.size l)) (hy : cQ μ (.lit els) y) (hlen : ∀ x, x ∈ els → x.length = j.size) (h63 : l.length + els.length ≤ maxLen) (hbytes : (l.length + els.length) * j.bytes ≤ 140737488355328) :
  ∃ (W' : World) (k' : Bk), (Builtin.append_ #[T, T] ty #[k.sl k.len, y]).run E.P W = .ok (k'.sl k'.len) W' ∧ (∀ β', qT μ β' W' k' (.vec e j.size (l ++ els))) ∧ (k'.nil = false → tR μ k'.blk (.vec e j.size (l ++ els))) ∧ fQ μ W' ∧ (k'.nil = false → W.heap.size ≤ k'.blk ∨ (k.nil = false ∧ k.blk = k'.blk)) ∧
   W'.os = W.os ∧ W'.tape = W.tape ∧ W'.output = W.output ∧ W.heap.size ≤ W'.heap.size ∧ ∀ b, b < W.heap.size → (k.nil = false → b ≠ k.blk) → W'.heap[b]? = W.heap[b]? := by
 obtain ⟨inf, i1, i2, i3, zv, i4, i5, _⟩ := (E.ok e j hj).info
 have hu : E.P.underlying T = some (.slice e) := (E.ok T _ hT).k
 have hzs : zv.cells.size = j.size := by rw [← hz, ← i5]; simp
 obtain ⟨a2, c2, us, rfl, u1, u2, u3, u4⟩ := yT hpos hlen hy
 obtain ⟨hkl, hown⟩ := hown
 obtain ⟨xs, hrow, hxs⟩ : ∃ xs : List Value, W.ownsRow 0 e j.size (k.sl l.length) l.length xs ∧ ∀ (i : Nat) (x : List CV), l[i]? = some x → x.length = j.size ∧ ∀ (p : Nat) (c : CV), x[p]? = some c → ∃ u, xs[i * j.size + p]? = some u ∧ u.oneCell' = true ∧ cQ μ c u := by
  rcases hown with ⟨h0, rfl⟩ | ⟨h0, vs, h1, h2, h3, h4, h5⟩
  ·exact ⟨[], ⟨by simp, .inl ⟨by unfold Bk.sl; rw [if_pos h0], rfl⟩⟩, fun i x hi => by simp at hi⟩
  ·have hle : l.length * j.size ≤ vs.size := by rw [h2]; exact Nat.mul_le_mul_right _ h4
   refine ⟨vs.toList.take (l.length * j.size), ⟨by simp; omega, .inr ⟨k.blk, k.cap, vs, by unfold Bk.sl; rw [if_neg (by simp [h0])], Nat.zero_le _, h1, h4, h3, h2, rfl⟩⟩, fun i x hi => ⟨(h5 i x hi).1, fun p c hp => ?_⟩⟩
   obtain ⟨u, hu1, hu2, hu3⟩ := (h5 i x hi).2 p c hp
   refine ⟨u, ?_, hu2, hu3⟩
   have hi' := (List.getElem?_eq_some_iff.1 hi).1
   have hp' := (List.getElem?_eq_some_iff.1 hp).1
   rw [(h5 i x hi).1] at hp'
   have : i * j.size + p < l.length * j.size := by
    have : (i + 1) * j.size ≤ l.length * j.size := Nat.mul_le_mul_right _ hi'
    rw [Nat.add_mul] at this
    omega
   rw [List.getElem?_take, if_pos this, Array.getElem?_toList]
   exact hu1
 have main : ∃ v' w', (Builtin.append_ #[T, T] ty #[k.sl l.length, .slice a2 els.length c2]).run E.P W = .ok v' w' ∧ w'.ownsRow 0 e j.size v' (l.length + els.length) (xs ++ us) ∧ W.grownBy w' (k.sl l.length).ownBlock ∧ (v'.ownBlock = (k.sl l.length).ownBlock ∨ v'.ownBlock = some W.heap.size) := by
  by_cases hne : els = []
  ·subst hne
   have hus : us = [] := List.eq_nil_of_length_eq_zero (by simpa using u1)
   subst hus
   cases a2 with
   | none =>
    refine ⟨k.sl l.length, W, ?_, ?_, ⟨rfl, rfl, rfl, Nat.le_refl _, fun _ _ _ => rfl⟩, .inl rfl⟩
    ·rcases hown with ⟨h0, rfl⟩ | ⟨h0, vs, _, _, _, h4, _⟩
     ·unfold Bk.sl
      rw [if_pos h0]
      simp [Builtin.append_, run_underlying hu, sizeOf, typeInfo, i1, Builtin.lenOf, Builtin.firstCells]
     ·unfold Bk.sl
      rw [if_neg (by simp [h0])]
      simp [Builtin.append_, run_underlying hu, sizeOf, typeInfo, i1, Builtin.lenOf, Builtin.firstCells, h4, storeCells]
    ·simpa using hrow
   | some ad =>
    obtain ⟨v', w', h1, h2, h3, _, h4⟩ := run_append_own_at (P := E.P) W 0 T ty e inf zv j.size j.bytes hu i1 i4 i2 i3 hzs hpos _ _ xs hrow ad 0 c2 [] (by simp) (by simp) (by simp) (by simpa using h63) (by simpa using hbytes) (Nat.zero_le _)
    exact ⟨v', w', h1, h2, h3, h4⟩
  ·obtain ⟨b, off, rfl, hb⟩ := u2 hne
   have hnews : ∀ p u, us[p]? = some u → W.cell? ((⟨b, off, none⟩ : Addr).add p) = some u := fun p u hu' => by rw [rJ]; exact uZ himm (hb p u hu')
   obtain ⟨v', w', h1, h2, h3, _, h4⟩ := run_append_own_at (P := E.P) W 0 T ty e inf zv j.size j.bytes hu i1 i4 i2 i3 hzs hpos _ _ xs hrow ⟨b, off, none⟩ els.length c2 us u1 hnews (fun u hu' => u3 u hu') h63 hbytes (Nat.zero_le _)
   exact ⟨v', w', h1, h2, h3, h4⟩
 obtain ⟨v', W', hrun, ⟨hxl, hrow'⟩, hg, hat⟩ := main
 have hfr : ∀ b, b < W.heap.size → (k.nil = false → b ≠ k.blk) → W'.heap[b]? = W.heap[b]? := fun b hb hne => hg.block b hb (by
  rw [sA]
  split
  ·simp
  ·rename_i h0
   intro he
   exact hne (by simpa using h0) (Option.some.inj he))
 have himm' : fQ μ W' := by
  refine ⟨fun b i v hb => ?_, fun b es clk hb => ?_⟩
  ·rw [hfr b (qO himm hb) fun h0 hbk => ?_]
   ·exact himm.c b i v hb
   ·rw [hbk, (hfree h0).2 i] at hb; cases hb
  ·rw [hfr b (tH himm hb) fun h0 hbk => ?_]
   ·exact himm.m b es clk hb
   ·rw [hbk, (hfree h0).1] at hb; cases hb
 rw [← hkl]
 have hlen2 : (l ++ els).length = l.length + els.length := List.length_append
 rcases hrow' with ⟨rfl, h0⟩ | ⟨g, cap, cur, rfl, _, hh, hnc, hcm, hcs, htk⟩
 ·have hl0 : l = [] := List.eq_nil_of_length_eq_zero (by omega)
  have he0 : els = [] := List.eq_nil_of_length_eq_zero (by omega)
  subst hl0 he0
  exact ⟨W', ⟨0, 0, true, 0⟩, hrun, fun _ => ⟨rfl, .inl ⟨rfl, rfl⟩⟩, fun h => by simp at h, himm', fun h => by simp at h, hg.os, hg.tape, hg.output, hg.size, hfr⟩
 ·have hbk : W.heap.size ≤ g ∨ (k.nil = false ∧ k.blk = g) := by
   rw [sA] at hat
   rcases hat with hat | hat
   ·right
    cases hq : k.nil with
    | true => rw [hq] at hat; simp [Value.ownBlock] at hat
    | false => rw [hq] at hat; simp [Value.ownBlock] at hat; exact ⟨rfl, hat.symm⟩
   ·left
    simp [Value.ownBlock] at hat
    omega
  have hcell : ∀ p u, (xs ++ us)[p]? = some u → cur[p]? = some u := fun p u hp => by
   rw [← htk, List.getElem?_take] at hp
   split at hp
   ·rw [Array.getElem?_toList] at hp; exact hp
   ·cases hp
  refine ⟨W', ⟨g, cap, false, l.length + els.length⟩, hrun, fun β' => ⟨hlen2, .inr ⟨rfl, cur, hh, hcs, hcm, by rw [hlen2]; exact hnc, fun i x hi => ?_⟩⟩, fun _ => ?_, himm', fun _ => hbk, hg.os, hg.tape, hg.output, hg.size, hfr⟩
  ·by_cases hil : i < l.length
   ·rw [List.getElem?_append_left hil] at hi
    obtain ⟨g1, g2⟩ := hxs i x hi
    refine ⟨g1, fun p c hp => ?_⟩
    obtain ⟨u, h1, h2, h3⟩ := g2 p c hp
    refine ⟨u, hcell _ u ?_, h2, h3⟩
    rw [List.getElem?_append_left (List.getElem?_eq_some_iff.1 h1).1]
    exact h1
   ·rw [List.getElem?_append_right (by omega)] at hi
    have hxl2 := hrow.1
    refine ⟨hlen x (List.mem_of_getElem? hi), fun p c hp => ?_⟩
    obtain ⟨u, h1, h2⟩ := u4 _ c (xZ hlen (i - l.length) p x c hi hp)
    refine ⟨u, hcell _ u ?_, u3 u (List.mem_of_getElem? h1), h2⟩
    have hmul : i * j.size = l.length * j.size + (i - l.length) * j.size := by rw [← Nat.add_mul]; congr 1; omega
    rw [List.getElem?_append_right (by rw [hxl2]; omega), hxl2, show i * j.size + p - l.length * j.size = (i - l.length) * j.size + p by omega]
    exact h1
  ·rcases hbk with h | ⟨h0, rfl⟩
   ·exact tR.fresh himm h _
   ·exact hfree h0
theorem Qr {C : cD} {ops : Array Oper} {i : Nat} {o : Oper} {s : St} {n m : Nat} (hi : ops[i]? = some o) (hw : gN ops o s.fr = some true) (hd : ∀ d, o.dst = some d → d < C.n) {x y : Operand} {T e : TypeId} {j : TI} {z1 z2 : Nat} {z3 : List Value} (ho : o.op = .call ⟨.builtin .append, #[x, y], #[T, T]⟩)
  (hT : C.E.ti T = some ⟨.sl e, z1, z2, z3⟩) (hj : C.E.ti e = some j) (hpos : 0 < j.size) (hz : j.zero.length = j.size) {l els l2 : List (List CV)} (hx : s.ev C x = some (.c (.row m))) (hH : s.H m = some (.vec e j.size l))
  (hy : s.ev C y = some (.c (.lit els)) ∨ ∃ q, s.ev C y = some (.c (.app q els))) (hlen : ∀ x, x ∈ els → x.length = j.size) (h63 : l.length + els.length ≤ maxLen) (hbytes : (l.length + els.length) * j.bytes ≤ 140737488355328) (hl2 : l ++ els = l2) :
  wW C ops i o s (some (.c (.row n))) [(n, some (.vec e j.size l2)), (m, none)] [m] [n] := by
 subst hl2
 refine rP hi hw hd fun s' U β μ a W hag hn hm hr => ?_
 have hnU : ¬ U n := hn n (by simp)
 have hox : x ∈ o.op.operands := by rw [ho]; simp [Op.operands, Call.operands]
 have hoy : y ∈ o.op.operands := by rw [ho]; simp [Op.operands, Call.operands]
 have hkx : a.eval x = (β m).sl (β m).len := Fw (St.ev_den hr ((St.ev_agree (C := C) hag hox).trans hx))
 have hH' : s'.H m = some (.vec e j.size l) := (hag.2 m (by simp)).trans hH
 have hyd : cQ μ (.lit els) (a.eval y) := by
  rcases hy with h1 | ⟨m, h1⟩
  ·exact St.ev_den hr ((St.ev_agree (C := C) hag hoy).trans h1)
  ·exact (rH (St.ev_den hr ((St.ev_agree (C := C) hag hoy).trans h1))).1
 obtain ⟨W', k', hrun, r1, r2, r3, r4, r5, r6, r7, r8, r9⟩ := Gs (ty := o.type) hT hj hpos hz hr.w.imm (hr.w.own m _ hH') (fun h0 => hr.w.sep m _ hH' h0) hyd hlen h63 hbytes
 refine ⟨k'.sl k'.len, W', wT β n k', μ, .inl ?_, fun q hq => ?_, fun m hm => eW (fun e => hnU (e ▸ hm)), cL.le_refl μ, ?_⟩
 ·rw [gP ho]
  simp only [List.map_toArray, List.map_cons, List.map_nil, hkx]
  unfold builtin
  rw [Sem.run_bind, hrun]
  rfl
 ·cases hq
  show k'.sl k'.len = (wT β n k' n).sl (wT β n k' n).len
  rw [eG]
 ·refine hr.w.put_new (old := some m) (ob := .vec e j.size (l ++ els)) hnU (fun q => ?_) r5 r6 r7 r8 (fun b hb hne => r9 b hb fun h0 hbk => hne m _ rfl hH' h0 hbk) (by simp [bH.ments]) (jK.refl μ _) r3 (r1 _) r2 (fun h0 => ?_)
  ·refine (Ia q s'.H).trans ?_
   by_cases e1 : q = n
   ·simp [e1]
   ·by_cases e2 : q = m
    ·subst e2; simp [e1]
    ·simp [e1, e2, Ne.symm e2]
  ·rcases r4 h0 with h1 | ⟨h1, h2⟩
   ·exact .inl h1
   ·exact .inr ⟨m, _, rfl, hH', h1, h2⟩
end Go.Bm
namespace Go.Bm
open Go
theorem Tx {C : cD} {ops : Array Oper} {i : Nat} {o : Oper} {s : St} (hi : ops[i]? = some o) (hw : gN ops o s.fr = some true) (hdst : o.dst = none) {T : TypeId} {a x : Operand} (ho : o.op = .store T a x) {n q f sz : Nat} (ha : s.ev C a = some (.c (.ptr n (q * sz + f)))) {A : AV} (hx : s.ev C x = some A) {k : TI} (hT : C.E.ti T = some k)
  {lx lp : List CV} (hc : A.cells? = some lx) (hp : Jw CV.pub lx = some lp) {T0 : TypeId} {l : List (List CV)} (hH : s.H n = some (.vec T0 sz l)) (hz : lx.length = k.size) {e : List CV} (hq : l[q]? = some e) (hf : f + lx.length ≤ sz) : wW C ops i o s none [(n, some (.vec T0 sz (l.set q (gL e f lp))))] [n] [] := by
 refine rP hi hw (fun d hd => by rw [hdst] at hd; cases hd) fun s' U β μ act W hag _ hm hr => ?_
 have hopn : ∀ y, y ∈ [a, x] → y ∈ o.op.operands := by intro y hy; rw [ho]; simpa [Op.operands] using hy
 have e1 := qV (St.ev_den hr ((St.ev_agree hag (hopn a (by simp))).trans ha))
 have hA := (St.ev_agree (C := C) hag (hopn x (by simp))).trans hx
 obtain ⟨c1, c2, c3, c4⟩ := yJ hc (St.ev_den hr hA)
 obtain ⟨p1, p2⟩ := tA hp
 have hH' := (hag.2 n (by simp)).trans hH
 obtain ⟨hkl, hown⟩ := hr.w.own n _ hH'
 have hql := (List.getElem?_eq_some_iff.1 hq).1
 rcases hown with ⟨_, rfl⟩ | ⟨h0, vs, hv, hvs, hcm, hle, hel⟩
 ·simp at hql
 have hfit : q * sz + f + lx.length ≤ vs.size := by
  rw [hvs]
  have : (q + 1) * sz ≤ (β n).cap * sz := Nat.mul_le_mul_right _ (by omega)
  rw [Nat.add_mul] at this
  omega
 generalize hoff : q * sz + f = off at e1 hfit
 have hst := run_storeCells_at C.E.P (β n).blk off T0 (act.eval x).cells.toList 0 vs W hv (by simp only [Array.length_toList, c3]; omega) c2
 simp only [Nat.add_zero, Array.length_toList, c3] at hst
 refine ⟨undef, W.setRow (β n).blk (vs.toList.take off ++ (act.eval x).cells.toList ++ vs.toList.drop (off + lx.length)).toArray, β, μ, .inr ⟨hdst, ?_⟩, by simp, fun _ _ => rfl, cL.le_refl μ, ?_⟩
 ·simp only [execOp, ho, e1, Instr.storeAt, Instr.sureAddr, Sem.run_bind, Sem.run_pure, Result.andThen_ok]
  unfold storeVar
  rw [Sem.run_bind, lH hT, Result.andThen_ok, if_neg (by rw [c3, hz]; simp)]
  rw [hst]
  rfl
 ·have hget : ∀ j, (vs.toList.take off ++ (act.eval x).cells.toList ++ vs.toList.drop (off + lx.length)).toArray[j]? = if j < off then vs[j]? else if j < off + lx.length then (act.eval x).cells[j - off]? else vs[j]? := by
   intro j
   have := sZ vs.toList (act.eval x).cells.toList off j (by simp only [Array.length_toList, c3]; omega)
   simp only [Array.length_toList, c3] at this
   simpa using this
  have hfree := hr.w.sep n _ hH' h0
  have hother : ∀ b, b ≠ (β n).blk → (W.setRow (β n).blk (vs.toList.take off ++ (act.eval x).cells.toList ++ vs.toList.drop (off + lx.length)).toArray).heap[b]? = W.heap[b]? := fun b hb => setRow_other W _ b _ hb
  have hee := (hel q e hq).1
  have hsl : f + lp.length ≤ e.length := by rw [p1, hee]; exact hf
  have key : WR C (fun m => match [(n, some (bH.vec T0 sz (l.set q (gL e f lp))))].lookup m with | some o => o | none => s'.H m) U β μ (W.setRow (β n).blk (vs.toList.take off ++ (act.eval x).cells.toList ++ vs.toList.drop (off + lx.length)).toArray) := by
   refine hr.w.put_same hH' h0 (ob := .vec T0 sz (l.set q (gL e f lp))) (fun j => oJ j s'.H) rfl rfl rfl (by rw [size_setRow]; exact Nat.le_refl _) (fun b _ hb => hother b hb) (by simp [bH.ments]) ⟨fun b j v hb => ?_, fun b es clk hb => ?_⟩ ⟨by rw [List.length_set]; exact hkl, .inr ⟨h0, _, setRow_heap W _ vs _ T0 (0, 0) hv, ?_, hcm, by rw [List.length_set]; exact hle, fun i2 e2 hi2 => ?_⟩⟩ hfree
   ·by_cases e : b = (β n).blk
    ·subst e; have := hfree.2 j; rw [this] at hb; cases hb
    ·rw [hother b e]; exact hr.w.imm.c b j v hb
   ·by_cases e : b = (β n).blk
    ·subst e; have := hfree.1; rw [this] at hb; cases hb
    ·rw [hother b e]; exact hr.w.imm.m b es clk hb
   ·rw [← hvs]
    simp only [List.size_toArray, List.length_append, List.length_take, List.length_drop, Array.length_toList, c3]
    omega
   ·by_cases hiq : i2 = q
    ·subst hiq
     rw [List.getElem?_set_self hql] at hi2
     obtain rfl := Option.some.inj hi2
     refine ⟨(vN hsl).trans hee, fun j y hj => ?_⟩
     rw [gL, sZ _ _ _ _ hsl] at hj
     rw [hget]
     by_cases ej : j < f
     ·rw [if_pos ej] at hj
      rw [if_pos (by omega)]
      exact (hel i2 e hq).2 j y hj
     ·rw [if_neg ej] at hj
      rw [if_neg (by omega)]
      by_cases ej2 : j < f + lp.length
      ·rw [if_pos ej2] at hj
       rw [p1] at ej2
       rw [if_pos (by omega)]
       obtain ⟨y0, hy0, hyp⟩ := p2 _ y hj
       obtain ⟨w, hw1, hw2⟩ := c1.2 _ y0 hy0
       refine ⟨w, ?_, c2 w (Array.mem_toList_iff.2 (Array.mem_of_getElem? hw1)), Bx hyp hw2⟩
       rw [show i2 * sz + j - off = j - f by omega]
       exact hw1
      ·rw [if_neg ej2] at hj
       rw [p1] at ej2
       rw [if_neg (by omega)]
       exact (hel i2 e hq).2 j y hj
    ·rw [List.getElem?_set_ne (Ne.symm hiq)] at hi2
     obtain ⟨g1, g2⟩ := hel i2 e2 hi2
     refine ⟨g1, fun j y hj => ?_⟩
     have hjs : j < sz := by rw [← g1]; exact (List.getElem?_eq_some_iff.1 hj).1
     have : ¬ (off ≤ i2 * sz + j ∧ i2 * sz + j < off + lx.length) := by
      rcases Nat.lt_or_gt_of_ne hiq with h | h
      ·have : (i2 + 1) * sz ≤ q * sz := Nat.mul_le_mul_right _ h
       rw [Nat.add_mul] at this
       omega
      ·have : (q + 1) * sz ≤ i2 * sz := Nat.mul_le_mul_right _ h
       rw [Nat.add_mul] at this
       omega
     rw [hget]
     by_cases e3 : i2 * sz + j < off
     ·rw [if_pos e3]; exact g2 j y hj
     ·rw [if_neg e3, if_neg (by omega)]; exact g2 j y hj
  exact key.weaken fun m hm' => .inl hm'
section
variable {C : cD} {ops : Array Oper} {dr : Bool} {T : List (List Nat)} {b i : Nat} {o : Oper} {os : List Oper} {D D' : List (Nat × Fx)} {L L' : List (Nat × AV)} {G G' : List (Nat × bH)} {lim : Nat} {K : St → Prop}
def stVB (C : cD) (ops : Array Oper) (o : Oper) (L : List (Nat × AV)) (G : List (Nat × bH)) : Option (Nat × Nat × List CV × Nat × Nat × List (List CV)) :=
 match o.op with
 | .store Ty a x => match o.dst, gN ops o (fun t => L.lookup t), (mk L [] 0).ev C a, (mk L [] 0).ev C x, C.E.ti Ty with
  | none, some true, some (.c (.ptr n off)), some A, some k => match A.cells?, G.lookup n with
   | some lx, some (.vec T0 sz l) => if Nat.beq lx.length k.size then match Jw CV.pub lx with | some lp => some (n, off, lp, T0, sz, l) | none => none else none
   | _, _ => none
  | _, _, _, _, _ => none
 | _ => none
theorem nJ {α : Type} {enc : α → List CV} {n q f sz T0 : Nat} {lp : List CV} {l : List α} {e e2 : α} (hq : l[q]? = some e) (h : stVB C ops o L G = some (n, q * sz + f, lp, T0, sz, l.map enc)) (hf : f + lp.length ≤ sz) (he : gL (enc e) f lp = enc e2) (hchk : iO dr T b i D none [(n, some (.vec T0 sz ((l.set q e2).map enc)))] [n] [] = true) (hG : uE [(n, some (.vec T0 sz ((l.set q e2).map enc)))] G = G') (hD : fM dr D i [n] [(n, some (.vec T0 sz ((l.set q e2).map enc)))] = D')
  (hk : RX C ops dr T b (i + 1) os D' (mk L G' lim) K) : RX C ops dr T b i (o :: os) D (mk L G lim) K := by
 subst hG hD
 have hset : (l.map enc).set q (gL (enc e) f lp) = (l.set q e2).map enc := by rw [he, List.map_set]
 unfold stVB at h
 split at h
 ·rename_i Ty a x ho
  split at h
  ·rename_i n' off' A k h1 h2 h3 h4 h5
   split at h
   ·rename_i lx' T0' sz' l' h6 h7
    split at h
    ·rename_i hz
     split at h
     ·rename_i lp' h8
      simp only [Option.some.injEq, Prod.mk.injEq] at h
      obtain ⟨rfl, rfl, rfl, rfl, rfl, rfl⟩ := h
      have hpl := (tA h8).1
      refine mH (fun hi => ?_) hchk ?_
      ·have := Tx hi (s := mk L G lim) h2 h1 ho ((eN rfl a).trans h3) ((eN rfl x).trans h4) h5 h6 h8 h7 (Nat.eq_of_beq_eq_true hz) (q := q) (f := f) (e := enc e) (by rw [List.getElem?_map, hq]; rfl) (by rw [← hpl]; exact hf)
       rw [hset] at this
       exact this
      ·rw [iA, h1]
       exact hk
     ·cases h
    ·cases h
   ·cases h
  ·cases h
 ·cases h
def ldVB (C : cD) (o : Oper) (L : List (Nat × AV)) (G : List (Nat × bH)) : Option (Nat × Nat × Nat × List (List CV) × TI) :=
 match o.op with
 | .load Ty x => match (mk L [] 0).ev C x, C.E.ti Ty with
  | some (.c (.ptr n off)), some j => match G.lookup n with
   | some (.vec _ sz l) => some (n, off, sz, l, j)
   | _ => none
  | _, _ => none
 | _ => none
def appVB (C : cD) (ops : Array Oper) (o : Oper) (L : List (Nat × AV)) (G : List (Nat × bH)) : Option (Nat × Nat × Nat × Nat × List (List CV) × List (List CV)) :=
 match o.op with
 | .call ⟨.builtin .append, args, ts⟩ => match args.toList, ts.toList, Wn C (ts.getD 0 0), gN ops o (fun t => L.lookup t), pX C.n o with
  | [x, y], [T, T'], some (e, j), some true, true => if (Nat.beq T T' && decide (0 < j.size)) && Nat.beq j.zero.length j.size then
    match (mk L [] 0).ev C x, (match (mk L [] 0).ev C y with | some (.c (.lit els)) => some els | some (.c (.app _ els)) => some els | _ => none) with
    | some (.c (.row m)), some els => match G.lookup m with
     | some (.vec e' sz l) => if Nat.beq e e' && Nat.beq sz j.size then some (m, e, j.size, j.bytes, l, els) else none
     | _ => none
    | _, _ => none
   else none
  | _, _, _, _, _ => none
 | _ => none
theorem oK {α : Type} {enc : α → List CV} {l els r : List α} {m e sz bytes nm : Nat} (he : pA bytes l els = some r) (h : appVB C ops o L G = some (m, e, sz, bytes, l.map enc, els.map enc)) (hlen : ∀ x, (enc x).length = sz) (hnm : b + i = nm)
  (hchk : iO dr T b i D (some (.c (.row nm))) [(nm, some (.vec e sz (r.map enc))), (m, none)] [m] [nm] = true) (hL : lG o.dst (some (.c (.row nm))) L = L') (hG : uE [(nm, some (.vec e sz (r.map enc))), (m, none)] G = G') (hD : fM dr D i [m] [(nm, some (.vec e sz (r.map enc))), (m, none)] = D') (hk : RX C ops dr T b (i + 1) os D' (mk L' G' lim) K) : RX C ops dr T b i (o :: os) D (mk L G lim) K := by
 subst hL hD hG hnm
 unfold pA at he
 split at he
 ·rename_i hb
  obtain rfl := Option.some.inj he
  have hr0 : l.map enc ++ els.map enc = (l ++ els).map enc := List.map_append.symm
  have hall : ∀ x, x ∈ els.map enc → x.length = sz := fun x hx => by
   obtain ⟨y, _, rfl⟩ := List.mem_map.1 hx
   exact hlen y
  have hev : ∀ x, (mk L G lim).ev C x = (mk L [] 0).ev C x := fun x => eN rfl x
  unfold appVB at h
  split at h
  ·rename_i args ts ho0
   split at h
   ·rename_i x y T1 T2 e0 j0 hax hts hap hw hc2
    split at h
    ·rename_i hc1
     simp only [Bool.and_eq_true, decide_eq_true_eq] at hc1
     obtain ⟨⟨hc1, hpos⟩, hzz⟩ := hc1
     have hzz := Nat.eq_of_beq_eq_true hzz
     have hTT := Nat.eq_of_beq_eq_true hc1
     subst hTT
     have ho : o.op = .call ⟨.builtin .append, #[x, y], #[T1, T1]⟩ := by
      rw [ho0, ← Array.toArray_toList (xs := args), ← Array.toArray_toList (xs := ts), hax, hts]
     have hts0 : ts.getD 0 0 = T1 := by
      have : ts = #[T1, T1] := by rw [← Array.toArray_toList (xs := ts), hts]
      rw [this]; rfl
     rw [hts0] at hap
     unfold Wn at hap
     split at hap
     ·rename_i e' z1 z2 z3 hT
      split at hap
      ·rename_i j hj
       simp only [Option.some.injEq, Prod.mk.injEq] at hap
       obtain ⟨rfl, rfl⟩ := hap
       split at h
       ·rename_i m' els' hx hy
        split at h
        ·rename_i e2 s2 l2 hm
         split at h
         ·rename_i hcc
          simp only [Bool.and_eq_true] at hcc
          have q1 := Nat.eq_of_beq_eq_true hcc.1
          have q2 := Nat.eq_of_beq_eq_true hcc.2
          subst q1 q2
          simp only [Option.some.injEq, Prod.mk.injEq] at h
          obtain ⟨rfl, rfl, h3, rfl, rfl, rfl⟩ := h
          subst h3
          have hy' : (mk L G lim).ev C y = some (.c (.lit (els.map enc))) ∨ ∃ q, (mk L G lim).ev C y = some (.c (.app q (els.map enc))) := by
           split at hy
           ·rename_i els2 hy2
            obtain rfl := Option.some.inj hy
            exact .inl ((hev y).trans hy2)
           ·rename_i q els2 hy2
            obtain rfl := Option.some.inj hy
            exact .inr ⟨q, (hev y).trans hy2⟩
           ·cases hy
          have := fun hi => Qr (C := C) (ops := ops) (i := i) (o := o) (s := mk L G lim) (n := b + i) hi hw (dW hc2) ho hT hj hpos hzz ((hev x).trans hx) hm hy' hall (by simp only [List.length_map, maxLen]; exact hb.2) (by simpa only [List.length_map] using hb.1) hr0
          refine mH this hchk ?_
          rw [iA]
          exact hk
         ·cases h
        ·cases h
       ·cases h
      ·cases hap
     ·cases hap
    ·cases h
   ·cases h
  ·cases h
 ·cases he
end
end Go.Bm
namespace Go.Bm
open Go
theorem inb_eq {ix : Int} {len k : Nat} (h : rL ix len = some k) : 0 ≤ ix ∧ ix < len ∧ ix.toNat = k := by
 unfold rL at h
 split at h
 ·rename_i h0
  obtain rfl := Option.some.inj h
  exact ⟨h0.1, h0.2, rfl⟩
 ·cases h
section
variable {C : cD} {ops : Array Oper} {dr : Bool} {T : List (List Nat)} {b i : Nat} {o : Oper} {os : List Oper} {D D' : List (Nat × Fx)} {L L' : List (Nat × AV)} {G G' : List (Nat × bH)} {lim : Nat} {K : St → Prop}
def raB (C : cD) (o : Oper) (L : List (Nat × AV)) (G : List (Nat × bH)) : Option (Nat × Int × List (List CV) × Nat) :=
 match o.op with
 | .indexAddr Ty x y => match (mk L [] 0).ev C x, (mk L [] 0).ev C y, C.E.ti Ty with
  | some (.c (.row n)), some (.c (.v (.int _ i))), some ⟨.sl e, _, _, _⟩ => match C.E.ti e, G.lookup n with
   | some j, some (.vec _ _ l) => some (n, i, l, j.size)
   | _, _ => none
  | _, _, _ => none
 | _ => none
theorem jL {α : Type} {enc : α → List CV} {l : List α} {n sz k : Nat} {ix : Int} (he : rL ix l.length = some k) (h : raB C o L G = some (n, ix, l.map enc, sz)) : rd C (mk L G lim) o.op = some ⟨some (.c (.ptr n (k * sz))), [], [n], []⟩ := by
 obtain ⟨h0, h1, rfl⟩ := inb_eq he
 have hx : ∀ z, (mk L G lim).ev C z = (mk L [] 0).ev C z := fun z => eN rfl z
 unfold raB at h
 split at h
 ·rename_i Ty x y ho
  rw [ho]
  split at h
  ·rename_i n' k' i' e' z1 z2 z3 g1 g2 g3
   split at h
   ·rename_i j T0 s0 l' hj hG
    simp only [Option.some.injEq, Prod.mk.injEq] at h
    obtain ⟨rfl, rfl, rfl, rfl⟩ := h
    have hH : (mk L G lim).H n' = some (.vec T0 s0 (l.map enc)) := hG
    simp only [rd, hx, g1, g2, g3, hj, hH]
    rw [if_pos ⟨h0, by rw [List.length_map]; exact h1⟩]
    rfl
   ·cases h
  ·cases h
 ·cases h
theorem Fu {α : Type} {enc : α → List CV} {l : List α} {n : Nat} (h : rd C (mk L G lim) o.op = some ⟨some (.c (.v (.int .i64 (l.map enc).length))), [], [n], []⟩) : rd C (mk L G lim) o.op = some ⟨some (.c (.v (.int .i64 l.length))), [], [n], []⟩ := by
 rw [List.length_map] at h
 exact h
theorem rW {α : Type} {enc : α → List CV} {l : List α} {n q f sz : Nat} {e : α} {j : TI} {v : AV} (hq : l[q]? = some e) (h : ldVB C o L G = some (n, q * sz + f, sz, l.map enc, j)) (hv : cut j.k.agg j.size ((enc e).drop f) = some v) : Ki C o L G v [n] := by
 unfold ldVB at h
 split at h
 ·rename_i Ty x ho
  split at h
  ·rename_i n' off' j' hx hT
   split at h
   ·rename_i T0 sz' l' hH
    simp only [Option.some.injEq, Prod.mk.injEq] at h
    obtain ⟨rfl, rfl, rfl, rfl, rfl⟩ := h
    intro s' U β μ a W ha hf hr
    have e1 := qV (St.ev_den hr ((ha x (by rw [ho]; simp [Op.operands])).trans hx))
    have hH' := (hf n' (by simp)).trans hH
    obtain ⟨hkl, hown⟩ := hr.w.own n' _ hH'
    have hqe : (l.map enc)[q]? = some (enc e) := by rw [List.getElem?_map, hq]; rfl
    rcases hown with ⟨_, h0⟩ | ⟨h0, vs, hv1, hvs, hcm, hle, hel⟩
    ·rw [h0] at hqe; simp at hqe
    ·obtain ⟨g1, g2⟩ := hel q _ hqe
     obtain ⟨y, hy, hd⟩ := Br hT (W := W) (b := (β n').blk) (o := q * sz' + f) (μ := μ) (β := β) (l := (enc e).drop f) (fun p c hp => by
      rw [List.getElem?_drop] at hp
      obtain ⟨u, hu, _, hud⟩ := g2 _ c hp
      refine ⟨u, ?_, iT hud⟩
      rw [vY hv1, Nat.add_assoc]
      exact hu) hv
     refine ⟨y, ?_, hd⟩
     simp only [execOp, ho, e1, Instr.loadAt, Instr.sureAddr]
     exact iE _ _ _ hy
   ·cases h
  ·cases h
 ·cases h
def Si (k : Nat) (σ : List (Nat × Nat)) (kn nm : Nat) (Gc Gf : List (Nat × bH)) : Bool :=
 (Gc.map (·.1) == List.range k) && zZ ((List.range k).map (eA σ)) && Gf.all (fun p => p.2.ments.all fun m => decide (m < k ∨ kn = m)) && decide (k ≤ kn) && Nat.beq (eA σ kn) nm && (List.range k).all (fun n => !(Nat.beq (eA σ n) nm))
end
theorem WR.add_nilV {C : cD} {H : Nat → Option bH} {lim : Nat} {β : Nat → Bk} {μ : cL} {W : World} (h : WR C H (· < lim) β μ W) (T sz : Nat) : WR C (fun j => if j = lim then some (.vec T sz []) else H j) (· < lim + 1) (wT β lim gJ) μ W := by
 have := h.put_new (W' := W) (μ' := μ) (m := lim) (H' := fun j => if j = lim then some (.vec T sz []) else H j) (ob := .vec T sz []) (k := gJ) (Nat.lt_irrefl lim) none (fun j => by by_cases e : j = lim <;> simp [e]) rfl rfl rfl (Nat.le_refl _) (fun b _ _ => rfl) (by simp [bH.ments]) (jK.refl μ _) h.imm ⟨rfl, .inl ⟨rfl, rfl⟩⟩ (fun h0 => by simp [gJ] at h0) (fun h0 => by simp [gJ] at h0)
 refine this.weaken fun n hn => ?_
 rcases hn with hn | hn
 ·exact Nat.lt_succ_of_lt hn
 ·simp at hn; subst hn; exact Nat.lt_succ_self _
theorem zS {C : cD} {L : List (Nat × AV)} {G G2 : List (Nat × bH)} {lim lim2 n T0 : Nat} {l : List CV} (j T sz : Nat) (h : G.lookup n = some (.blk T0 l)) (hj : l[j]? = some (.v (.slice none 0 0))) (hG : nO n (.blk T0 (l.set j (.row lim))) (nO lim (.vec T sz []) G) = G2) (hl : lim + 1 = lim2) : dZ C (mk L G lim) (mk L G2 lim2) := by
 subst hG hl
 intro D β μ a W hr
 have hw := WR.add_nilV hr.w T sz
 have hn : n < lim := (hr.w.used n _ h).1
 have hne : n ≠ lim := Nat.ne_of_lt hn
 have hβn : wT β lim gJ n = β n := eW hne
 have hH : (fun q => if q = lim then some (bH.vec T sz []) else (mk L G lim).H q) n = some (.blk T0 l) := by simp only [if_neg hne]; exact h
 obtain ⟨h0, vs, h1, h2⟩ := hw.own n _ hH
 refine ⟨wT β lim gJ, μ, hr.f.up gJ, ?_⟩
 have := hw.put_same (W' := W) (ob := .blk T0 (l.set j (.row lim))) (H' := fun q => if q = n then some (.blk T0 (l.set j (.row lim))) else if q = lim then some (.vec T sz []) else (mk L G lim).H q) hH h0 (fun q => rfl) rfl rfl rfl (Nat.le_refl _) (fun _ _ _ => rfl) (fun x hx => ?_) hw.imm ⟨h0, vs, h1, by simpa using h2.1, fun q x hq => ?_⟩ (by have := hw.sep n _ hH h0; exact this)
 ·have e : (mk L (nO n (.blk T0 (l.set j (.row lim))) (nO lim (.vec T sz []) G)) (lim + 1)).H = fun q => if q = n then some (.blk T0 (l.set j (.row lim))) else if q = lim then some (.vec T sz []) else (mk L G lim).H q := funext fun q => by
   show (nO n _ (nO lim _ G)).lookup q = _
   rw [jZ, jZ]; rfl
  rw [e]; exact this
 ·simp only [bH.ments, List.mem_flatMap] at hx
  obtain ⟨y, hy, hx⟩ := hx
  rcases List.mem_or_eq_of_mem_set hy with hy | rfl
  ·exact (hw.used n _ hH).2 x (List.mem_flatMap.2 ⟨y, hy, hx⟩)
  ·simp [CV.ments, CV.ments1] at hx; subst hx; exact Nat.lt_succ_self _
 ·by_cases e : q = j
  ·subst e
   obtain ⟨hlt, _⟩ := List.getElem?_eq_some_iff.1 hj
   rw [List.getElem?_set_self hlt] at hq
   obtain rfl := Option.some.inj hq
   obtain ⟨y, hy, hd⟩ := h2.2 q _ hj
   have hy2 : y = .slice none 0 0 := dY (μ := μ) (β := wT β lim gJ) hd
   subst hy2
   refine ⟨_, hy, ?_⟩
   show _ = (wT β lim gJ lim).sl _
   rw [eG]; rfl
  ·rw [List.getElem?_set_ne (Ne.symm e)] at hq
   exact h2.2 q x hq
theorem Zs {k : Nat} {σ : List (Nat × Nat)} {kn nm : Nat} {Gc Gf : List (Nat × bH)} {H : Nat → Option bH} (h : Si k σ kn nm Gc Gf = true) (ho : Gc.map (fun p => H (eA σ p.1)) = Gc.map (fun p => some (p.2.ren (eA σ)))) : Ef k (eA σ) (some kn) nm Gc Gf H := by
 simp only [Si, Bool.and_eq_true, decide_eq_true_eq] at h
 obtain ⟨⟨⟨⟨⟨h1, h2⟩, h3⟩, h4⟩, h5⟩, h6⟩ := h
 have h0 : vV k σ Gc [] = true := by simp only [vV, Bool.and_eq_true]; exact ⟨⟨h1, h2⟩, rfl⟩
 obtain ⟨a1, a2, a3, _, _, _⟩ := Db h0 ho
 refine ⟨a1, a2, a3, fun p hp m hm => ?_, fun k' hk => ?_, fun k' hk n hn => ?_⟩
 ·have := List.all_eq_true.1 (List.all_eq_true.1 h3 p hp) m hm
  simp only [decide_eq_true_eq] at this
  rcases this with h | h
  ·exact .inl h
  ·exact .inr (by rw [h])
 ·cases hk; exact ⟨h4, Nat.eq_of_beq_eq_true h5⟩
 ·have := List.all_eq_true.1 h6 n (List.mem_range.2 hn)
  intro e
  rw [e] at this
  simp at this
section
variable {C : cD} {ops : Array Oper} {dr : Bool} {T : List (List Nat)} {b i : Nat} {o : Oper} {os : List Oper} {D D' : List (Nat × Fx)} {L L' : List (Nat × AV)} {G G' : List (Nat × bH)} {lim : Nat} {K : St → Prop}
theorem uX {F : FuncId} {As Bs : List AV} {σ : List (Nat × Nat)} {k kn nm : Nat} {Gc Gf : List (Nat × bH)} {r v : AV} (h : Ay C ops o L = some (F, As)) (hF : bX C.E F) (hB : xM (eA σ) As Bs) (hc : dC C.E F k Bs Gc r Gf) (hnm : b + i = nm) (hok : Si k σ kn nm Gc Gf = true) (ho : Gc.map (fun p => G.lookup (eA σ p.1)) = Gc.map (fun p => some (p.2.ren (eA σ)))) (hr : r.ren (eA σ) = v) (hrp : (r.plain && r.ments.all fun m => decide (m < k ∨ kn = m)) = true)
  (hchk : iO dr T b i D (some v) (lS (eA σ) Gc Gf (some kn)) (Gc.map fun p => eA σ p.1) [nm] = true) (hL : lG o.dst (some v) L = L') (hG : uE (lS (eA σ) Gc Gf (some kn)) G = G') (hD : fM dr D i (Gc.map fun p => eA σ p.1) (lS (eA σ) Gc Gf (some kn)) = D') (hk : RX C ops dr T b (i + 1) os D' (mk L' G' lim) K) : RX C ops dr T b i (o :: os) D (mk L G lim) K := by
 subst hL hD hG hnm
 simp only [Bool.and_eq_true] at hrp
 unfold Ay at h
 split at h
 ·rename_i F' args ts ho'
  split at h
  ·rename_i As' h1 h2 h3
   simp only [Option.some.injEq, Prod.mk.injEq] at h
   obtain ⟨rfl, rfl⟩ := h
   have hA : Up C (mk L G lim) args.toList = some As' := (Ft (s := mk L G lim) (s' := mk L [] 0) rfl _).trans h3
   have := fun hi => Hn (C := C) (ops := ops) (i := i) (o := o) (s := mk L G lim) (nm := b + i) hi h2 (dW h1) (args := args.toList) (ts := ts) (by simpa using ho') hF hA hB hc (Zs hok ho) (.inr ⟨hr.symm, hrp.1, fun m hm => by
    have := List.all_eq_true.1 hrp.2 m hm
    simp only [decide_eq_true_eq] at this
    exact this.imp id fun h => by rw [h]⟩)
   refine mH this (by simpa [Bz] using hchk) ?_
   rw [iA]
   exact hk
  ·cases h
 ·cases h
end
end Go.Bm
namespace Go.Bm
open Go
def Py : CV → CV
 | .row 0 => .v (.slice none 0 0)
 | x => x
def Xa : AV → AV
 | .c x => .c (Py x)
 | .agg l => .agg (l.map Py)
 | x => x
theorem Rn {μ : cL} {β : Nat → Bk} {x : CV} {v : Value} (hm : (Py x).ments = []) (h : Kf μ β (Py x) v) : Kf μ (wT β 0 gJ) x v := by
 by_cases hx : x = .row 0
 ·subst hx
  have : v = .slice none 0 0 := dY (μ := μ) (β := β) h
  subst this
  show _ = (wT β 0 gJ 0).sl _
  rw [eG]; rfl
 ·have hn : Py x = x := by
   unfold Py
   split
   ·exact absurd rfl hx
   ·rfl
  rw [hn] at h hm
  exact h.mono (cL.le_refl μ) fun n hn => by rw [hm] at hn; cases hn
theorem Yt {μ : cL} {β : Nat → Bk} {x : AV} {v : Value} (hm : (Xa x).ments = []) (hp : x.plain = true) (h : dL μ β (Xa x) v) : dL μ (wT β 0 gJ) x v := by
 cases x with
 | c x =>
  exact Rn (by simpa [Xa, AV.ments, AV.ments0, AV.ments1] using hm) h
 | agg l =>
  obtain ⟨vs, h1, h2⟩ := h
  refine ⟨vs, h1, by simpa using h2.1, fun j x hj => ?_⟩
  obtain ⟨y, hy, hd⟩ := h2.2 j (Py x) (by rw [List.getElem?_map, hj]; rfl)
  refine ⟨y, hy, Rn ?_ hd⟩
  have hm' : (l.map Py).flatMap CV.ments = [] := hm
  rw [List.flatMap_eq_nil_iff] at hm'
  exact hm' _ (List.mem_map.2 ⟨x, List.mem_of_getElem? hj, rfl⟩)
 | tup l => exact h.mono (cL.le_refl μ) fun n hn => by have hm' : (AV.tup l).ments = [] := hm; have hn' : n ∈ (AV.tup l).ments := hn; rw [hm'] at hn'; cases hn'
 | cnd gs x => cases hp
theorem dC.nil1 {E : oT} {F : FuncId} {args args' : List AV} {T sz : Nat} {r : AV} {Gf : List (Nat × bH)} (h : dC E F 1 args [(0, .vec T sz [])] r Gf) (ha : args.map Xa = args') (hc : (args.all fun A => A.plain && (Xa A).ments.isEmpty) = true) : dC E F 0 args' [] r Gf := by
 subst ha
 intro β μ W vs h1 h2 h3 h4
 have hL : ∀ b, ¬ yY (fun n => [(0, bH.vec T sz [])].lookup n) (wT β 0 gJ) b := by
  rintro b ⟨n, o, hn, h0, _⟩
  by_cases e : n = 0
  ·subst e; rw [eG] at h0; simp [gJ] at h0
  ·have e2 : (n == 0) = false := by simpa using e
   simp [List.lookup_cons, e2] at hn
 have hnil : ∀ n o, [(0, bH.vec T sz [])].lookup n = some o → n = 0 ∧ o = .vec T sz [] := fun n o hn => by
  by_cases e : n = 0
  ·subst e; simp at hn; exact ⟨rfl, hn.symm⟩
  ·have e2 : (n == 0) = false := by simpa using e
   simp [List.lookup_cons, e2] at hn
 refine (h (wT β 0 gJ) μ W vs h1 h2 ⟨fun n o hn => ?_, fun n m o p hn hm h0 => ?_, fun n o hn h0 => ?_⟩ ⟨by rw [h4.1, List.length_map], fun i A hA => ?_⟩).mono ?_
 ·obtain ⟨rfl, rfl⟩ := hnil n o hn
  rw [eG]
  exact ⟨rfl, .inl ⟨rfl, rfl⟩⟩
 ·obtain ⟨rfl, rfl⟩ := hnil n o hn
  rw [eG] at h0
  simp [gJ] at h0
 ·obtain ⟨rfl, rfl⟩ := hnil n o hn
  rw [eG] at h0
  simp [gJ] at h0
 ·obtain ⟨v, hv, hd⟩ := h4.2 i (Xa A) (by rw [List.getElem?_map, hA]; rfl)
  have := List.all_eq_true.1 hc A (List.mem_of_getElem? hA)
  simp only [Bool.and_eq_true, List.isEmpty_iff] at this
  exact ⟨v, hv, Yt this.2 this.1 hd⟩
 ·rintro e W' ⟨v, r', G', β', μ', he, hq, hd, hl⟩
  exact ⟨v, r', G', β', μ', he, hq, hd, ⟨hl.owns, hl.imm, hl.le, fun n hn => absurd hn (Nat.not_lt_zero _), hl.os, hl.tape, hl.output, hl.size, fun b hb _ => hl.keep b hb (hL b), fun n o hn h0 => (hl.loc n o hn h0).imp id fun h => absurd h (hL _), fun b j v hb => (hl.newc b j v hb).imp id (Or.imp id fun h => absurd h (hL _)), fun b x hb => (hl.newm b x hb).imp id (Or.imp id fun h => absurd h (hL _))⟩⟩
end Go.Bm
namespace Go.Bm
open Go
section
variable {C : cD} {ops : Array Oper} {dr : Bool} {T : List (List Nat)} {b i : Nat} {o : Oper} {os : List Oper} {D D' : List (Nat × Fx)} {L L' : List (Nat × AV)} {G G' : List (Nat × bH)} {lim : Nat} {K : St → Prop}
theorem Ri {E : oT} {a : Act} {o : Oper} {F : FuncId} {x : Operand} {vs : Array Value} {args : Array Operand} {ts : Array TypeId} {W : World} (hF : bX E F) (ho : o.op = .call ⟨.value x, args, ts⟩) (hx : a.eval x = .func (.func F) #[] vs) :
  (execOp a.eval o).run E.P W = .ok (.enter F (args.map a.eval ++ vs)) W := by
 simp only [execOp, ho, resolve, hx, Deferred.ofValue]
 show ((invoke (.fn (.func F) vs) (#[] ++ args.map a.eval))).run E.P W = _
 simp only [invoke, Array.empty_append]
 exact Io hF _ W
def callV (C : cD) (o : Oper) (L : List (Nat × AV)) : Option (FuncId × List AV) :=
 match o.op with
 | .call ⟨.value x, args, _⟩ => match (mk L [] 0).ev C x, Up C (mk L [] 0) args.toList with
  | some (.c (.fn F caps)), some As => some (F, As ++ caps.map .c)
  | _, _ => none
 | _ => none
theorem Lk {F : FuncId} {As Bs : List AV} {r v : AV} (h : callV C o L = some (F, As)) (hF : bX C.E F) (hB : xX As = some Bs) (hc : dC C.E F 0 Bs [] r []) (hr : r.pub = some v) : Yf C o L G v [] := by
 unfold callV at h
 split at h
 ·rename_i x args ts ho
  split at h
  ·rename_i F' caps As' h2 h3
   simp only [Option.some.injEq, Prod.mk.injEq] at h
   obtain ⟨rfl, rfl⟩ := h
   intro s' U β μ a W he _ hrel Q K hK
   have hmem : ∀ z, z ∈ args.toList → z ∈ o.op.operands := fun z hz => by
    rw [ho]; simp only [Op.operands, Call.operands]
    simp only [Array.mem_toList_iff] at hz
    simp [hz]
   obtain ⟨vs, hxv, hvn, hvd⟩ : ∃ vs : Array Value, a.eval x = .func (.func F') #[] vs ∧ vs.size = caps.length ∧ ∀ (j : Nat) (y : CV), caps[j]? = some y → ∃ u, vs[j]? = some u ∧ pW μ β y u :=
    St.ev_den hrel ((he x (by rw [ho]; simp [Op.operands, Call.operands])).trans ((eN rfl x).trans h2))
   unfold Oper.wp
   rw [Ri (args := args) (ts := ts) hF ho hxv, Oper.upon_enter]
   obtain ⟨ea, eb⟩ := Bu h3
   obtain ⟨g1, g2⟩ := uY (Dh hB)
   rw [show args.map a.eval ++ vs = (args.toList.map a.eval ++ vs.toList).toArray from by
    apply Array.ext'
    simp]
   have hden : rU μ β Bs (args.toList.map a.eval ++ vs.toList) := by
    refine ⟨by rw [← g1]; simp only [List.length_append, List.length_map, ea, Array.length_toList, hvn], fun j B hj => ?_⟩
    obtain ⟨A, hA', hAB⟩ := g2 j B hj
    obtain ⟨u, hu, hd⟩ : ∃ u, (args.toList.map a.eval ++ vs.toList)[j]? = some u ∧ dL μ β A u := by
     by_cases hlt : j < As'.length
     ·rw [List.getElem?_append_left hlt] at hA'
      obtain ⟨z, hz, hzA⟩ := eb j A hA'
      refine ⟨a.eval z, ?_, St.ev_den hrel ((he z (hmem z (List.mem_of_getElem? hz))).trans ((eN rfl z).trans hzA))⟩
      rw [List.getElem?_append_left (by rw [List.length_map, ← ea]; exact hlt)]
      simp [hz]
     ·rw [List.getElem?_append_right (by omega), List.getElem?_map] at hA'
      simp only [Option.map_eq_some_iff] at hA'
      obtain ⟨y, hy, rfl⟩ := hA'
      obtain ⟨u, hu, hud⟩ := hvd _ y hy
      refine ⟨u, ?_, Ao hud⟩
      rw [List.getElem?_append_right (by rw [List.length_map, ← ea]; omega), List.length_map, ← ea, Array.getElem?_toList]
      exact hu
    refine ⟨u, hu, ?_⟩
    rcases hAB with h1 | ⟨h1, h2⟩
    ·exact (jJ h1 hd).den
    ·subst h1
     have := (uD (ρ := id) h2).1 hd
     exact this
   refine (hc β μ W _ hrel.w.imm hrel.w.glob ⟨fun n o hn => (nomatch hn), fun n m o p hn => (nomatch hn), fun n o hn => (nomatch hn)⟩ hden).mono ?_
   rintro e W' ⟨y, r', G', β'c, μ', rfl, ⟨hrr, _⟩, hy0, hleft⟩
   have hy : dL μ' β'c r y := by
    rcases hrr with rfl | hrr
    ·exact hy0
    ·exact (jJ hrr hy0).den
   have hwr := hrel.w.call (σ := id) (Gc := fun _ => none) (H' := s'.H) (Gf := []) (nw := none) (nm := 0) hleft (fun n p hn => (nomatch hn)) (fun n => by simp) (fun n m hn => by omega) (fun n p hn => (nomatch hn)) (fun k' hk' => (nomatch hk')) ⟨fun n hn => by omega, fun k' hk' => (nomatch hk'), fun j _ _ => rfl⟩
   refine hK μ' W' y (hwr.weaken fun n hn => ?_) hleft.le ((jJ hr hy).denT)
   rcases hn with hn | hn
   ·exact hn
   ·simp [Bz] at hn
  ·cases h
 ·cases h
end
end Go.Bm
namespace Go.Bm
open Go
section
variable {C : cD} {o : Oper} {L : List (Nat × AV)} {G : List (Nat × bH)}
def siB (C : cD) (o : Oper) (L : List (Nat × AV)) : Option (List CV × Nat × Nat) :=
 match o.op with
 | .slice Ty x none none none => match (mk L [] 0).ev C x, C.E.ti Ty with
  | some (.c (.imm l)), some ⟨.arr len e, _, _, _⟩ => match C.E.ti e with | some j => some (l, len, j.size) | none => none
  | _, _ => none
 | _ => none
theorem Zz {μ : cL} {l : List CV} {y : Value} {len sz : Nat} (h : cQ μ (.imm l) y) (h1 : l.all CV.one = true) (h2 : len * sz ≤ l.length) : ∃ b off, y = .pointer (some ⟨b, off, none⟩) ∧ cQ μ (.lit (wO sz len l)) (.slice (some ⟨b, off, none⟩) len len) := by
 obtain ⟨b, off, rfl, hc⟩ := Ly h
 obtain ⟨g1, g2⟩ := Bv (sz := sz) len l h2
 let w : Nat → Nat → Value := fun i j => (μ.c b (off + i * sz + j)).getD undef
 have key : ∀ (i j : Nat) (e : List CV) (x : CV), (wO sz len l)[i]? = some e → e[j]? = some x → μ.c b (off + i * sz + j) = some (w i j) ∧ (w i j).oneCell' = true ∧ cQ μ x (w i j) := fun i j e x hi hj => by
  have hx := (g2 i e hi).2 j x hj
  obtain ⟨v, hv, hd⟩ := hc _ x hx
  rw [← Nat.add_assoc] at hv
  have hw : w i j = v := by show (μ.c b (off + i * sz + j)).getD undef = v; rw [hv]; rfl
  rw [hw]
  exact ⟨hv, (Fs (β := fun _ => gJ) (List.all_eq_true.1 h1 x (List.mem_of_getElem? hx)) (iT hd)).1, hd⟩
 refine ⟨b, off, rfl, ?_⟩
 have := cQ.lit (μ := μ) (wO sz len l) b off len sz w (by rw [g1]; exact Nat.le_refl _) (fun i e hi => (g2 i e hi).1) (fun i j e x hi hj => ⟨(key i j e x hi hj).1, (key i j e x hi hj).2.1⟩) (fun i j e x hi hj => (key i j e x hi hj).2.2)
 rw [g1] at this
 exact this
theorem Ih {l : List CV} {len sz : Nat} {r : List (List CV)} (h : siB C o L = some (l, len, sz)) (h1 : (l.all CV.one && decide (len * sz ≤ l.length)) = true) (hr : wO sz len l = r) : Ki C o L G (.c (.lit r)) [] := by
 subst hr
 simp only [Bool.and_eq_true, decide_eq_true_eq] at h1
 unfold siB at h
 split at h
 ·rename_i Ty x ho
  split at h
  ·rename_i l' len' e z1 z2 z3 hx hT
   split at h
   ·rename_i j hj
    simp only [Option.some.injEq, Prod.mk.injEq] at h
    obtain ⟨rfl, rfl, rfl⟩ := h
    intro s' U β μ a W ha _ hr
    have hd : cQ μ (.imm l') (a.eval x) := St.ev_den hr ((ha x (by rw [ho]; simp [Op.operands])).trans hx)
    obtain ⟨b, off, hy, hl⟩ := Zz hd h1.1 h1.2
    have hu : C.E.P.underlying Ty = some (.array len' e) := (C.E.ok Ty _ hT).k
    refine ⟨_, ?_, hl⟩
    simp only [execOp, ho]
    refine iE _ _ _ ?_
    unfold Instr.sliceAt
    simp only [Sem.run_bind, run_underlying hu, Result.andThen_ok, hy, Instr.sureAddr, Sem.run_pure, Option.map_none]
    have hb : (Instr.sliceBounds false len' len' none none none).run C.E.P W = .ok (0, len', len') W := by
     unfold Instr.sliceBounds
     simp
    simp only [hb, Result.andThen_ok, Sem.run_bind, lH hj, Sem.run_pure, Nat.zero_mul, Nat.sub_zero, rJ, Nat.add_zero, ite_self]
   ·cases h
  ·cases h
 ·cases h
end
end Go.Bm
namespace Go.Bm
open Go
def Xd (x y : ByteArray) : Option ByteArray := if x.size + y.size ≤ 9223372036854775807 then some (x ++ y) else none
section
variable {C : cD} {o : Oper} {L : List (Nat × AV)} {G : List (Nat × bH)}
def catB (C : cD) (o : Oper) (L : List (Nat × AV)) : Option (ByteArray × ByteArray) :=
 match o.op with
 | .binOp .add _ x y _ => match (mk L [] 0).ev C x, (mk L [] 0).ev C y with
  | some (.c (.v (.string p))), some (.c (.v (.string q))) => some (p, q)
  | _, _ => none
 | _ => none
theorem Nf {p q r : ByteArray} (he : Xd p q = some r) (h : catB C o L = some (p, q)) : Ki C o L G (.c (.v (.string r))) [] := by
 unfold Xd at he
 split at he
 ·rename_i hsz
  obtain rfl := Option.some.inj he
  unfold catB at h
  split at h
  ·rename_i T' x y T'' ho
   split at h
   ·rename_i p' q' h1 h2
    simp only [Option.some.injEq, Prod.mk.injEq] at h
    obtain ⟨rfl, rfl⟩ := h
    intro s' U β μ a W ha _ hr
    have e1 := dY (St.ev_den hr ((ha x (by rw [ho]; simp [Op.operands])).trans h1))
    have e2 := dY (St.ev_den hr ((ha y (by rw [ho]; simp [Op.operands])).trans h2))
    refine ⟨_, ?_, .v _⟩
    simp only [execOp, ho, e1, e2]
    refine iE _ _ _ ?_
    have hg : (eqGuard .add T' x y (.string p') (.string q')).run C.E.P W = .ok () W := rfl
    rw [Sem.run_bind, hg, Result.andThen_ok]
    have hm : ¬ (((p'.size + q'.size : Nat) : Int) > IntKind.i64.max) := by
     have : IntKind.i64.max = 9223372036854775807 := by decide
     rw [this]
     omega
    simp only [binOp, Op.stringOp, if_neg hm]
    rfl
   ·cases h
  ·cases h
 ·cases he
end
end Go.Bm
namespace Go.Bm
open Go
theorem Vv {P : Program} {W : World} (xs ys : List Int) (hlen : xs.length = ys.length) (f : Nat → Option Bool × PUnit → Sem (ForInStep (Option Bool × PUnit)))
  (hf : ∀ i a b, xs[i]? = some a → ys[i]? = some b → (f i (none, PUnit.unit)).run P W = .ok (if (a == b) = true then .yield (none, PUnit.unit) else .done (some false, PUnit.unit)) W) :
  ∀ (n s : Nat), s + n = xs.length → (forIn (List.range' s n) ((none, PUnit.unit) : Option Bool × PUnit) f).run P W = .ok (if (xs.drop s == ys.drop s) = true then (none, PUnit.unit) else (some false, PUnit.unit)) W
 | 0, s, h => by
  have h1 : xs.drop s = [] := List.drop_eq_nil_of_le (by omega)
  have h2 : ys.drop s = [] := List.drop_eq_nil_of_le (by omega)
  rw [h1, h2]
  rfl
 | n + 1, s, h => by
  have hs : s < xs.length := by omega
  have hs2 : s < ys.length := by omega
  rw [List.range'_succ, List.forIn_cons, Sem.run_bind, hf s xs[s] ys[s] (List.getElem?_eq_getElem hs) (List.getElem?_eq_getElem hs2), Result.andThen_ok]
  rw [List.drop_eq_getElem_cons hs, List.drop_eq_getElem_cons hs2]
  by_cases hab : (xs[s] == ys[s]) = true
  ·rw [if_pos hab]
   have := Vv xs ys hlen f hf n (s + 1) (by omega)
   simp only [List.cons_beq_cons, hab, Bool.true_and]
   exact this
  ·rw [if_neg hab]
   have hab' : (xs[s] == ys[s]) = false := by simpa using hab
   simp only [List.cons_beq_cons, hab', Bool.false_and, Bool.false_eq_true, if_false]
   rfl
theorem run_eqA {E : oT} {W : World} {T e : TypeId} {d len : Nat} {xs ys : List Int} {z1 : Nat} {z2 : List Value} (hT : E.P.underlying T = some (.array len e)) (he : E.ti e = some ⟨.int .i64, 1, z1, z2⟩) (h1 : xs.length = len) (h2 : ys.length = len) :
  (Op.equalIn (d + 2) T (.agg (xs.map (Value.int .i64)).toArray) (.agg (ys.map (Value.int .i64)).toArray)).run E.P W = .ok (xs == ys) W := by
 have hsz : ∀ W, (sizeOf e).run E.P W = .ok 1 W := fun W => lH he W
 have hu : E.P.underlying e = some (.int .i64) := (E.ok e _ he).k
 have hpart : ∀ (l : List Int) (i : Nat) (a : Int), l[i]? = some a → (part e (l.map (Value.int .i64)).toArray i).run E.P W = .ok (.int .i64 a) W := fun l i a hi => by
  obtain ⟨z, hz, hzd⟩ := xT (μ := ⟨fun _ _ => none, fun _ => none⟩) (β := fun _ => gJ) he (W := W) (cs := (l.map (Value.int .i64)).toArray) (l := l.map fun n => CV.v (.int .i64 n)) (o := i) (v := .c (.v (.int .i64 a))) ⟨by simp, fun j x hj => by
   rw [List.getElem?_map] at hj
   simp only [Option.map_eq_some_iff] at hj
   obtain ⟨n, hn, rfl⟩ := hj
   exact ⟨.int .i64 n, by simp [hn], .v _⟩⟩ (by
    have : (l.map fun n => CV.v (.int .i64 n)).drop i = CV.v (.int .i64 a) :: (l.map fun n => CV.v (.int .i64 n)).drop (i + 1) := by
     have hlt := (List.getElem?_eq_some_iff.1 hi)
     obtain ⟨hlt, rfl⟩ := hlt
     rw [List.drop_eq_getElem_cons (by simpa using hlt)]
     simp
    rw [this]; rfl)
  have : z = .int .i64 a := dY hzd
  subst this
  exact hz
 unfold Op.equalIn
 simp only [Sem.run_bind, run_underlying hT, Result.andThen_ok, hsz, Std.Legacy.Range.forIn_eq_forIn_range', Std.Legacy.Range.size, Nat.sub_zero, Nat.add_sub_cancel, Nat.div_one]
 rw [Vv (P := E.P) (W := W) xs ys (h1.trans h2.symm) _ (fun i a b ha hb => ?_) len 0 (by omega), Result.andThen_ok, List.drop_zero, List.drop_zero]
 ·by_cases h : (xs == ys) = true
  ·rw [if_pos h, h]; rfl
  ·rw [if_neg h]
   have : (xs == ys) = false := by simpa using h
   rw [this]; rfl
 ·have heq : (Op.equalIn (d + 1) e (.int .i64 a) (.int .i64 b)).run E.P W = .ok (a == b) W := by
   unfold Op.equalIn
   rw [Sem.run_bind, run_underlying hu]
   rfl
  simp only [Nat.mul_one, Sem.run_bind, hpart xs i a ha, hpart ys i b hb, Result.andThen_ok, heq]
  by_cases h : (a == b) = true
  ·rw [h]; rfl
  ·have : (a == b) = false := by simpa using h
   rw [this]; rfl
section
variable {C : cD} {o : Oper} {L : List (Nat × AV)} {G : List (Nat × bH)}
def eqAB (C : cD) (o : Oper) (L : List (Nat × AV)) : Option (Bool × TypeId × List CV × List CV) :=
 match o.op with
 | .binOp .eql T x y _ => match (mk L [] 0).ev C x, (mk L [] 0).ev C y with
  | some (.agg p), some (.agg q) => some (true, T, p, q)
  | _, _ => none
 | .binOp .neq T x y _ => match (mk L [] 0).ev C x, (mk L [] 0).ev C y with
  | some (.agg p), some (.agg q) => some (false, T, p, q)
  | _, _ => none
 | _ => none
theorem xU {μ : cL} {β : Nat → Bk} {xs : List Int} {y : Value} (h : dL μ β (.agg (xs.map fun n => CV.v (.int .i64 n))) y) : y = .agg (xs.map (Value.int .i64)).toArray := by
 obtain ⟨vs, rfl, h1, h2⟩ := h
 congr 1
 apply Array.ext
 ·simpa using h1
 ·intro i hi hj
  have hi' : i < xs.length := by simpa using hj
  obtain ⟨u, hu, hd⟩ := h2 i (.v (.int .i64 xs[i])) (by rw [List.getElem?_map, List.getElem?_eq_getElem hi']; rfl)
  have : u = .int .i64 xs[i] := dY (μ := μ) (β := β) hd
  subst this
  rw [Array.getElem?_eq_getElem hi] at hu
  rw [Option.some.inj hu]
  simp
theorem rdW_eqG {xs ys : List Int} {T : TypeId} {w r : Bool} (h : eqAB C o L = some (w, T, xs.map fun n => CV.v (.int .i64 n), ys.map fun n => CV.v (.int .i64 n))) (hrun : ∀ W, (Op.equalIn Op.maxDepth T (.agg (xs.map (Value.int .i64)).toArray) (.agg (ys.map (Value.int .i64)).toArray)).run C.E.P W = .ok (xs == ys) W)
  (hg : C.E.P.eqGuardType C.E.P.depth T = false) (hr : (if w then xs == ys else !(xs == ys)) = r) : Ki C o L G (.c (.v (.bool r))) [] := by
 subst hr
 have hrun : ∀ W, (Op.equal T (.agg (xs.map (Value.int .i64)).toArray) (.agg (ys.map (Value.int .i64)).toArray)).run C.E.P W = .ok (xs == ys) W := hrun
 have hprog : ∀ W, (program).run C.E.P W = .ok C.E.P W := fun W => rfl
 unfold eqAB at h
 split at h
 ·rename_i T' x y T'' ho
  split at h
  ·rename_i p q g1 g2
   simp only [Option.some.injEq, Prod.mk.injEq] at h
   obtain ⟨rfl, rfl, rfl, rfl⟩ := h
   intro s' U β μ a W ha _ hr
   have e1 := xU (St.ev_den hr ((ha x (by rw [ho]; simp [Op.operands])).trans g1))
   have e2 := xU (St.ev_den hr ((ha y (by rw [ho]; simp [Op.operands])).trans g2))
   refine ⟨_, ?_, .v _⟩
   simp only [execOp, ho, e1, e2]
   refine iE _ _ _ ?_
   have hgd : (eqGuard .eql T' x y (.agg (xs.map (Value.int .i64)).toArray) (.agg (ys.map (Value.int .i64)).toArray)).run C.E.P W = .ok () W := by
    unfold eqGuard
    simp only [Bool.not_true, Bool.false_eq_true, if_false, Sem.run_bind, hprog, Result.andThen_ok, hg, Bool.not_false, if_true]
    rfl
   rw [Sem.run_bind, hgd, Result.andThen_ok]
   show (do pure (Value.bool (← Op.equal T' (.agg (xs.map (Value.int .i64)).toArray) (.agg (ys.map (Value.int .i64)).toArray))) : Sem Value).run C.E.P W = _
   rw [Sem.run_bind, hrun]
   rfl
  ·cases h
 ·rename_i T' x y T'' ho
  split at h
  ·rename_i p q g1 g2
   simp only [Option.some.injEq, Prod.mk.injEq] at h
   obtain ⟨rfl, rfl, rfl, rfl⟩ := h
   intro s' U β μ a W ha _ hr
   have e1 := xU (St.ev_den hr ((ha x (by rw [ho]; simp [Op.operands])).trans g1))
   have e2 := xU (St.ev_den hr ((ha y (by rw [ho]; simp [Op.operands])).trans g2))
   refine ⟨_, ?_, .v _⟩
   simp only [execOp, ho, e1, e2]
   refine iE _ _ _ ?_
   have hgd : (eqGuard .neq T' x y (.agg (xs.map (Value.int .i64)).toArray) (.agg (ys.map (Value.int .i64)).toArray)).run C.E.P W = .ok () W := by
    unfold eqGuard
    simp only [Bool.not_true, Bool.false_eq_true, if_false, Sem.run_bind, hprog, Result.andThen_ok, hg, Bool.not_false, if_true]
    rfl
   rw [Sem.run_bind, hgd, Result.andThen_ok]
   show (do pure (Value.bool (!(← Op.equal T' (.agg (xs.map (Value.int .i64)).toArray) (.agg (ys.map (Value.int .i64)).toArray)))) : Sem Value).run C.E.P W = _
   rw [Sem.run_bind, hrun]
   rfl
  ·cases h
 ·cases h
end
end Go.Bm
namespace Go.Bm
open Go
def cD.at_ (C : cD) (k : Nat) (ro : Option Nat) (ds : List Deferred) (H : Nat → Option bH) (β : Nat → Bk) (μ : cL) (W : World) : cD := ⟨C.E, C.n, W, yY H β, μ, k, β, ro, ds⟩
theorem WR.rebase {C : cD} {k : Nat} {ro : Option Nat} {ds : List Deferred} {H : Nat → Option bH} {U : Nat → Prop} {β : Nat → Bk} {μ : cL} {W : World} (h : WR C H U β μ W) (hk : ∀ n, n < k → U n) : WR (C.at_ k ro ds H β μ W) H U β μ W :=
 ⟨fun _ _ _ => rfl, Nat.le_refl _, rfl, rfl, rfl, h.own, h.inj, h.imm, h.sep, fun n o hn h0 => .inr ⟨n, o, hn, h0, rfl⟩, h.used, cL.le_refl μ, fun _ _ _ hb => .inl hb, fun _ _ hb => .inl hb, h.glob, fun n hn => ⟨hk n hn, rfl⟩⟩
theorem WR.unbase {C : cD} {k : Nat} {ro : Option Nat} {ds : List Deferred} {H H' : Nat → Option bH} {U U' : Nat → Prop} {β β' : Nat → Bk} {μ μ' : cL} {W W' : World} (h : WR C H U β μ W) (hk : C.k ≤ k) (h' : WR (C.at_ k ro ds H β μ W) H' U' β' μ' W') : WR C H' U' β' μ' W' := by
 have hl : ∀ b, yY H β b → C.W0.heap.size ≤ b ∨ C.F b := fun b ⟨n, o, hn, h0, he⟩ => he ▸ h.loc n o hn h0
 have hor : ∀ b, W.heap.size ≤ b ∨ yY H β b → C.W0.heap.size ≤ b ∨ C.F b := fun b hb => hb.elim (fun hb => .inl (Nat.le_trans h.size hb)) (hl b)
 refine ⟨fun b hb hF => ?_, Nat.le_trans h.size h'.size, h'.os.trans h.os, h'.tape.trans h.tape, h'.output.trans h.output, h'.own, h'.inj, h'.imm, h'.sep, fun n o hn h0 => hor _ (h'.loc n o hn h0), h'.used, cL.le_trans h.mu h'.mu, fun b j v hb => ?_, fun b x hb => ?_, h'.glob, fun n hn => ⟨(h'.fix n (Nat.lt_of_lt_of_le hn hk)).1, (h'.fix n (Nat.lt_of_lt_of_le hn hk)).2.trans (h.fix n hn).2⟩⟩
 ·refine (h'.keep b (Nat.lt_of_lt_of_le hb h.size) fun hL => ?_).trans (h.keep b hb hF)
  rcases hl b hL with h1 | h1
  ·omega
  ·exact hF h1
 ·rcases h'.newc b j v hb with h1 | h1
  ·exact h.newc b j v h1
  ·exact .inr (hor b h1)
 ·rcases h'.newm b x hb with h1 | h1
  ·exact h.newm b x h1
  ·exact .inr (hor b h1)
theorem WR.aside {C : cD} {k : Nat} {ro : Option Nat} {ds : List Deferred} {H H' : Nat → Option bH} {U' : Nat → Prop} {β β' : Nat → Bk} {μ μ' : cL} {W W' : World} {D : Nat} (h' : WR (C.at_ k ro ds H β μ W) H' U' β' μ' W') (hD : D < W.heap.size) (h : sU D H β μ W) :
  W'.heap[D]? = W.heap[D]? ∧ sU D H' β' μ' W' := by
 have hL : ¬ yY H β D := fun ⟨n, o, hn, h0, he⟩ => h.own n o hn h0 he
 have hD' : ¬ (W.heap.size ≤ D ∨ yY H β D) := fun h => h.elim (fun h => by omega) hL
 refine ⟨h'.keep D hD hL, fun n ob hn h0 he => hD' (he ▸ h'.loc n ob hn h0), fun j => ?_, ?_⟩
 ·cases hq : μ'.c D j with
  | none => rfl
  | some v =>
   rcases h'.newc D j v hq with h1 | h1
   ·have h1 : μ.c D j = some v := h1
    rw [h.c] at h1; cases h1
   ·exact absurd h1 hD'
 ·cases hq : μ'.m D with
  | none => rfl
  | some v =>
   rcases h'.newm D v hq with h1 | h1
   ·have h1 : μ.m D = some v := h1
    rw [h.m] at h1; cases h1
   ·exact absurd h1 hD'
def pE (fn : FuncId) (tmps : Array Value) (ps : Array Tmp) (assign body : Code) (D : Nat) (st : LoopState) (pe : Option Code) : Loop := { state := st, pending := pe, fn := fn, tmps := tmps, params := ps, assign := assign, body := body, defers := D }
def Iter (P : Program) (F : FuncId) (vs : Array Value) (μ : cL) {α : Type} (args : α → List AV) (l : List α) : Prop :=
 ∀ (lp : Nat) (J : List α → World → Prop) (Jx : World → Prop) (W : World), (∀ t W, J t W → fQ μ W) → (∀ W, Jx W → fQ μ W) →
  (∀ x t W (xs : Array Value), J (x :: t) W → (xs.size = (args x).length ∧ ∀ (j : Nat) (A : AV), (args x)[j]? = some A → ∃ v, xs[j]? = some v ∧ pD μ A v) →
   YieldAt Fence.wide 0 P lp xs W fun e W' => (e = .returned (.bool true) ∧ J t W') ∨ (e = .returned (.bool false) ∧ Jx W')) →
  J l W → Calls P F (#[.func (.yield lp) #[] #[]] ++ vs) W fun e W' => (∃ v, e = .returned v) ∧ (J [] W' ∨ Jx W')
def Qq : List (Tmp × AV) → (Nat → Option AV) → Nat → Option AV
 | [], fr => fr
 | p :: l, fr => Qq l fun t => if t = p.1 then some p.2 else fr t
theorem Qy {μ : cL} {β : Nat → Bk} : ∀ (l : List (Tmp × AV)) (vs : List (Tmp × Value)) (fr : Nat → Option AV) (tmps : Array Value), vs.map (·.1) = l.map (·.1) → (∀ (j : Nat) (p : Tmp × AV), l[j]? = some p → p.1 < tmps.size ∧ ∃ v, vs[j]? = some (p.1, v) ∧ dL μ β p.2 v) →
  (∀ t x, fr t = some x → ∃ v, tmps[t]? = some v ∧ dL μ β x v) → (vs.foldl (fun tmps q => tmps.setIfInBounds q.1 q.2) tmps).size = tmps.size ∧ ∀ t x, Qq l fr t = some x → ∃ v, (vs.foldl (fun tmps q => tmps.setIfInBounds q.1 q.2) tmps)[t]? = some v ∧ dL μ β x v
 | [], [], fr, tmps, _, _, h => ⟨rfl, h⟩
 | [], q :: vs, fr, tmps, hm, _, _ => by simp at hm
 | p :: l, [], fr, tmps, hm, _, _ => by simp at hm
 | p :: l, q :: vs, fr, tmps, hm, hp, h => by
  simp only [List.map_cons, List.cons.injEq] at hm
  obtain ⟨h1, v, h2, h3⟩ := hp 0 p rfl
  simp only [List.getElem?_cons_zero, Option.some.injEq] at h2
  subst h2
  have := Qy l vs (fun t => if t = p.1 then some p.2 else fr t) (tmps.setIfInBounds p.1 v) hm.2 (fun j p' hj => by
   obtain ⟨a, b⟩ := hp (j + 1) p' (by simpa using hj)
   exact ⟨by simpa using a, by simpa using b⟩) (fun t x ht => by
   by_cases e : t = p.1
   ·subst e
    rw [if_pos rfl] at ht
    cases ht
    exact ⟨v, by simp [h1], h3⟩
   ·rw [if_neg e] at ht
    obtain ⟨y, hy, hd⟩ := h t x ht
    exact ⟨y, by rw [Array.getElem?_setIfInBounds_ne (Ne.symm e)]; exact hy, hd⟩)
  exact ⟨this.1.trans (by simp), this.2⟩
theorem Gv : ∀ (l : List (Tmp × AV)) (fr : Nat → Option AV) (t : Nat) (x : AV), (∀ p, p ∈ l → p.2.ments = []) → Qq l fr t = some x → x.ments = [] ∨ fr t = some x
 | [], fr, t, x, _, h => .inr h
 | p :: l, fr, t, x, hp, h => by
  rcases Gv l _ t x (fun q hq => hp q (List.mem_cons_of_mem _ hq)) h with h | h
  ·exact .inl h
  ·split at h
   ·cases h; exact .inl (hp p (List.mem_cons_self ..))
   ·exact .inr h
def cD.rnd (C : cD) (k l : Nat) : cD := ⟨C.E, C.n, C.W0, C.F, C.μ0, k, C.β0, some l, C.ds⟩
def roundK (I : St → Prop) (K : Exit → St → Prop) (fr : Nat → Option AV) : Exit → St → Prop
 | .normal, s' => I ⟨fr, s'.H, s'.lim⟩
 | .ret, s' => K .ret ⟨fr, s'.H, s'.lim⟩
 | .exit id, s' => K (.exit id) ⟨fr, s'.H, s'.lim⟩
 | _, _ => False
def El : CV → Bool
 | .v _ => true
 | .lit _ => true
 | .imm _ => true
 | .lmap _ _ => true
 | _ => false
theorem Xi {μ : cL} {β : Nat → Bk} {x : CV} {v : Value} (h : El x = true) (hd : pW μ β x v) : cQ μ x v := by
 cases x <;> first | exact hd | cases h
def jumpOf : Exit → Option Code
 | .ret => some .ret
 | .exit id => some (.exit id)
 | _ => none
structure rR (C : cD) (s : St) (β : Nat → Bk) (μ : cL) (W0 : World) (rec : Loop) (I : St → Prop) (W : World) : Prop where
 h : ∃ H lim β' μ', I ⟨s.fr, H, lim⟩ ∧ μ.le μ' ∧ (∀ n, n < s.lim → n < lim ∧ β' n = β n) ∧ WR C H (· < lim) β' μ' W ∧ sU (W0.heap.size + 1) H β' μ' W ∧ sU W0.heap.size H β' μ' W
 l : W.heap[W0.heap.size + 1]? = some (.loop rec)
 d : W.heap[W0.heap.size]? = some (.deferred (some []))
theorem rR.put {C : cD} {s : St} {β : Nat → Bk} {μ : cL} {W0 : World} {rec : Loop} {I : St → Prop} {W : World} (h : rR C s β μ W0 rec I W) (hC : C.W0.heap.size ≤ W0.heap.size) (rec' : Loop) : rR C s β μ W0 rec' I (W.putObj (W0.heap.size + 1) (.loop rec')) := by
 obtain ⟨⟨H, lim, β', μ', h1, h2, h3, h4, h5, h6⟩, hl, hd⟩ := h
 exact ⟨⟨H, lim, β', μ', h1, h2, h3, h4.putObj _ (by omega) h5, h5.put _ _, h6.put _ _⟩, World.putObj_heap_same (Array.getElem?_eq_some_iff.1 hl).1, (World.putObj_heap_other (by omega)).trans hd⟩
theorem Iy {C : cD} {s : St} {β : Nat → Bk} {μ : cL} {W0 W : World} {rec : Loop} {c : Code} {K : Exit → St → Prop} {Q : Exit → Act → World → Prop} {a : Act} {fr : Nat → Option AV} {H : Nat → Option bH} {lim : Nat} {β1 : Nat → Bk} {μ1 : cL} (hk : C.k ≤ s.lim) (hC : C.W0.heap.size ≤ W0.heap.size)
  (hw : WR C H (· < lim) β1 μ1 W) (ha1 : sU (W0.heap.size + 1) H β1 μ1 W) (ha2 : sU W0.heap.size H β1 μ1 W) (hl : W.heap[W0.heap.size + 1]? = some (.loop rec)) (hd : W.heap[W0.heap.size]? = some (.deferred (some []))) (hfix : ∀ n, n < s.lim → n < lim ∧ β1 n = β n) (hle : μ.le μ1)
  (hfs : a.tmps.size = C.n) (hden : ∀ t x, fr t = some x → ∃ v, a.tmps[t]? = some v ∧ dL μ1 β1 x v) (hu : ∀ t x, fr t = some x → ∀ n, n ∈ x.ments → n < lim)
  (h : AW (C.rnd s.lim (W0.heap.size + 1)) c ⟨fr, H, lim⟩ K)
  (hQ : ∀ e a' W' s' β2 μ2, K e s' → a'.tmps.size = C.n → (∀ t x, s'.fr t = some x → ∃ v, a'.tmps[t]? = some v ∧ dL μ2 β2 x v) → (∀ t x, s'.fr t = some x → ∀ n, n ∈ x.ments → n < s'.lim) → WR C s'.H (· < s'.lim) β2 μ2 W' → sU (W0.heap.size + 1) s'.H β2 μ2 W' → sU W0.heap.size s'.H β2 μ2 W' → W'.heap[W0.heap.size + 1]? = some (.loop rec) → W'.heap[W0.heap.size]? = some (.deferred (some [])) → (∀ n, n < s.lim → n < s'.lim ∧ β2 n = β n) → μ.le μ2 → Q e a' W') :
  c.wpIn (nU (some (W0.heap.size + 1))) 0 C.E.P Q a W := by
 have hr := h (C.at_ s.lim (some (W0.heap.size + 1)) a.defers H β1 μ1 W) β1 μ1 a W ⟨⟨rfl, hfs, hden, hu⟩, hw.rebase fun n hn => (hfix n hn).1⟩
 refine wpIn_mono hr ?_
 rintro e a' W' ⟨D', s', β2, μ2, hle2, hK, hr2⟩
 have hw2 : WR (C.at_ s.lim (some (W0.heap.size + 1)) a.defers H β1 μ1 W) s'.H (· < s'.lim) β2 μ2 W' := hle2.wr _ _ _ _ _ hr2.w
 have hl1 := (Array.getElem?_eq_some_iff.1 hl).1
 have hd1 := (Array.getElem?_eq_some_iff.1 hd).1
 obtain ⟨e1, b1⟩ := hw2.aside hl1 ha1
 obtain ⟨e2, b2⟩ := hw2.aside hd1 ha2
 refine hQ e a' W' s' β2 μ2 hK hr2.f.size hr2.f.den hr2.f.used (hw.unbase hk hw2) b1 b2 (e1.trans hl) (e2.trans hd) (fun n hn => ?_) (cL.le_trans hle hw2.mu)
 obtain ⟨h1, h2⟩ := hw2.fix n hn
 exact ⟨h1, h2.trans (hfix n hn).2⟩
end Go.Bm
namespace Go.Bm
open Go
theorem Ul {C : cD} {ops : Array Oper} {i : Nat} {o : Oper} {v : AV} {foot : List Nat} {rest : List Nat} {Q : Exit → Act → World → Prop} {a : Act} {W : World} {s : St} {U : Nat → Prop} {β : Nat → Bk} {μ : cL} (ho : ops[i]? = some o) (hg : o.guard = none) (hd : ∀ d, o.dst = some d → d < C.n) (hrd : rd C s o.op = some ⟨some v, [], foot, []⟩) (hm : v.ments = []) (hr : pV C s U β μ a W)
  (hk : ∀ a', pV C (s.app o.dst (some v) []) U β μ a' W → wpOpsIn (nU none) 0 C.E.P ops Q rest a' W) : wpOpsIn (nU none) 0 C.E.P ops Q (i :: rest) a W := by
 obtain ⟨_, _, v', hv', h4⟩ := Gj hrd
 obtain rfl := Option.some.inj hv'
 obtain ⟨y, hy, hyd⟩ := h4 o s U β μ a W rfl (fun _ _ => rfl) (fun _ _ => rfl) hr
 unfold wpOpsIn
 rw [ho]
 simp only
 rw [if_pos (by simp [Region.wanted, hg])]
 refine ⟨fun _ _ => trivial, ?_⟩
 show o.uponIn (nU none) 0 C.E.P a _ Q ((o.semAt none a.eval).run C.E.P W)
 rw [Oper.semAt_none, hy]
 exact hk _ ⟨hr.f.put hd fun x hx => by cases hx; exact ⟨hyd, by rw [hm]; simp⟩, hr.w⟩
def Xg (C : cD) : List Oper → List (Nat × AV) → Option (List (Nat × AV))
 | [], L => some L
 | o :: os, L => match o.guard, pX C.n o, rd C (mk L [] 0) o.op with
  | none, true, some ⟨some v, [], [], []⟩ => match v.ments with
   | [] => Xg C os (lG o.dst (some v) L)
   | _ => none
  | _, _, _ => none
theorem Cs {C : cD} {ops : Array Oper} {rest : List Nat} {Q : Exit → Act → World → Prop} {W : World} {U : Nat → Prop} {β : Nat → Bk} {μ : cL} : ∀ (os : List Oper) (i : Nat) (L L' : List (Nat × AV)) (a : Act), Xg C os L = some L' → (∀ j, j < os.length → os[j]? = ops[i + j]?) → pV C (mk L [] 0) U β μ a W →
  (∀ a', pV C (mk L' [] 0) U β μ a' W → wpOpsIn (nU none) 0 C.E.P ops Q rest a' W) → wpOpsIn (nU none) 0 C.E.P ops Q (List.range' i os.length ++ rest) a W
 | [], i, L, L', a, h, _, hr, hk => by
  simp only [Xg, Option.some.injEq] at h
  subst h
  exact hk a hr
 | o :: os, i, L, L', a, h, hi, hr, hk => by
  unfold Xg at h
  split at h
  ·rename_i v h1 h2 h3
   split at h
   ·rename_i hm
    rw [List.length_cons, List.range'_succ, List.cons_append]
    refine Ul (by have := hi 0 (by simp); simpa using this.symm) h1 (dW h2) h3 hm hr fun a' hr' => ?_
    rw [iA] at hr'
    exact Cs os (i + 1) _ L' a' h (fun j hj => by have := hi (j + 1) (by simpa using hj); simpa [Nat.add_assoc, Nat.add_comm 1 j] using this) hr' hk
   ·cases h
  ·cases h
theorem uF {C : cD} {L L2 : List (Nat × AV)} {ks : List Nat} {U : Nat → Prop} {β : Nat → Bk} {μ : cL} {a : Act} {W : World} (h : pV C (mk L [] 0) U β μ a W) (hL : mF ks L = L2) : pV C (mk L2 [] 0) U β μ a W := by
 subst hL
 refine h.forget (fun t x hx => ?_) fun _ _ h => h
 have : (mF ks L).lookup t = some x := hx
 rw [yM] at this
 split at this
 ·exact this
 ·cases this
def X1 {α : Type} (enc : α → List CV) (l : List α) : AV := .c (.imm [.lit (l.map enc)])
structure Uh {α : Type} (E : oT) (F : FuncId) (enc : α → List CV) (ev : α → AV) : Prop where
 h : ∃ (fn : Func) (n sz : Nat) (r0 r1 r2 r3 : Array Oper) (o4 o5 o6 o7 : Oper) (ts : Array TypeId), E.P.funcs[F]? = some fn ∧ fn.ntmps = n ∧ fn.results = #[] ∧ 18 < n ∧
  fn.body = some (.seq (.region 0 r0 false) (.block 0 (.loop (.seq (.seq (.region 1 r1 false) (.cond (.tmp 8) .skip (.exit 0))) (.seq (.block 1 (.seq (.region 3 r3 false) (.cond (.tmp 18) .ret .skip))) (.region 2 r2 false)))))) ∧
  (∀ D l y, (Xg ((cD.st E n 0 none).on D) r0.toList [(0, .c (.v y)), (1, X1 enc l)]).map (mF [0, 1, 3]) = some [(0, .c (.v y)), (1, X1 enc l), (3, .c (.v (.int .i64 (IntKind.wrap .i64 ((l.map enc).length - 1)))))]) ∧
  (∀ D l y i, (Xg ((cD.st E n 0 none).on D) r1.toList [(0, .c (.v y)), (1, X1 enc l), (3, .c (.v (.int .i64 i)))]).map (mF [0, 1, 3, 8]) = some [(0, .c (.v y)), (1, X1 enc l), (3, .c (.v (.int .i64 i))), (8, .c (.v (.bool (decide (i ≥ 0)))))]) ∧
  (∀ D l y i, (Xg ((cD.st E n 0 none).on D) r2.toList [(0, .c (.v y)), (1, X1 enc l), (3, .c (.v (.int .i64 i)))]).map (mF [0, 1, 3]) = some [(0, .c (.v y)), (1, X1 enc l), (3, .c (.v (.int .i64 (IntKind.wrap .i64 (i - 1)))))]) ∧
  r3.size = 8 ∧ (∀ D l y i, (Xg ((cD.st E n 0 none).on D) (r3.toList.take 4) [(0, .c (.v y)), (1, X1 enc l), (3, .c (.v (.int .i64 i)))]).map (mF [0, 1, 3, 11, 12, 13, 14]) = some [(0, .c (.v y)), (1, X1 enc l), (3, .c (.v (.int .i64 i))), (11, .c (.v y)), (12, .c (.v (.int .i64 i))), (13, .c (.lit (l.map enc))), (14, .c (.v (.int .i64 i)))]) ∧
  r3[4]? = some o4 ∧ o4.guard = none ∧ o4.dst = some 15 ∧ (∀ D l y i, idxB ((cD.st E n 0 none).on D) o4 [(0, .c (.v y)), (1, X1 enc l), (3, .c (.v (.int .i64 i))), (11, .c (.v y)), (12, .c (.v (.int .i64 i))), (13, .c (.lit (l.map enc))), (14, .c (.v (.int .i64 i)))] = some (l.map enc, i, sz)) ∧ (∀ x, (enc x).length = sz) ∧
  r3[5]? = some o5 ∧ (∀ D l y i x, (Xg ((cD.st E n 0 none).on D) [o5] [(0, .c (.v y)), (1, X1 enc l), (3, .c (.v (.int .i64 i))), (11, .c (.v y)), (12, .c (.v (.int .i64 i))), (15, .c (.imm (enc x)))]).map (mF [0, 1, 3, 11, 12, 16]) = some [(0, .c (.v y)), (1, X1 enc l), (3, .c (.v (.int .i64 i))), (11, .c (.v y)), (12, .c (.v (.int .i64 i))), (16, ev x)]) ∧
  r3[6]? = some o6 ∧ o6.guard = none ∧ o6.dst = some 17 ∧ o6.op = .call ⟨.value (.tmp 11), #[.tmp 12, .tmp 16], ts⟩ ∧
  r3[7]? = some o7 ∧ (∀ D l y i b, (Xg ((cD.st E n 0 none).on D) [o7] [(0, .c (.v y)), (1, X1 enc l), (3, .c (.v (.int .i64 i))), (17, .c (.v (.bool b)))]).map (mF [0, 1, 3, 18]) = some [(0, .c (.v y)), (1, X1 enc l), (3, .c (.v (.int .i64 i))), (18, .c (.v (.bool (!b))))]) ∧
  (∀ x, (match ev x with | .c y => El y | .agg l => l.all El | _ => false) = true)
theorem rel_new {E : oT} {n : Nat} {μ : cL} {W : World} {a : Act} {fr : Nat → Option AV} (β : Nat → Bk) (hi : fQ μ W) (hg : E.globOk μ) (hd : a.defers = []) (hs : a.tmps.size = n) (h : ∀ t x, fr t = some x → (∃ v, a.tmps[t]? = some v ∧ dL μ β x v) ∧ x.ments = []) : pV ((cD.st E n 0 none).on ⟨E, n, W, fun _ => False, μ, 0, β, none, []⟩) ⟨fr, fun _ => none, 0⟩ (fun _ => False) β μ a W :=
 ⟨⟨hd, hs, fun t x ht => (h t x ht).1, fun t x ht n hn => by rw [(h t x ht).2] at hn; simp at hn⟩, ⟨fun _ _ _ => rfl, Nat.le_refl _, rfl, rfl, rfl, fun _ _ h => (nomatch h), fun _ _ _ _ h => (nomatch h), hi, fun _ _ h => (nomatch h), fun _ _ h => (nomatch h), fun _ _ h => (nomatch h), cL.le_refl μ, fun _ _ _ h => .inl h, fun _ _ h => .inl h, hg, fun n hn => absurd hn (Nat.not_lt_zero n)⟩⟩
theorem Sp {E : oT} {a : Act} {o : Oper} {lp : Nat} {ts : Array TypeId} {x y : Operand} {W W' : World} {fn : FuncId} {tmps : Array Value} {asn bd : Code} (hop : o.op = .call ⟨.value (.tmp 11), #[x, y], ts⟩) (he : a.eval (.tmp 11) = .func (.yield lp) #[] #[]) (hy : (Instr.yield lp #[a.eval x, a.eval y]).run E.P W = .ok (.round lp fn tmps asn bd) W') : (execOp a.eval o).run E.P W = .ok (.round lp fn tmps asn bd) W' := by
 simp only [execOp, hop, resolve, he, Deferred.ofValue]
 show ((invoke (.fn (.yield lp) #[]) (#[] ++ #[x, y].map a.eval))).run E.P W = _
 simp only [invoke, Array.empty_append]
 simpa using hy
theorem Ek {x : CV} (h : El x = true) : x.ments = [] := by cases x <;> first | rfl | cases h
theorem ev_den {μ : cL} {β : Nat → Bk} {A : AV} {v : Value} (h : (match A with | .c y => El y | .agg l => l.all El | _ => false) = true) (hd : dL μ β A v) : pD μ A v ∧ A.ments = [] := by
 cases A with
 | c y =>
  refine ⟨?_, Ek h⟩
  have hd1 : Kf μ β y v := hd
  cases y <;> first | exact hd1 | cases h
 | agg l =>
  obtain ⟨vs, rfl, h1, h2⟩ := hd
  have h3 : ∀ x, x ∈ l → El x = true := fun x hx => List.all_eq_true.1 h x hx
  refine ⟨⟨vs, rfl, h1, fun j x hj => ?_⟩, ?_⟩
  ·obtain ⟨y, hy, hyd⟩ := h2 j x hj
   refine ⟨y, hy, ?_⟩
   have := h3 x (List.mem_of_getElem? hj)
   cases x <;> first | exact hyd | cases this
  ·show l.flatMap CV.ments = []
   rw [List.flatMap_eq_nil_iff]
   exact fun x hx => Ek (h3 x hx)
 | tup l => cases h
 | cnd gs x => cases h
theorem Sz {C : cD} {id : Nat} {ops : Array Oper} {ks : List Nat} {L L2 : List (Nat × AV)} {Q : Exit → Act → World → Prop} {a : Act} {W : World} {U : Nat → Prop} {β : Nat → Bk} {μ : cL} (h : (Xg C ops.toList L).map (mF ks) = some L2) (hr : pV C (mk L [] 0) U β μ a W)
  (hk : ∀ a', pV C (mk L2 [] 0) U β μ a' W → Q .normal a' W) : (Code.region id ops false).wpIn (nU none) 0 C.E.P Q a W := by
 refine wpIn_region ?_
 simp only [Option.map_eq_some_iff] at h
 obtain ⟨L', h1, h2⟩ := h
 have := Cs (ops := ops) (rest := []) (Q := Q) ops.toList 0 L L' a h1 (fun j _ => by simp) hr fun a' hr' => hk a' (uF hr' h2)
 rw [List.append_nil, ← List.range_eq_range', Array.length_toList] at this
 exact this
def Cx {α : Type} (l : List α) (k : Nat) : List (Nat × α) := ((l.take k).zipIdx.map fun q => (q.2, q.1)).reverse
theorem Wo {α : Type} {l : List α} {k : Nat} {x : α} (h : l[k]? = some x) : Cx l (k + 1) = (k, x) :: Cx l k := by
 have hk : k < l.length := (List.getElem?_eq_some_iff.1 h).1
 have hx : l[k] = x := by rw [List.getElem?_eq_getElem hk] at h; exact Option.some.inj h
 unfold Cx
 rw [List.take_add_one, h, List.zipIdx_append]
 simp [Nat.min_eq_left (Nat.le_of_lt hk)]
theorem Xm {α : Type} (l : List α) : Cx l 0 = [] := by simp [Cx]
def Ot {α : Type} (enc : α → List CV) (l : List α) (y : Value) (i : Int) : List (Nat × AV) := [(0, .c (.v y)), (1, X1 enc l), (3, .c (.v (.int .i64 i)))]
theorem Iu {n : Int} (h0 : -1 ≤ n) (h1 : n < 9223372036854775808) : IntKind.wrap .i64 n = n := by
 rw [IntKind.wrap_i64]
 omega
def Xc (E : oT) (n : Nat) (μ : cL) (W : World) : cD := (cD.st E n 0 none).on ⟨E, n, W, fun _ => False, μ, 0, fun _ => default, none, []⟩
abbrev Iw (E : oT) (n : Nat) (μ : cL) (L : List (Nat × AV)) (a : Act) (W : World) : Prop := pV (Xc E n μ W) (mk L [] 0) (fun _ => False) (fun _ => default) μ a W
theorem breg {E : oT} {n : Nat} {μ : cL} {W : World} {id : Nat} {ops : Array Oper} {ks : List Nat} {L L2 : List (Nat × AV)} {Q : Exit → Act → World → Prop} {a : Act} (h : (Xg (Xc E n μ W) ops.toList L).map (mF ks) = some L2) (hr : Iw E n μ L a W) (hk : ∀ a', Iw E n μ L2 a' W → Q .normal a' W) : (Code.region id ops false).wpIn (nU none) 0 E.P Q a W :=
 Sz (C := Xc E n μ W) h hr hk
theorem bops {E : oT} {n : Nat} {μ : cL} {W : World} {ops : Array Oper} {rest : List Nat} {ks : List Nat} {L L2 : List (Nat × AV)} {Q : Exit → Act → World → Prop} {a : Act} (i : Nat) (os : List Oper) (h : (Xg (Xc E n μ W) os L).map (mF ks) = some L2) (hi : ∀ j, j < os.length → os[j]? = ops[i + j]?) (hr : Iw E n μ L a W) (hk : ∀ a', Iw E n μ L2 a' W → wpOpsIn (nU none) 0 E.P ops Q rest a' W) : wpOpsIn (nU none) 0 E.P ops Q (List.range' i os.length ++ rest) a W := by
 simp only [Option.map_eq_some_iff] at h
 obtain ⟨L', h1, h2⟩ := h
 exact Cs (C := Xc E n μ W) os i L L' a h1 hi hr fun a' hr' => hk a' (uF hr' h2)
theorem Pf {E : oT} {n : Nat} {μ : cL} {W : World} {a : Act} {L : List (Nat × AV)} (hi : fQ μ W) (hg : E.globOk μ) (hd : a.defers = []) (hs : a.tmps.size = n) (h : ∀ p, p ∈ L → (∃ v, a.tmps[p.1]? = some v ∧ dL μ (fun _ => default) p.2 v) ∧ p.2.ments = []) : Iw E n μ L a W :=
 rel_new _ hi hg hd hs fun t x ht => h _ (gI ht)
theorem pQ {E : oT} {n : Nat} {μ : cL} {W : World} {a : Act} {L : List (Nat × AV)} (h : Iw E n μ L a W) {t : Nat} {x : AV} (hx : L.lookup t = some x) : ∃ v, a.tmps[t]? = some v ∧ a.eval (.tmp t) = v ∧ dL μ (fun _ => default) x v := by
 obtain ⟨v, hv, hd⟩ := h.f.den t x hx
 exact ⟨v, hv, by simp [Act.eval, hv], hd⟩
theorem Re {P : Program} {fn : Func} (h : fn.results = #[]) (tmps : Array Value) (W : World) : (results fn tmps).run P W = .ok (.tuple #[]) W := by
 rw [Jr, h]
 simp
theorem Xn {E : oT} {F : FuncId} {α : Type} {enc : α → List CV} {ev : α → AV} (hF : Uh E F enc ev) {l : List α} {μ : cL} {p : Value} (hp : cQ μ (.imm [.lit (l.map enc)]) p) (hglob : E.globOk μ) (hlen : l.length ≤ maxLen) :
  Iter E.P F #[p] μ (fun (q : Nat × α) => [AV.c (.v (.int .i64 q.1)), ev q.2]) (Cx l l.length) := by
 obtain ⟨fn, n, sz, r0, r1, r2, r3, o4, o5, o6, o7, ts, hf, hn, hrs, hn18, hb, h0, h1, h2, h3s, h3, g4, g4g, g4d, h4, hsz, g5, h5, g6, g6g, g6d, g6o, g7, h7, hev⟩ := hF.h
 subst hn
 intro lp J Jx W hJi hJxi hJy hJ
 rw [← callsIn_wide (n := 0)]
 refine callsIn_of_wp hf hb trivial ?_
 change Code.wpIn (nU none) 0 E.P _ _ _ _
 obtain ⟨y, hy⟩ : ∃ y : Value, y = .func (.yield lp) #[] #[] := ⟨_, rfl⟩
 have hm1 : (X1 enc l).ments = [] := rfl
 have hlen' : (l.length : Int) < 9223372036854775808 := by
  have : maxLen = 9223372036854775807 := by decide
  omega
 refine wpIn_seq (breg (h0 _ l y) (Pf (hJi _ _ hJ) hglob rfl ?_ ?_) fun a1 hr1 => ?_)
 ·simp; omega
 ·intro q hq
  rcases List.mem_cons.1 hq with rfl | hq
  ·refine ⟨⟨y, ?_, cQ.v y⟩, rfl⟩
   rw [hy]
   rw [Array.getElem?_append_left (by simp)]; rfl
  ·obtain rfl := List.mem_singleton.1 hq
   refine ⟨⟨p, ?_, hp⟩, rfl⟩
   rw [Array.getElem?_append_left (by simp)]; rfl
 rw [List.length_map, Iu (by omega) (by omega)] at hr1
 refine wpIn_block (wK (fun k a W => k ≤ l.length ∧ J (Cx l k) W ∧ Iw E fn.ntmps μ (Ot enc l y (k - 1)) a W) l.length ⟨Nat.le_refl _, hJ, hr1⟩ ?_)
 rintro k a W2 ⟨hk, hj, hr⟩
 refine wpIn_seq (wpIn_seq (breg (h1 _ l y _) hr fun a2 hr2 => ?_))
 obtain ⟨v8, _, he8, hd8⟩ := pQ hr2 (t := 8) rfl
 refine wpIn_cond_split (he8.trans (dY hd8)) (fun ht => ?_) (fun ht => ?_)
 ·simp only [ge_iff_le, decide_eq_true_eq] at ht
  obtain ⟨k, rfl⟩ : ∃ k', k = k' + 1 := ⟨k - 1, by omega⟩
  have hkl : k < l.length := by omega
  obtain ⟨x, hx⟩ : ∃ x, l[k]? = some x := ⟨l[k], List.getElem?_eq_getElem hkl⟩
  rw [Wo hx] at hj
  refine wpIn_skip (wpIn_seq (wpIn_block (wpIn_seq (wpIn_region ?_))))
  have hr2 : Iw E fn.ntmps μ (Ot enc l y (k : Int)) a2 W2 := by
   have := uF hr2 (ks := [0, 1, 3]) rfl
   have e : (((k + 1 : Nat) : Int) - 1) = (k : Int) := by omega
   rw [e] at this
   exact this
  have hl4 : (r3.toList.take 4).length = 4 := by simp [h3s]
  have hl8 : List.range 8 = List.range' 0 (r3.toList.take 4).length ++ [4, 5, 6, 7] := by rw [hl4]; rfl
  rw [h3s, hl8]
  refine bops 0 _ (h3 _ l y _) (fun j hj => ?_) hr2 fun a3 hr3 => ?_
  ·rw [hl4] at hj
   rw [List.getElem?_take, if_pos hj]
   simp
  refine Ul (C := Xc E fn.ntmps μ W2) g4 g4g (fun d hd => by rw [g4d] at hd; cases hd; show 15 < fn.ntmps; omega) (dU (e := x) (by unfold idx; rw [if_pos (by omega)]; simpa using hx) (h4 _ l y _) rfl (hsz x)) rfl hr3 fun a4 hr4 => ?_
  rw [iA, g4d] at hr4
  have hr4 : Iw E fn.ntmps μ [(0, .c (.v y)), (1, X1 enc l), (3, .c (.v (.int .i64 k))), (11, .c (.v y)), (12, .c (.v (.int .i64 k))), (15, .c (.imm (enc x)))] a4 W2 := uF hr4 (ks := [0, 1, 3, 11, 12, 15]) rfl
  show wpOpsIn _ _ _ _ _ (List.range' 5 [o5].length ++ [6, 7]) _ _
  refine bops 5 [o5] (h5 _ l y _ x) (fun j hj => ?_) hr4 fun a5 hr5 => ?_
  ·have : j = 0 := by simpa using hj
   subst this
   exact g5.symm
  obtain ⟨v0, hv0, he0, hd0⟩ := pQ hr5 (t := 0) rfl
  obtain ⟨v1, hv1, he1, hd1⟩ := pQ hr5 (t := 1) rfl
  obtain ⟨v3, hv3, he3, hd3⟩ := pQ hr5 (t := 3) rfl
  obtain ⟨v11, hv11, he11, hd11⟩ := pQ hr5 (t := 11) rfl
  obtain ⟨v12, hv12, he12, hd12⟩ := pQ hr5 (t := 12) rfl
  obtain ⟨v16, hv16, he16, hd16⟩ := pQ hr5 (t := 16) rfl
  have hdef5 : a5.defers = [] := hr5.f.defers
  have hsz5 : a5.tmps.size = fn.ntmps := hr5.f.size
  have key : ∀ (tb : Bool) (W3 : World), fQ μ W3 → Iw E fn.ntmps μ [(0, .c (.v y)), (1, X1 enc l), (3, .c (.v (.int .i64 k))), (17, .c (.v (.bool tb)))] (a5.put o6.dst (.bool tb)) W3 := fun tb W3 hi => by
   rw [g6d]
   refine Pf hi hglob hdef5 (by simpa [Act.put] using hsz5) fun q hq => ?_
   have old : ∀ (t : Nat) (z : AV) (v : Value), t ≠ 17 → z.ments = [] → a5.tmps[t]? = some v → dL μ (fun _ => default) z v → (∃ v, (a5.put (some 17) (.bool tb)).tmps[t]? = some v ∧ dL μ (fun _ => default) z v) ∧ z.ments = [] := fun t z v hne hm hv hd =>
    ⟨⟨v, by simp only [Act.put]; rw [Array.getElem?_setIfInBounds_ne (Ne.symm hne)]; exact hv, hd⟩, hm⟩
   rcases List.mem_cons.1 hq with rfl | hq
   ·exact old 0 _ _ (by decide) rfl hv0 hd0
   rcases List.mem_cons.1 hq with rfl | hq
   ·exact old 1 _ _ (by decide) rfl hv1 hd1
   rcases List.mem_cons.1 hq with rfl | hq
   ·exact old 3 _ _ (by decide) rfl hv3 hd3
   obtain rfl := List.mem_singleton.1 hq
   refine ⟨⟨.bool tb, ?_, cQ.v _⟩, rfl⟩
   simp only [Act.put]
   rw [Array.getElem?_setIfInBounds_self_of_lt (by rw [hsz5]; omega)]
  have hyv : a5.eval (.tmp 11) = .func (.yield lp) #[] #[] := he11.trans ((dY hd11).trans hy)
  obtain ⟨fn', tmps, asn, bd, hyr, hR⟩ := hJy (k, x) (Cx l k) W2 #[v12, v16] hj ⟨rfl, fun j A hA => by
   cases j with
   | zero => simp at hA; subst hA; exact ⟨v12, rfl, (ev_den rfl hd12).1⟩
   | succ j =>
    cases j with
    | zero => simp at hA; subst hA; exact ⟨v16, rfl, (ev_den (hev x) hd16).1⟩
    | succ j => simp at hA⟩
  rw [wpOpsIn, g6]
  simp only
  rw [if_pos (by simp [Region.wanted, g6g])]
  refine ⟨fun _ _ => trivial, ?_⟩
  show o6.uponIn (nU none) 0 E.P a5 _ _ ((o6.semAt none a5.eval).run E.P W2)
  rw [Oper.semAt_none, Sp g6o hyv (by rw [he12, he16]; exact hyr), Oper.uponIn_round]
  refine ⟨fun h => by simp [nU, Fence.wide] at h, ?_⟩
  show RoundIn Fence.wide 0 E.P lp fn' tmps asn bd W2 _
  refine hR.mono ?_
  rintro e W3 (⟨rfl, hj3⟩ | ⟨rfl, hj3⟩)
  ·show wpOpsIn _ _ _ _ _ (List.range' 7 [o7].length ++ []) _ _
   refine bops 7 [o7] (h7 _ l y _ true) (fun j hj => ?_) (key true W3 (hJi _ _ hj3)) fun a7 hr7 => ?_
   ·have : j = 0 := by simpa using hj
    subst this
    exact g7.symm
   obtain ⟨v18, _, he18, hd18⟩ := pQ hr7 (t := 18) rfl
   refine wpIn_cond_split (he18.trans (dY hd18)) (fun h => nomatch h) fun _ => wpIn_skip ?_
   have hr7 : Iw E fn.ntmps μ (Ot enc l y (k : Int)) a7 W3 := uF hr7 (ks := [0, 1, 3]) rfl
   refine breg (h2 _ l y _) hr7 fun a8 hr8 => ?_
   rw [Iu (by omega) (by omega)] at hr8
   exact ⟨k, Nat.lt_succ_self k, by omega, hj3, hr8⟩
  ·show wpOpsIn _ _ _ _ _ (List.range' 7 [o7].length ++ []) _ _
   refine bops 7 [o7] (h7 _ l y _ false) (fun j hj => ?_) (key false W3 (hJxi _ hj3)) fun a7 hr7 => ?_
   ·have : j = 0 := by simpa using hj
    subst this
    exact g7.symm
   obtain ⟨v18, _, he18, hd18⟩ := pQ hr7 (t := 18) rfl
   refine wpIn_cond_split (he18.trans (dY hd18)) (fun _ => wpIn_ret ?_) fun h => nomatch h
   exact ⟨hr7.f.defers, _, Re hrs _ _, ⟨_, rfl⟩, .inr hj3⟩
 ·have h0 : k = 0 := by
   simp only [ge_iff_le, decide_eq_false_iff_not] at ht
   omega
  subst h0
  rw [Xm] at hj
  exact wpIn_exit ⟨hr2.f.defers, _, Re hrs _ _, ⟨_, rfl⟩, .inl hj⟩
end Go.Bm
namespace Go.Bm
open Go
theorem fQ.less {μ μ' : cL} {W : World} (h : fQ μ' W) (hm : μ.le μ') : fQ μ W := ⟨fun b j v hb => h.c b j v (hm.c b j v hb), fun b es clk hb => h.m b es clk (hm.m b _ hb)⟩
theorem dent_is {μ : cL} {β : Nat → Bk} {A : AV} {v : Value} (h : pD μ A v) : uN μ β A v := by
 cases A with
 | c x => exact pD.den (x := .c x) (β := β) h
 | agg l => exact pD.den (x := .agg l) (β := β) h
 | tup l => exact h.elim
 | cnd gs x => exact h.elim
theorem ments_is {μ : cL} {A : AV} {v : Value} (h : pD μ A v) : zL μ A v := by
 cases A with
 | c x => exact h
 | agg l => exact h
 | tup l => exact h.elim
 | cnd gs x => exact h.elim
theorem Ld {C D : cD} {s : St} {β : Nat → Bk} {μ : cL} {a : Act} {W : World} (hr : pV (C.on D) s (· < s.lim) β μ a W) {rec : Loop} {I : St → Prop} {W3 : World} {K : Exit → St → Prop} {e : Exit} (hb : rR (C.on D) s β μ W rec I W3) (hK : ∀ H lim, I ⟨s.fr, H, lim⟩ → K e ⟨s.fr, H, lim⟩) :
  ∃ D' s' β' μ', (C.on D).Le (C.on D') ∧ K e s' ∧ pV (C.on D') s' (· < s'.lim) β' μ' { a with defers := wD W.heap.size :: a.defers } W3 := by
 obtain ⟨⟨H, lim, β', μ', hI, hle, hfix, hw, ha1, ha2⟩, hl, hd⟩ := hb
 have hd1 := (Array.getElem?_eq_some_iff.1 hd).1
 refine ⟨⟨C.E, C.n, W3, yY H β', μ', C.k, β', C.ro, wD W.heap.size :: (C.on D).ds⟩, ⟨s.fr, H, lim⟩, β', μ', ⟨fun H2 U β2 μ2 W2 hw2 => WR.unbase (C := C.on D) hw (Nat.le_refl _) hw2, hw.size, [W.heap.size], rfl, by simp, fun x hx => ?_⟩, hK _ _ hI, ⟨?_, hr.f.size, fun t x ht => ?_, fun t x ht n hn => (hfix n (hr.f.used t x ht n hn)).1⟩, WR.rebase (C := C.on D) hw fun n hn => (hw.fix n hn).1⟩
 ·obtain rfl := List.mem_singleton.1 hx
  refine ⟨hr.w.size, hd1, fun H2 U β2 μ2 W2 hw2 => ?_⟩
  obtain ⟨h1, h2⟩ := WR.aside (C := C.on D) (k := C.k) (ro := C.ro) (ds := wD W.heap.size :: (C.on D).ds) hw2 hd1 ha2
  exact ⟨h2, h1.trans hd⟩
 ·show wD W.heap.size :: a.defers = _
  rw [hr.f.defers]; rfl
 ·obtain ⟨v, hv, hvd⟩ := hr.f.den t x ht
  exact ⟨v, hv, hvd.mono hle fun n hn => (hfix n (hr.f.used t x ht n hn)).2⟩
theorem Yx {C : cD} {s : St} {g : Operand} {ps : Array Tmp} {assign body : Code} {K : Exit → St → Prop} {F : FuncId} {caps : List CV} {α : Type} {args : α → List AV} {l : List α} (hro : C.ro = none) (hF : bX C.E F) (hg : s.ev C g = some (.c (.fn F caps))) (hcp : caps.all El = true)
  (hit : ∀ (μ : cL) (vs : Array Value), C.E.globOk μ → (vs.size = caps.length ∧ ∀ (j : Nat) (x : CV), caps[j]? = some x → ∃ y, vs[j]? = some y ∧ cQ μ x y) → Iter C.E.P F vs μ args l) (hps : ∀ x, (args x).length = ps.size) (hpn : ∀ t, t ∈ ps.toList → t < C.n)
  (I : List α → St → Prop) (h0 : I l s)
  (hround : ∀ lp x t H lim, I (x :: t) ⟨s.fr, H, lim⟩ → AW (C.rnd s.lim lp) assign ⟨Qq (ps.toList.zip (args x)) s.fr, H, lim⟩ (Lp (fun s1 => AW (C.rnd s.lim lp) body s1 (roundK (I t) K s.fr)) fun _ _ => False))
  (hend : ∀ H lim, I [] ⟨s.fr, H, lim⟩ → K .normal ⟨s.fr, H, lim⟩) : AW C (.rangeFunc g ps assign body) s K := by
 intro D β μ a W hr
 rw [hro]
 obtain ⟨vs, hgv, hvn, hvd⟩ : ∃ vs : Array Value, a.eval g = .func (.func F) #[] vs ∧ vs.size = caps.length ∧ ∀ (j : Nat) (y : CV), caps[j]? = some y → ∃ u, vs[j]? = some u ∧ pW μ β y u := St.ev_den hr ((Lb C D s g).trans hg)
 have hvi : vs.size = caps.length ∧ ∀ (j : Nat) (x : CV), caps[j]? = some x → ∃ y, vs[j]? = some y ∧ cQ μ x y := ⟨hvn, fun j x hx => by
  obtain ⟨u, hu, hd⟩ := hvd j x hx
  exact ⟨u, hu, Xi (List.all_eq_true.1 hcp x (List.mem_of_getElem? hx)) hd⟩⟩
 refine wpIn_rangeFunc fun fn _ => ?_
 obtain ⟨W1, hW1⟩ : ∃ W1, (W.alloc (.deferred (some []))).alloc (.loop ((pE fn a.tmps ps assign body W.heap.size) .ready none)) = W1 := ⟨_, rfl⟩
 have hL1 : W1.heap[W.heap.size + 1]? = some (.loop ((pE fn a.tmps ps assign body W.heap.size) .ready none)) := by
  rw [← hW1]; have := World.alloc_heap_new (W.alloc (.deferred (some []))) (.loop ((pE fn a.tmps ps assign body W.heap.size) .ready none)); rwa [World.size_alloc] at this
 have hK1 : W1.heap[W.heap.size]? = some (.deferred (some [])) := by
  rw [← hW1, heap_alloc_old]
  ·exact World.alloc_heap_new W _
  ·simp
 have hold : ∀ b, b < W.heap.size → W1.heap[b]? = W.heap[b]? := fun b hb => by
  rw [← hW1, heap_alloc_old, heap_alloc_old]
  ·exact hb
  ·simp; omega
 have hsz1 : W1.heap.size = W.heap.size + 2 := by rw [← hW1]; simp
 have hw1 : WR (C.on D) s.H (· < s.lim) β μ W1 := hr.w.alloc_imm (by rw [← hW1]; rfl) (by rw [← hW1]; rfl) (by rw [← hW1]; rfl) (by omega) hold (jK.refl μ _) (hr.w.imm.ext hold)
 have hC : (C.on D).W0.heap.size ≤ W.heap.size := hr.w.size
 have has : ∀ x, W.heap.size ≤ x → sU x s.H β μ W1 := fun x hx => ⟨fun n ob hn h0 he => by have := vH hr.w hn h0; omega, fun j => by
  cases hq : μ.c x j with
  | none => rfl
  | some v => have := qO hr.w.imm hq; omega, by
  cases hq : μ.m x with
  | none => rfl
  | some v => have := tH hr.w.imm hq; omega⟩
 have hb1 : rR (C.on D) s β μ W ((pE fn a.tmps ps assign body W.heap.size) .ready none) (I l) W1 := ⟨⟨s.H, s.lim, β, μ, h0, cL.le_refl μ, fun n hn => ⟨hn, rfl⟩, hw1, has _ (by omega), has _ (by omega)⟩, hL1, hK1⟩
 have hkl : (C.on D).k ≤ s.lim := by
  rcases Nat.lt_or_ge s.lim (C.on D).k with h | h
  ·exact absurd (hr.w.fix s.lim h).1 (Nat.lt_irrefl _)
  ·exact h
 refine ⟨W.heap.size + 1, [wD W.heap.size], W1, { target := .fn (.func F) vs, args := #[.func (.yield (W.heap.size + 1)) #[] #[]] }, W1, F, #[.func (.yield (W.heap.size + 1)) #[] #[]] ++ vs, W1, ?_, ?_, fun _ _ => trivial, ?_, fun h => by simp [nU, Fence.wide] at h, ?_⟩
 ·rw [← hW1]; exact run_enterLoop_outer _ _ _ _ _
 ·simp only [resolve, rangeCall, List.map_toArray, List.map_cons, List.map_nil, hgv, Deferred.ofValue]
  rfl
 ·exact Io hF _ _
 ·refine callsIn_wide.2 (Calls.mono (hit μ vs hr.w.glob hvi (W.heap.size + 1) (fun t W' => rR (C.on D) s β μ W ((pE fn a.tmps ps assign body W.heap.size) .ready none) (I t) W')
   (fun W' => ∃ e c, jumpOf e = some c ∧ rR (C.on D) s β μ W ((pE fn a.tmps ps assign body W.heap.size) .done (some c)) (fun s' => K e s') W') W1 (fun t W' ⟨⟨H, lim, β', μ', _, hle, _, hw, _⟩, _, _⟩ => hw.imm.less hle) (fun W' ⟨e, c, _, ⟨H, lim, β', μ', _, hle, _, hw, _⟩, _, _⟩ => hw.imm.less hle) ?_ hb1) ?_)
  ·
   rintro x t W' xs hbt ⟨hxn, hxd⟩
   have hbt' := hbt
   obtain ⟨⟨H, lim, β', μ', hI, hle, hfix, hw, ha1, ha2⟩, hl, hd⟩ := hbt
   have hy := run_yield (P := C.E.P) (args := xs) hl (hxn.trans (hps x))
   refine ⟨_, _, _, _, hy, roundIn_of_wpIn trivial ?_⟩
   show assign.wpIn (nU (some (W.heap.size + 1))) 0 (C.on D).E.P _ { tmps := (ps.zip xs).foldl (fun tmps (t, a) => tmps.setIfInBounds t a) a.tmps, defers := [] } W'
   have hzip : (ps.zip xs).foldl (fun tmps (t, a) => tmps.setIfInBounds t a) a.tmps = (ps.toList.zip xs.toList).foldl (fun tmps q => tmps.setIfInBounds q.1 q.2) a.tmps := by
    rw [← Array.foldl_toList, Array.toList_zip]
   rw [hzip]
   have hden := Qy (μ := μ') (β := β') (ps.toList.zip (args x)) (ps.toList.zip xs.toList) s.fr a.tmps ?_ (fun j p hj => ?_) (fun t x ht => ?_)
   ·refine Iy (C := C.on D) (s := s) (β := β) (μ := μ) (rec := (pE fn a.tmps ps assign body W.heap.size) .ready none) (fr := Qq (ps.toList.zip (args x)) s.fr) hkl hC hw ha1 ha2 hl hd hfix hle (hden.1.trans hr.f.size) hden.2 (fun t z hz n hn => ?_) (hround (W.heap.size + 1) x t H lim hI) ?_
    ·have hmn : ∀ q, q ∈ ps.toList.zip (args x) → q.2.ments = [] := fun q hq => by
      have hq2 := (List.of_mem_zip (a := q.1) (b := q.2) hq).2
      obtain ⟨j, hj⟩ := List.getElem?_of_mem hq2
      obtain ⟨v, _, hv⟩ := hxd j _ hj
      exact Gw (ments_is hv)
     rcases Gv _ _ _ _ hmn hz with h | h
     ·rw [h] at hn; simp at hn
     ·exact (hfix n (hr.f.used t z h n hn)).1
    ·intro e a1 W2 s1 β2 μ2 hK hs1 hd1 hu1 hw2 hb1 hb2 hl2 hk2 hfix2 hle2
     cases e with
     | normal =>
      have hlt2 := (Array.getElem?_eq_some_iff.1 hl2).1
      refine ⟨_, run_beginRound hl2 rfl, ?_⟩
      refine Iy (C := C.on D) (s := s) (β := β) (μ := μ) (rec := { (pE fn a.tmps ps assign body W.heap.size) .ready none with state := .busy }) (fr := s1.fr) (H := s1.H) (lim := s1.lim) (K := roundK (I t) K s.fr) hkl hC (hw2.putObj _ (by omega) hb1) (hb1.put _ _) (hb2.put _ _) (World.putObj_heap_same hlt2) ((World.putObj_heap_other (by omega)).trans hk2) hfix2 hle2 hs1 hd1 hu1 hK ?_
      intro e a3 W4 s3 β3 μ3 hK3 hs3 hd3 hu3 hw4 hc1 hc2 hl4 hk4 hfix4 hle4
      have vF : ∀ (I' : St → Prop) (jump : Option Code), I' ⟨s.fr, s3.H, s3.lim⟩ → (Instr.endRound (W.heap.size + 1) jump).run C.E.P W4 = .ok (.bool jump.isNone) (W4.putObj (W.heap.size + 1) (.loop ((pE fn a.tmps ps assign body W.heap.size) (if jump.isNone then .ready else .done) jump))) ∧ rR (C.on D) s β μ W ((pE fn a.tmps ps assign body W.heap.size) (if jump.isNone then .ready else .done) jump) I' (W4.putObj (W.heap.size + 1) (.loop ((pE fn a.tmps ps assign body W.heap.size) (if jump.isNone then .ready else .done) jump))) := fun I' jump hI' => by
       have h1 := run_endRound (P := C.E.P) jump hl4
       exact ⟨h1, rR.put ⟨⟨s3.H, s3.lim, β3, μ3, hI', hle4, hfix4, hw4, hc1, hc2⟩, hl4, hk4⟩ hC _⟩
      cases e with
      | normal =>
       obtain ⟨h1, h2⟩ := vF (I t) none hK3
       exact ⟨_, _, h1, .inl ⟨rfl, h2⟩⟩
      | ret =>
       obtain ⟨h1, h2⟩ := vF (fun s' => K .ret s') (some .ret) hK3
       exact ⟨_, _, h1, .inr ⟨rfl, .ret, .ret, rfl, h2⟩⟩
      | exit id =>
       obtain ⟨h1, h2⟩ := vF (fun s' => K (.exit id) s') (some (.exit id)) hK3
       exact ⟨_, _, h1, .inr ⟨rfl, .exit id, .exit id, rfl, h2⟩⟩
      | goto l => exact hK3.elim
      | panic ch => exact hK3.elim
      | outgrown => exact hK3.elim
     | exit id => exact hK.elim
     | goto l => exact hK.elim
     | ret => exact hK.elim
     | panic ch => exact hK.elim
     | outgrown => exact hK.elim
   ·rw [List.map_fst_zip (by simp [hps, hxn]), List.map_fst_zip (by simp [hps])]
   ·have hj' := hj
    rw [List.getElem?_zip_eq_some] at hj
    obtain ⟨hj1, hj2⟩ := hj
    refine ⟨?_, ?_⟩
    ·rw [hr.f.size]; exact hpn _ (List.mem_of_getElem? hj1)
    ·obtain ⟨v, hv, hd⟩ := hxd j _ hj2
     refine ⟨v, List.getElem?_zip_eq_some.2 ⟨hj1, by simpa using hv⟩, Dw (x := p.2) ?_⟩
     exact dent_is (hd.mono hle)
   ·obtain ⟨v, hv, hvd⟩ := hr.f.den t x ht
    exact ⟨v, hv, hvd.mono hle fun n hn => (hfix n (hr.f.used t x ht n hn)).2⟩
  ·
   rintro e W3 ⟨⟨v, rfl⟩, hb3⟩
   rcases hb3 with hb3 | ⟨e, c, hec, hb3⟩
   ·refine ⟨none, _, run_endLoop (P := C.E.P) hb3.l (by simp [pE]), ?_⟩
    exact Ld hr (hb3.put hC _) fun H lim h => hend H lim h
   ·refine ⟨some c, _, run_endLoop (P := C.E.P) hb3.l (by simp [pE]), ?_⟩
    have ho := Ld hr (hb3.put hC { (pE fn a.tmps ps assign body W.heap.size) .done (some c) with state := .exhausted }) fun H lim h => h
    cases e with
    | ret => obtain rfl := Option.some.inj hec; exact wpIn_ret ho
    | exit id => obtain rfl := Option.some.inj hec; exact wpIn_exit ho
    | normal => cases hec
    | goto l => cases hec
    | panic ch => cases hec
    | outgrown => cases hec
end Go.Bm
namespace Go.Bm
open Go
def Lm {α : Type} (l : List α) : Option Unit := if l.length ≤ maxLen then some () else none
theorem lenOk_le {α : Type} {l : List α} {u : Unit} (h : Lm l = some u) : l.length ≤ maxLen := by
 unfold Lm at h
 split at h
 ·assumption
 ·cases h
def backK (J : List (Nat × bH) → Nat → Prop) (K : Exit → St → Prop) (L : List (Nat × AV)) : Exit → St → Prop
 | .normal, s' => ∃ G1 lim1, J G1 lim1 ∧ s'.H = (mk L G1 lim1).H ∧ s'.lim = lim1
 | .ret, s' => K .ret ⟨(mk L [] 0).fr, s'.H, s'.lim⟩
 | .exit id, s' => K (.exit id) ⟨(mk L [] 0).fr, s'.H, s'.lim⟩
 | _, _ => False
theorem aw_back {E : oT} {n k : Nat} {g : Operand} {t1 t2 : Tmp} {assign body : Code} {K : Exit → St → Prop} {F : FuncId} {α : Type} {enc : α → List CV} {ev : α → AV} {l : List α} {L : List (Nat × AV)} {G : List (Nat × bH)} {lim : Nat} (hF : bX E F) (hB : Uh E F enc ev) (hg : (mk L G lim).ev (cD.st E n k none) g = some (.c (.fn F [.imm [.lit (l.map enc)]]))) (hlen : l.length ≤ maxLen) (hn : (decide (t1 < n) && decide (t2 < n)) = true)
  (J : List (Nat × α) → List (Nat × bH) → Nat → Prop) (h0 : J (Cx l l.length) G lim)
  (hround : ∀ lp x t G1 lim1, J (x :: t) G1 lim1 → AW (cD.st E n lim (some lp)) assign (mk (nO t2 (ev x.2) (nO t1 (.c (.v (.int .i64 x.1))) L)) G1 lim1) (Lp (fun s1 => AW (cD.st E n lim (some lp)) body s1 (backK (J t) K L)) fun _ _ => False))
  (hend : ∀ G1 lim1, J [] G1 lim1 → K .normal (mk L G1 lim1)) : AW (cD.st E n k none) (.rangeFunc g #[t1, t2] assign body) (mk L G lim) K := by
 simp only [Bool.and_eq_true, decide_eq_true_eq] at hn
 refine Yx (C := cD.st E n k none) (l := Cx l l.length) (args := fun (q : Nat × α) => [AV.c (.v (.int .i64 q.1)), ev q.2]) rfl hF hg rfl (fun μ vs hgl hvs => ?_) (fun x => rfl) (fun t ht => ?_) (fun t s => ∃ G1 lim1, J t G1 lim1 ∧ s.H = (mk L G1 lim1).H ∧ s.lim = lim1) ⟨G, lim, h0, rfl, rfl⟩ (fun lp x t H lm hI => ?_) fun H lm hI => ?_
 ·obtain ⟨p, hp, hd⟩ := hvs.2 0 _ rfl
  have hv : vs = #[p] := by
   apply Array.ext'
   have hs : vs.toList.length = 1 := by simpa using hvs.1
   have h1 : vs.toList[0]? = some p := by simpa using hp
   match hq : vs.toList, hs, h1 with
   | [q], _, h1 => simp at h1; subst h1; rfl
  subst hv
  exact Xn hB hd hgl hlen
 ·have ht : t ∈ [t1, t2] := ht
  rcases List.mem_cons.1 ht with rfl | ht
  ·exact hn.1
  ·obtain rfl := List.mem_singleton.1 ht
   exact hn.2
 ·obtain ⟨G1, lim1, hJ, hH, hl⟩ := hI
  replace hH : H = (mk L G1 lim1).H := hH
  replace hl : lm = lim1 := hl
  subst hl
  subst hH
  have h := hround lp x t G1 lm hJ
  have he : (⟨Qq (([t1, t2] : List Tmp).zip [AV.c (.v (.int .i64 x.1)), ev x.2]) (mk L G lim).fr, (mk L G1 lm).H, lm⟩ : St) = mk (nO t2 (ev x.2) (nO t1 (.c (.v (.int .i64 x.1))) L)) G1 lm := by
   unfold mk
   congr 1
   funext u
   simp only [List.zip_cons_cons, List.zip_nil_right, Qq, sQ]
  show AW ((cD.st E n k none).rnd lim lp) assign ⟨Qq (([t1, t2] : List Tmp).zip [AV.c (.v (.int .i64 x.1)), ev x.2]) (mk L G lim).fr, (mk L G1 lm).H, lm⟩ _
  rw [he]
  refine Nl (C := (cD.st E n k none).rnd lim lp) h fun e s1 hk => ?_
  cases e with
  | normal =>
   refine Nl (C := (cD.st E n k none).rnd lim lp) hk fun e s2 hk2 => ?_
   cases e with
   | normal => exact hk2
   | ret => exact hk2
   | exit id => exact hk2
   | goto l => exact hk2
   | panic ch => exact hk2
   | outgrown => exact hk2
  | exit id => exact hk
  | goto l => exact hk
  | ret => exact hk
  | panic ch => exact hk
  | outgrown => exact hk
 ·obtain ⟨G1, lim1, hJ, hH, hl⟩ := hI
  replace hH : H = (mk L G1 lim1).H := hH
  replace hl : lm = lim1 := hl
  subst hl
  subst hH
  exact hend G1 lm hJ
end Go.Bm
namespace Go.Bm
open Go
theorem evC_on (C D : cD) (s : St) : ∀ l, Yl (C.on D) s l = Yl C s l
 | [] => rfl
 | x :: l => by simp only [Yl, Lb, evC_on C D s l]
theorem rd_on (C D : cD) (s : St) (op : Op) : rd (C.on D) s op = rd C s op := by
 cases op with
 | call c =>
  obtain ⟨cal, args, ts⟩ := c
  cases cal with
  | builtin b => cases b <;> first | rfl | (simp only [rd, Lb]; rfl)
  | _ => rfl
 | makeFunc fn first caps => cases fn <;> first | rfl | simp only [rd, evC_on]
 | _ => first | rfl | (simp only [rd, Lb]; rfl)
theorem ef_on (C D : cD) (nm : Nat) (s : St) (o : Oper) : ef (C.on D) nm s o = ef C nm s o := by
 unfold ef kC
 simp only [Lb]
 rfl
theorem prim_on (C D : cD) (nm : Nat) (s : St) (o : Oper) : Mv (C.on D) nm s o = Mv C nm s o := by
 unfold Mv
 rw [rd_on, ef_on]
theorem Vq (C D : cD) (ops : Array Oper) (dr : Bool) (T : List (List Nat)) (b : Nat) : ∀ (k i : Nat) (l : List Oper) (L : List (Nat × AV)) (G : List (Nat × bH)) (X : List (Nat × Fx)), zV (C.on D) ops dr T b k i l L G X = zV C ops dr T b k i l L G X
 | 0, _, _, _, _, _ => rfl
 | k + 1, i, [], L, G, X => rfl
 | k + 1, i, o :: os, L, G, X => by
  have h : stp (C.on D) ops dr T b i o L G X = stp C ops dr T b i o L G X := by
   unfold stp
   rw [prim_on]
   rfl
  simp only [zV, h, Vq C D ops dr T b k]
theorem Pw (C D : cD) (ops : Array Oper) (dr : Bool) (T : List (List Nat)) (b : Nat) (L : List (Nat × AV)) (G : List (Nat × bH)) : vA (C.on D) ops dr T b L G = vA C ops dr T b L G := by
 simp only [vA, Vq]
def oL : Option (List (Nat × AV) × List (Nat × bH)) → List (Nat × AV)
 | some p => p.1
 | none => []
def oG : Option (List (Nat × AV) × List (Nat × bH)) → List (Nat × bH)
 | some p => p.2
 | none => []
theorem o_eq {x : Option (List (Nat × AV) × List (Nat × bH))} (h : x.isSome = true) : x = some (oL x, oG x) := by
 cases x with
 | none => cases h
 | some p => rfl
section
variable {C : cD} {id : Nat} {ops : Array Oper} {y : Code} {L : List (Nat × AV)} {G : List (Nat × bH)} {lim : Nat} {K : Exit → St → Prop}
theorem za (ks : List Nat) (hk : AW C y (mk (mF ks (oL (vA C ops false [] lim L G))) (oG (vA C ops false [] lim L G)) (lim + ops.toList.length)) K) (h : (vA C ops false [] lim L G).isSome = true := by kernel_rfl) (hnd : wR C ops = true := by kernel_rfl) : AW C (.seq (.region id ops false) y) (mk L G lim) K :=
 ar_seq (fun D => (Pw C D ops false [] lim L G).trans (o_eq h)) rfl rfl hk hnd
theorem zb (hk : K .normal (mk (oL (vA C ops false [] lim L G)) (oG (vA C ops false [] lim L G)) (lim + ops.toList.length))) (h : (vA C ops false [] lim L G).isSome = true := by kernel_rfl) (hnd : wR C ops = true := by kernel_rfl) : AW C (.region id ops false) (mk L G lim) K :=
 ar_last (fun D => (Pw C D ops false [] lim L G).trans (o_eq h)) rfl hk hnd
theorem kS {C' : cD} {dr : Bool} {T : List (List Nat)} {b i m : Nat} {X : List (Nat × Fx)} (ks : List Nat) {L2 : List (Nat × AV)} {G2 : List (Nat × bH)} (n : Nat) (hk : AW C y (mk L2 G2 n) K) (hL : mF ks L = L2 := by kernel_rfl) (hG : G = G2 := by kernel_rfl) (hn : m = n := by kernel_rfl) : RX C' ops dr T b i [] X (mk L G lim) fun s' => AW C y { s' with lim := m } K := by
 subst hL hG hn
 exact x_end ks rfl hk
theorem zx (hk : ∀ D, RX (C.on D) ops false [] lim 0 ops.toList [] (mk L G lim) fun s' => AW C y { s' with lim := lim + ops.toList.length } K) (hnd : wR C ops = true := by kernel_rfl) : AW C (.seq (.region id ops false) y) (mk L G lim) K := xr_seq rfl hk hnd
theorem zy (hk : ∀ D, RX (C.on D) ops false [] lim 0 ops.toList [] (mk L G lim) fun s' => K .normal { s' with lim := lim + ops.toList.length }) (hnd : wR C ops = true := by kernel_rfl) : AW C (.region id ops false) (mk L G lim) K := xr_last rfl hk hnd
theorem vK (T : List (List Nat)) (hk : ∀ D, RX (C.on D) ops true T lim 0 ops.toList [] (mk L G lim) fun s' => AW C y { s' with lim := lim + ops.toList.length } K) (hT : Ei ops T = true := by kernel_rfl) (hnd : wR C ops = true := by kernel_rfl) : AW C (.seq (.region id ops true) y) (mk L G lim) K := xd_seq hT rfl hk hnd
theorem Ov (T : List (List Nat)) (hk : ∀ D, RX (C.on D) ops true T lim 0 ops.toList [] (mk L G lim) fun s' => K .normal { s' with lim := lim + ops.toList.length }) (hT : Ei ops T = true := by kernel_rfl) (hnd : wR C ops = true := by kernel_rfl) : AW C (.region id ops true) (mk L G lim) K := xd_last hT rfl hk hnd
theorem ze {C' : cD} {dr : Bool} {T : List (List Nat)} {b i m : Nat} {X : List (Nat × Fx)} (ks : List Nat) (hk : AW C y (mk (mF ks L) G m) K) : RX C' ops dr T b i [] X (mk L G lim) fun s' => AW C y { s' with lim := m } K := x_end ks rfl hk
end
def tL : Option (List (Nat × AV) × List (Nat × bH) × List (Nat × Fx)) → List (Nat × AV)
 | some p => p.1
 | none => []
def tG : Option (List (Nat × AV) × List (Nat × bH) × List (Nat × Fx)) → List (Nat × bH)
 | some p => p.2.1
 | none => []
def tD : Option (List (Nat × AV) × List (Nat × bH) × List (Nat × Fx)) → List (Nat × Fx)
 | some p => p.2.2
 | none => []
theorem t_eq {x : Option (List (Nat × AV) × List (Nat × bH) × List (Nat × Fx))} (h : x.isSome = true) : x = some (tL x, tG x, tD x) := by
 cases x with
 | none => cases h
 | some p => rfl
theorem zk {C : cD} {ops : Array Oper} {dr : Bool} {T : List (List Nat)} {b : Nat} {lim : Nat} {K : St → Prop} (k : Nat) {i : Nat} {l : List Oper} {X : List (Nat × Fx)} {L : List (Nat × AV)} {G : List (Nat × bH)}
  (hk : RX C ops dr T b (i + k) (l.drop k) (tD (Jc C ops dr T b k i l L G X)) (mk (tL (Jc C ops dr T b k i l L G X)) (tG (Jc C ops dr T b k i l L G X)) lim) K) (h : (Jc C ops dr T b k i l L G X).isSome = true := by kernel_rfl) : RX C ops dr T b i l X (mk L G lim) K :=
 Rj k (t_eq h) hk
theorem Ry {C : cD} {ops : Array Oper} {dr : Bool} {T : List (List Nat)} {b : Nat} {lim : Nat} {K : St → Prop} (k : Nat) {i : Nat} {l : List Oper} {X X' : List (Nat × Fx)} {L L' : List (Nat × AV)} {G G' : List (Nat × bH)}
  (hk : RX C ops dr T b (i + k) (l.drop k) X' (mk L' G' lim) K) (h : Jc C ops dr T b k i l L G X = some (L', G', X') := by kernel_rfl) : RX C ops dr T b i l X (mk L G lim) K := Rj k h hk
def lsOp (L : List (Nat × AV)) : Operand → Ls
 | .tmp t => match L.lookup t with
  | some (.cnd es x) => [(t, x, some es.length)]
  | some x => [(t, x, none)]
  | none => [(t, default, none)]
 | _ => []
def uB (L : List (Nat × AV)) (o : Oper) : Ls := o.op.operands.toList.flatMap (lsOp L)
def eC (ops : Array Oper) (o : Oper) (L : List (Nat × AV)) : List Bool := (pN ops o L).getD []
def eV (C : cD) (o : Oper) (L : List (Nat × AV)) (G : List (Nat × bH)) : AV := match rd C (mk (uB L o).st G 0) o.op with
 | some r => r.v.getD default
 | none => default
def eF (C : cD) (o : Oper) (L : List (Nat × AV)) (G : List (Nat × bH)) : List Nat := match rd C (mk (uB L o).st G 0) o.op with
 | some r => r.foot
 | none => []
def Mp (g : Bool) : Value → Value → Value
 | .bool a, .bool b => .bool (cond g a b)
 | .int k a, .int _ b => .int k (cond g a b)
 | .string a, .string b => .string (cond g a b)
 | a, _ => a
def Dr : Value → Value → Bool
 | .bool _, .bool _ => true
 | .int k _, .int k' _ => decide (k = k')
 | .string _, .string _ => true
 | _, _ => false
theorem pickZ_t {x y : Value} (h : Dr x y = true) : Mp true x y = x := by
 unfold Dr at h
 split at h <;> first | rfl | cases h
theorem pickZ_f {x y : Value} (h : Dr x y = true) : Mp false x y = y := by
 unfold Dr at h
 split at h
 ·rfl
 ·simp only [decide_eq_true_eq] at h; subst h; rfl
 ·rfl
 ·cases h
section
variable {C : cD} {ops : Array Oper} {dr : Bool} {T : List (List Nat)} {b i : Nat} {o : Oper} {os : List Oper} {X : List (Nat × Fx)} {L : List (Nat × AV)} {G : List (Nat × bH)} {lim : Nat} {K : St → Prop}
theorem zE (v : AV) (hk : RX C ops dr T b (i + 1) os (fM dr X i (eF C o L G) []) (mk (lG o.dst (some (.cnd (eC ops o L) v)) L) G lim) K) (hw : pN ops o L = some (eC ops o L) := by kernel_rfl) (hs : (uB L o).have_ L = (uB L o).want (eC ops o L) := by kernel_rfl)
  (hchk : Bp C ops dr T b i o X (eC ops o L) (uB L o) v (eF C o L G) = true := by kernel_rfl) (h : rd C (mk (uB L o).st G 0) o.op = some ⟨some v, [], eF C o L G, []⟩ := by kernel_rfl) : RX C ops dr T b i (o :: os) X (mk L G lim) K :=
 kX _ hw hs hchk (fun _ => h) rfl rfl hk
theorem zF (e : List Bool) (v : AV) (hk : RX C ops dr T b (i + 1) os (fM dr X i (eF C o L G) []) (mk (lG o.dst (some (.cnd e v)) L) G lim) K) (hw : pN ops o L = some e := by kernel_rfl) (hs : (uB L o).have_ L = (uB L o).want e := by kernel_rfl)
  (hchk : Bp C ops dr T b i o X e (uB L o) v (eF C o L G) = true := by kernel_rfl) (h : rd C (mk (uB L o).st G 0) o.op = some ⟨some v, [], eF C o L G, []⟩ := by kernel_rfl) : RX C ops dr T b i (o :: os) X (mk L G lim) K :=
 kX _ hw hs hchk (fun _ => h) rfl rfl hk
def opd (o : Oper) (k : Nat) : Operand := o.op.operands.toList.getD k (.const (.bool false))
def pC (o : Oper) (L : List (Nat × AV)) (k : Nat) : Ls := lsOp L (opd o k)
def pB (C : cD) (o : Oper) (L : List (Nat × AV)) : Bool × Value × Value := (Pq C o (pC o L 0) (pC o L 1) (pC o L 2)).getD (false, .bool false, .bool false)
theorem zP (z : Value) (hk : RX C ops dr T b (i + 1) os (fM dr X i [] []) (mk (lG o.dst (some (mkC (eC ops o L) (.c (.v z)))) L) G lim) K) (hq : Mp (pB C o L).1 (pB C o L).2.1 (pB C o L).2.2 = z := by kernel_rfl) (hw : pN ops o L = some (eC ops o L) := by kernel_rfl) (hs : (pC o L 0).have_ L = (pC o L 0).want (eC ops o L) := by kernel_rfl)
  (hp : Pq C o (pC o L 0) (pC o L 1) (pC o L 2) = some (pB C o L) := by kernel_rfl) (hs1 : (pC o L 1).have_ L = (pC o L 1).want (eC ops o L ++ [(pB C o L).1]) := by kernel_rfl) (hs2 : (pC o L 2).have_ L = (pC o L 2).want (eC ops o L ++ [!(pB C o L).1]) := by kernel_rfl)
  (hchk : Fm C ops dr T b i o X (pC o L 0) (pC o L 1) (pC o L 2) = true := by kernel_rfl) (hz : Dr (pB C o L).2.1 (pB C o L).2.2 = true := by kernel_rfl) : RX C ops dr T b i (o :: os) X (mk L G lim) K := by
 subst hq
 exact rx_pick _ _ _ hw hs hp hs1 hs2 hchk (fun h => (congrArg (fun g => Mp g (pB C o L).2.1 (pB C o L).2.2) h).trans (pickZ_t hz)) (fun h => (congrArg (fun g => Mp g (pB C o L).2.1 (pB C o L).2.2) h).trans (pickZ_f hz)) rfl rfl rfl hk
theorem zq (hk : RX C ops dr T b (i + 1) os (fM dr X i (eF C o L G) []) (mk (lG o.dst (some (.cnd (eC ops o L) (eV C o L G))) L) G lim) K) (hw : pN ops o L = some (eC ops o L) := by kernel_rfl) (hs : (uB L o).have_ L = (uB L o).want (eC ops o L) := by kernel_rfl)
  (hchk : Bp C ops dr T b i o X (eC ops o L) (uB L o) (eV C o L G) (eF C o L G) = true := by kernel_rfl) (h : rd C (mk (uB L o).st G 0) o.op = some ⟨some (eV C o L G), [], eF C o L G, []⟩ := by kernel_rfl) : RX C ops dr T b i (o :: os) X (mk L G lim) K := zE _ hk hw hs hchk h
theorem zp (hk : RX C ops dr T b (i + 1) os (fM dr X i [] []) (mk (lG o.dst (some (mkC (eC ops o L) (.c (.v (Mp (pB C o L).1 (pB C o L).2.1 (pB C o L).2.2))))) L) G lim) K) (hw : pN ops o L = some (eC ops o L) := by kernel_rfl) (hs : (pC o L 0).have_ L = (pC o L 0).want (eC ops o L) := by kernel_rfl)
  (hp : Pq C o (pC o L 0) (pC o L 1) (pC o L 2) = some (pB C o L) := by kernel_rfl) (hs1 : (pC o L 1).have_ L = (pC o L 1).want (eC ops o L ++ [(pB C o L).1]) := by kernel_rfl) (hs2 : (pC o L 2).have_ L = (pC o L 2).want (eC ops o L ++ [!(pB C o L).1]) := by kernel_rfl)
  (hchk : Fm C ops dr T b i o X (pC o L 0) (pC o L 1) (pC o L 2) = true := by kernel_rfl) (hz : Dr (pB C o L).2.1 (pB C o L).2.2 = true := by kernel_rfl) : RX C ops dr T b i (o :: os) X (mk L G lim) K := zP _ hk rfl hw hs hp hs1 hs2 hchk hz
theorem zn {l : List Oper} {X2 : List (Nat × Fx)} {L2 : List (Nat × AV)} {G2 : List (Nat × bH)} (hk : RX C ops dr T b i l X2 (mk L2 G2 lim) K) (h : L = L2 := by kernel_rfl) (hG : G = G2 := by kernel_rfl) (hX : X = X2 := by kernel_rfl) : RX C ops dr T b i l X (mk L G lim) K := by
 subst h hG hX
 exact hk
end
theorem eO {E : oT} {F : FuncId} {fn : Func} {c : Code} {k : Nat} {args : List AV} {G : List (Nat × bH)} {r : AV} {Gf : List (Nat × bH)} (hf : E.P.funcs[F]? = some fn) (hb : fn.body = some c) (h : AW (cD.st E fn.ntmps k none) c (mk (args.zipIdx.map (fun p => (p.2, p.1))) G k) (FinD (cD.st E fn.ntmps k none) fn.results.toList r Gf)) (hchk : Nx fn.ntmps k args G = true := by kernel_rfl) : dC E F k args G r Gf :=
 fnD_of hf hb rfl rfl hchk rfl h
theorem zv {C : cD} (σ : List (Nat × Nat)) (ks : List Nat) (lim2 : Nat) {L L2 : List (Nat × AV)} {G G2 : List (Nat × bH)} {lim : Nat} (h : Ux C.k σ ks lim2 L G = some (L2, G2) := by kernel_rfl) : dZ C (mk L G lim) (mk L2 G2 lim2) := tX rfl σ ks h
theorem zI {C : cD} {L L2 : List (Nat × AV)} {G G2 : List (Nat × bH)} {lim lim2 : Nat} (h : Ux C.k (G2.map fun p => (p.1, p.1)) (L2.map fun p => p.1) lim2 L G = some (L2, G2) := by kernel_rfl) : dZ C (mk L G lim) (mk L2 G2 lim2) := tX rfl _ _ h
end Go.Bm
namespace Go.Bm
open Go
def Lf (W : World) : cL := ⟨fun b j => match W.heap[b]? with | some (.cells cs _ _) => cs[j]? | _ => none, fun b => match W.heap[b]? with | some (.map es clk) => some (es, clk) | _ => none⟩
theorem wmu_imm (W : World) : fQ (Lf W) W := by
 refine ⟨fun b j v h => ?_, fun b es clk h => ?_⟩
 ·simp only [Lf] at h
  split at h
  ·rename_i cs T fr hb; exact ⟨cs, T, fr, hb, h⟩
  ·cases h
 ·simp only [Lf] at h
  split at h
  ·rename_i es' clk' hb; cases h; exact hb
  ·cases h
theorem Zr {W : World} {b o : Nat} {v : Value} (h : W.cell? ⟨b, o, none⟩ = some v) : (Lf W).c b o = some v := by
 unfold World.cell? at h
 simp only [Lf]
 split at h
 ·rename_i cs T fr hb
  simp only [hb]
  simpa using h
 ·cases h
def wP : List Nat → Nat
 | [] => 0
 | z :: l => z + wP l
theorem Jo {α : Type} : ∀ (zs : List Nat) (l : List (List α)) (cs : List α), l.length = zs.length → cs.length = wP zs → (∀ (i : Nat) (z : Nat), zs[i]? = some z → (cs.drop (wP (zs.take i))).take z = l.getD i []) → cs = l.flatten
 | [], [], cs, _, h, _ => by
  have : cs = [] := List.length_eq_zero_iff.1 h
  subst this; rfl
 | [], x :: l, cs, h, _, _ => by simp at h
 | z :: zs, [], cs, h, _, _ => by simp at h
 | z :: zs, x :: l, cs, hl, hc, h => by
  have h0 := h 0 z rfl
  simp only [List.take_zero, wP, List.drop_zero, List.getD_cons_zero] at h0
  have := Jo zs l (cs.drop z) (by simpa using hl) (by rw [List.length_drop, hc]; simp [wP]) fun i y hi => by
   have := h (i + 1) y (by simpa using hi)
   simp only [List.take_succ_cons, wP, List.getD_cons_succ] at this
   rw [List.drop_drop, this]
  rw [List.flatten_cons, ← this, ← h0, List.take_append_drop]
def wI : Nat → DataW Unit → Option (List Value)
 | 0, _ => none
 | _ + 1, .lit (.int k i) => some [.int k i]
 | _ + 1, .lit (.bool b) => some [.bool b]
 | n + 1, .agg ps => (ps.mapM (wI n)).map List.flatten
 | _, _ => none
def Gx : Nat → List (TypeId × Nat × Nat) → Bool
 | _, [] => true
 | o, f :: fs => f.2.1 == o && Gx (o + f.2.2) fs
def Ji (E : oT) : Nat → TypeId → Bool
 | 0, _ => false
 | n + 1, T => match E.ti T with
  | some ⟨.int _, _, _, _⟩ => true
  | some ⟨.boo, _, _, _⟩ => true
  | some ⟨.arr len e, sz, _, _⟩ => Ji E n e && match E.ti e with | some j => decide (sz = len * j.size) | none => false
  | some ⟨.st fs, sz, _, _⟩ => Gx 0 fs && fs.all (fun f => Ji E n f.1) && decide (sz = wP (fs.map fun f => f.2.2))
  | _ => false
theorem xL (z : Nat) : ∀ n, wP (List.replicate n z) = n * z
 | 0 => by simp [wP]
 | n + 1 => by rw [List.replicate_succ, wP, xL z n, Nat.succ_mul, Nat.add_comm]
theorem Gy : ∀ (fs : List (TypeId × Nat × Nat)) (o : Nat), Gx o fs = true → ∀ (i : Nat) (f : TypeId × Nat × Nat), fs[i]? = some f → f.2.1 = o + wP ((fs.map fun f => f.2.2).take i)
 | [], _, _, i, f, h => by simp at h
 | g :: fs, o, h, i, f, hi => by
  simp only [Gx, Bool.and_eq_true, beq_iff_eq] at h
  cases i with
  | zero => simp at hi; subst hi; simp [wP, h.1]
  | succ i =>
   have := Gy fs _ h.2 i f (by simpa using hi)
   simp only [List.map_cons, List.take_succ_cons, wP]
   omega
theorem oI {E : oT} {T : TypeId} {i : TI} (h : E.ti T = some i) : E.P.cellsOf T = i.size := by
 obtain ⟨f, h1, h2, _⟩ := Mx h
 unfold Program.cellsOf
 rw [h1, ← h2]
 rfl
theorem Dt {E : oT} {enc : TypeId × Value → Unit} {w : World} {base : Nat} {sp : Nat → Bool} {held : Bool} : ∀ (n k : Nat) (T : TypeId) (m : Nat) (cs : List Value) (d : DataW Unit) (p : List MemPlace) (vs : List Value), Ji E n T = true → DataW.trod enc E.P w base sp held m T cs = some (d, p) → wI k d = some vs → cs = vs
 | 0, _, _, _, _, _, _, _, h, _, _ => by simp [Ji] at h
 | n + 1, k, T, m, cs, d, p, vs, hT, ht, hd => by
  unfold Ji at hT
  split at hT
  ·rename_i kd z1 z2 z3 hti
   obtain ⟨x, rfl, hx, _⟩ := DataW.trod_int (E.ok T _ hti).k ht
   simp only [Prod.mk.injEq] at hx
   obtain ⟨rfl, _⟩ := hx
   cases k with
   | zero => simp [wI] at hd
   | succ k => simp only [wI, Option.some.injEq] at hd; exact hd
  ·rename_i z1 z2 z3 hti
   obtain ⟨x, rfl, hx⟩ := DataW.trod_bool (E.ok T _ hti).k ht
   simp only [Prod.mk.injEq] at hx
   obtain ⟨rfl, _⟩ := hx
   cases k with
   | zero => simp [wI] at hd
   | succ k => simp only [wI, Option.some.injEq] at hd; exact hd
  ·rename_i len e sz z2 z3 hti
   simp only [Bool.and_eq_true] at hT
   obtain ⟨hT1, hT2⟩ := hT
   split at hT2
   ·rename_i j hj
    simp only [decide_eq_true_eq] at hT2
    obtain ⟨xs, m', rfl, hx, hlen, hxn, hel⟩ := DataW.trod_array (E.ok T _ hti).k ht
    simp only [Prod.mk.injEq] at hx
    obtain ⟨rfl, _⟩ := hx
    cases k with
    | zero => simp [wI] at hd
    | succ k =>
     simp only [wI, Option.map_eq_some_iff] at hd
     obtain ⟨l, hl, rfl⟩ := hd
     have hll := Au hl
     rw [List.length_map, hxn] at hll
     refine Jo (List.replicate len j.size) l cs (by simp [hll]) (by rw [xL, hlen, oI hti, hT2]) fun i z hi => ?_
     have hi' : i < len := by have := (List.getElem?_eq_some_iff.1 hi).1; simpa using this
     have hz : z = j.size := by rw [List.getElem?_replicate, if_pos hi'] at hi; exact (Option.some.inj hi).symm
     subst hz
     rw [List.take_replicate, Nat.min_eq_left (Nat.le_of_lt hi'), xL]
     have h1 := hel i hi'
     rw [oI hj] at h1
     have hxi : i < xs.length := by omega
     rw [List.getElem?_eq_getElem hxi] at h1
     have hli : i < l.length := by omega
     obtain ⟨y, hy, hyf⟩ := Am hl i _ (List.getElem?_eq_getElem hli)
     rw [List.getElem?_map, List.getElem?_eq_getElem hxi] at hy
     simp only [Option.map_some, Option.some.injEq] at hy
     subst hy
     rw [List.getD_eq_getElem?_getD, List.getElem?_eq_getElem hli]
     exact Dt n k e m' _ _ _ _ hT1 h1 hyf
   ·cases hT2
  ·rename_i fs sz z2 z3 hti
   simp only [Bool.and_eq_true, decide_eq_true_eq] at hT
   obtain ⟨⟨hT1, hT2⟩, hT3⟩ := hT
   obtain ⟨F, hF, hFf, hFs⟩ := (E.ok T _ hti).k
   obtain ⟨xs, m', rfl, hx, hlen, hxn, hel⟩ := DataW.trod_struct hF ht
   simp only [Prod.mk.injEq] at hx
   obtain ⟨rfl, _⟩ := hx
   cases k with
   | zero => simp [wI] at hd
   | succ k =>
    simp only [wI, Option.map_eq_some_iff] at hd
    obtain ⟨l, hl, rfl⟩ := hd
    have hll := Au hl
    rw [List.length_map, hxn, hFs] at hll
    refine Jo (fs.map fun f => f.2.2) l cs (by simp [hll]) (by rw [hlen, oI hti]; exact hT3) fun i z hi => ?_
    rw [List.getElem?_map] at hi
    simp only [Option.map_eq_some_iff] at hi
    obtain ⟨⟨t, o, z'⟩, hf, rfl⟩ := hi
    have hi' : i < fs.length := (List.getElem?_eq_some_iff.1 hf).1
    obtain ⟨f, inf, hff, rfl, rfl, hinf, hinfs⟩ := hFf i t o z' hf
    have ho := Gy fs 0 hT1 i _ hf
    simp only [Nat.zero_add] at ho
    have h1 := hel i f hff
    have hcz : E.P.cellsOf f.type = z' := by
     unfold Program.cellsOf
     rw [hinf, ← hinfs]; rfl
    rw [hcz] at h1
    have hxi : i < xs.length := by omega
    rw [List.getElem?_eq_getElem hxi] at h1
    have hli : i < l.length := by omega
    obtain ⟨y, hy, hyf⟩ := Am hl i _ (List.getElem?_eq_getElem hli)
    rw [List.getElem?_map, List.getElem?_eq_getElem hxi] at hy
    simp only [Option.map_some, Option.some.injEq] at hy
    subst hy
    show (cs.drop (wP ((fs.map fun f => f.2.2).take i))).take z' = _
    rw [← ho, List.getD_eq_getElem?_getD, List.getElem?_eq_getElem hli]
    exact Dt n k f.type m' _ _ _ _ (List.all_eq_true.1 hT2 _ (List.mem_of_getElem? hf)) h1 hyf
  ·cases hT
end Go.Bm
namespace Go.Bm
open Go Go.RowKit
theorem den_true {μ : cL} {r : AV} {β : Nat → Bk} {v x : Value} (h : r = .c (.v x) ∨ r.pub = some (.c (.v x))) (hd : dL μ β r v) : v = x := by
 rcases h with rfl | h
 ·exact dY hd
 ·have h2 : cQ μ (.v x) v := jJ h hd
  cases h2
  rfl
theorem Xy {E : oT} {F : FuncId} {args : List AV} {vs : List Value} {W : World} (β : Nat → Bk) {x : Value} (h : dC E F 0 args [] (.c (.v x)) []) (hg : E.globOk (Lf W)) (ha : rU (Lf W) β args vs) :
  Calls E.P F vs.toArray W fun e W' => e = .returned x ∧ Below W.heap.size W W' := by
 refine Calls.mono (h β (Lf W) W vs (wmu_imm W) hg ⟨fun n o hn => (nomatch hn), fun n m o p hn => (nomatch hn), fun n o hn => (nomatch hn)⟩ ha) ?_
 rintro e W' ⟨v, r, G', β', μ', rfl, ⟨hr, _⟩, hd, hl⟩
 exact ⟨by rw [den_true hr hd], hl.os, hl.tape, hl.output, hl.size, fun k hk => hl.keep k hk fun ⟨n, o, hn, _⟩ => nomatch hn⟩
theorem glob_den {E : oT} {W : World} {name : String} {g : Nat} {T : TypeId} {d : DataW Unit} {vs : List Value} (n k : Nat) (h : Lib.VarReads E.P W name d) (hg : E.P.globalNamed name = some g) (ht : (E.P.globals[g]?).map (·.type) = some T) (hT : Ji E n T = true) (hd : wI k d = some vs) : cQ (Lf W) (.imm (vs.map CV.v)) (.pointer (some ⟨g, 0, none⟩)) := by
 obtain ⟨g', t', cs, fuel, p, h1, h2, h3, h4⟩ := h
 obtain rfl := Option.some.inj (hg.symm.trans h1)
 obtain rfl := Option.some.inj (ht.symm.trans h2)
 have hcs := Dt n k T fuel cs.toList d p vs hT h4 hd
 refine .imm _ g 0 (fun j => vs.getD j (.bool false)) (fun j x hj => ?_) (fun j x hj => ?_)
 ·rw [List.getElem?_map] at hj
  simp only [Option.map_eq_some_iff] at hj
  obtain ⟨v, hv, rfl⟩ := hj
  have hb : (Lf W).c g (0 + j) = cs[j]? := by
   unfold World.var? at h3
   rw [hg] at h3
   simp only [Option.bind_some] at h3
   simp only [Lf, Nat.zero_add]
   split at h3
   ·rename_i cs' T' fr hb
    obtain rfl := Option.some.inj h3
    rw [hb]
   ·cases h3
  rw [hb, ← Array.getElem?_toList, hcs, hv, List.getD_eq_getElem?_getD, hv]
  rfl
 ·rw [List.getElem?_map] at hj
  simp only [Option.map_eq_some_iff] at hj
  obtain ⟨v, hv, rfl⟩ := hj
  rw [List.getD_eq_getElem?_getD, hv]
  exact .v v
theorem Dl {E : oT} {W : World} {name : String} {g : Nat} {T : TypeId} {d : DataW Unit} {l : List CV} (vs : List Value) (n k : Nat) (h : Lib.VarReads E.P W name d) (hg : E.P.globalNamed name = some g) (ht : (E.P.globals[g]?).map (·.type) = some T) (hT : Ji E n T = true) (hd : wI k d = some vs) (hl : vs.map CV.v = l) : cQ (Lf W) (.imm l) (.pointer (some ⟨g, 0, none⟩)) := hl ▸ glob_den n k h hg ht hT hd
theorem Rh {μ : cL} {β : Nat → Bk} : rU μ β [] [] := ⟨rfl, fun i A hi => by simp at hi⟩
theorem Ny {μ : cL} {β : Nat → Bk} {A : AV} {v : Value} {As : List AV} {vs : List Value} (h : dL μ β A v) (k : rU μ β As vs) : rU μ β (A :: As) (v :: vs) := ⟨by simp [k.1], fun i B hi => by
 cases i with
 | zero => simp at hi; subst hi; exact ⟨v, rfl, h⟩
 | succ i => exact k.2 i B (by simpa using hi)⟩
end Go.Bm
namespace Go.Bm
open Go
theorem zi {C : cD} {c : Operand} {x y : Code} {s : St} {K : Exit → St → Prop} {t : Bool} {α : Type} {A B : Option α} {r : α} (h : (if t = true then A else B) = some r) (h1 : A = some r → AW C x s K) (h2 : B = some r → AW C y s K) (hc : s.ev C c = some (.c (.v (.bool t))) := by kernel_rfl) : AW C (.cond c x y) s K := aw_ite hc h h1 h2
def resD (C : cD) (s : St) (rs : List ResultVar) : AV := (s.res C rs).getD (.agg [])
theorem zr {C : cD} {rs : List ResultVar} {r : AV} {Gf : List (Nat × bH)} {e : Exit} {L : List (Nat × AV)} {G : List (Nat × bH)} {lim : Nat} (he : e = .ret ∨ e = .normal := by first | exact Or.inl rfl | exact Or.inr rfl) (h1 : (mk L G lim).res C rs = some (resD C (mk L G lim) rs) := by kernel_rfl) (h2 : (resD C (mk L G lim) rs).pub = some r := by kernel_rfl) (h3 : Gf.map (fun p => G.lookup p.1) = Gf.map (fun p => some p.2) := by kernel_rfl) : FinD C rs r Gf e (mk L G lim) := fin_pub he h1 h2 h3
def Wv (C : cD) (ops : Array Oper) (o : Oper) (L : List (Nat × AV)) : List AV := ((Ay C ops o L).getD (0, [])).2
def Nn (r : AV) : AV := r.pub.getD (.agg [])
def argE (σ : Nat → Nat) (As Bs : List AV) : List (Option AV × Option AV) := (As.zip Bs).map fun p => if p.2.ments.isEmpty then (p.1.pub, some p.2) else (some p.1, some (p.2.ren σ))
def Td (As Bs : List AV) : Bool := Nat.beq As.length Bs.length && Bs.all fun B => B.ments.isEmpty || B.plain
theorem Rs {σ : Nat → Nat} : ∀ {As Bs : List AV}, (argE σ As Bs).map (·.1) = (argE σ As Bs).map (·.2) → Td As Bs = true → xM σ As Bs
 | [], [], _, _ => trivial
 | [], _ :: _, _, h => by simp [Td] at h
 | _ :: _, [], _, h => by simp [Td] at h
 | A :: As, B :: Bs, h, k => by
  simp only [Td, List.length_cons, List.all_cons, Bool.and_eq_true] at k
  obtain ⟨k1, k2, k3⟩ := k
  have k1 : As.length = Bs.length := by have := Nat.eq_of_beq_eq_true k1; omega
  have hk : Td As Bs = true := by simp only [Td, Bool.and_eq_true]; exact ⟨by rw [k1]; exact Nat.beq_refl _, k3⟩
  unfold argE at h
  rw [List.zip_cons_cons, List.map_cons, List.map_cons, List.map_cons] at h
  injection h with h1 h2
  refine ⟨?_, Rs h2 hk⟩
  by_cases e : B.ments.isEmpty = true
  ·rw [if_pos e] at h1; exact .inl h1
  ·rw [if_neg e] at h1
   rw [Bool.or_eq_true] at k2
   exact .inr ⟨Option.some.inj h1, k2.resolve_left e⟩
section
variable {C : cD} {ops : Array Oper} {dr : Bool} {T : List (List Nat)} {b i : Nat} {o : Oper} {os : List Oper} {X : List (Nat × Fx)} {L : List (Nat × AV)} {G : List (Nat × bH)} {lim : Nat} {K : St → Prop}
theorem zc {F : FuncId} {Bs : List AV} {r : AV} (hF : bX C.E F) (hc : dC C.E F 0 Bs [] r []) (hk : RX C ops dr T b (i + 1) os (fM dr X i [] []) (mk (lG o.dst (some (Nn r)) L) G lim) K) (h : Ay C ops o L = some (F, Wv C ops o L) := by kernel_rfl) (hB : xX (Wv C ops o L) = some Bs := by kernel_rfl) (hr : r.pub = some (Nn r) := by kernel_rfl) (hchk : iO dr T b i X (some (Nn r)) [] [] [] = true := by kernel_rfl) : RX C ops dr T b i (o :: os) X (mk L G lim) K :=
 rx_call h hF hB hc hr hchk rfl rfl hk
theorem zo {F : FuncId} {Bs : List AV} {k : Nat} {Gc Gf : List (Nat × bH)} {r : AV} (σ : List (Nat × Nat)) (hF : bX C.E F) (hc : dC C.E F k Bs Gc r Gf) (hk : RX C ops dr T b (i + 1) os (fM dr X i (Gc.map fun p => eA σ p.1) (lS (eA σ) Gc Gf none)) (mk (lG o.dst (some (Nn r)) L) (uE (lS (eA σ) Gc Gf none) G) lim) K) (h : Ay C ops o L = some (F, Wv C ops o L) := by kernel_rfl)
  (hB : (argE (eA σ) (Wv C ops o L) Bs).map (·.1) = (argE (eA σ) (Wv C ops o L) Bs).map (·.2) := by kernel_rfl) (hN : Td (Wv C ops o L) Bs = true := by kernel_rfl) (hok : vV k σ Gc Gf = true := by kernel_rfl) (ho : Gc.map (fun p => G.lookup (eA σ p.1)) = Gc.map (fun p => some (p.2.ren (eA σ))) := by kernel_rfl) (hr : r.pub = some (Nn r) := by kernel_rfl)
  (hchk : iO dr T b i X (some (Nn r)) (lS (eA σ) Gc Gf none) (Gc.map fun p => eA σ p.1) [] = true := by kernel_rfl) : RX C ops dr T b i (o :: os) X (mk L G lim) K :=
 Ym h hF (Rs hB hN) hc hok ho hr hchk rfl rfl rfl hk
theorem zd {α : Type} (enc : α → List CV) {l : List α} {ix : Int} {e : α} (he : idx l ix = some e) (hk : RX C ops dr T b (i + 1) os (fM dr X i [] []) (mk (lG o.dst (some (.c (.imm (enc e)))) L) G lim) K) (h : idxB C o L = some (l.map enc, ix, (enc e).length) := by kernel_rfl) (hchk : uW C ops dr T b i o L X (.c (.imm (enc e))) [] = true := by kernel_rfl) : RX C ops dr T b i (o :: os) X (mk L G lim) K :=
 cY (dU he h rfl rfl) hchk rfl rfl hk
theorem zl {α : Type} (enc : α → List CV) (l : List α) (hk : RX C ops dr T b (i + 1) os (fM dr X i [] []) (mk (lG o.dst (some (.c (.v (.int .i64 l.length)))) L) G lim) K) (h : lenB C o L = some (l.map enc) := by kernel_rfl) (hchk : uW C ops dr T b i o L X (.c (.v (.int .i64 l.length))) [] = true := by kernel_rfl) : RX C ops dr T b i (o :: os) X (mk L G lim) K :=
 cY (mO h) hchk rfl rfl hk
theorem zs {s : ByteArray} {ix u : Int} (he : Ae s ix = some u) (hk : RX C ops dr T b (i + 1) os (fM dr X i [] []) (mk (lG o.dst (some (.c (.v (.int .u8 u)))) L) G lim) K) (h : Un C o L = some (s, ix) := by kernel_rfl) (hchk : uW C ops dr T b i o L X (.c (.v (.int .u8 u))) [] = true := by kernel_rfl) : RX C ops dr T b i (o :: os) X (mk L G lim) K :=
 rx_sidx he h hchk rfl rfl hk
theorem zw {v : AV} (foot : List Nat) (h : Ki C o L G v foot) (hk : RX C ops dr T b (i + 1) os (fM dr X i foot []) (mk (lG o.dst (some v) L) G lim) K) (hchk : uW C ops dr T b i o L X v foot = true := by kernel_rfl) : RX C ops dr T b i (o :: os) X (mk L G lim) K := rx_W h hchk rfl rfl hk
theorem yW (e : List Bool) {F : FuncId} {Bs : List AV} {r : AV} (hF : bX C.E F) (hc : e.all id = true → dC C.E F 0 Bs [] r []) (hk : RX C ops dr T b (i + 1) os (fM dr X i [] []) (mk (lG o.dst (some (.cnd e (Nn r))) L) G lim) K) (hw : pN ops o L = some e := by kernel_rfl) (hs : (uB L o).have_ L = (uB L o).want e := by kernel_rfl) (hchk : Bp C ops dr T b i o X e (uB L o) (Nn r) [] = true := by kernel_rfl)
  (h : Cn C o (uB L o).st = some (F, ((Cn C o (uB L o).st).getD (0, [])).2) := by kernel_rfl) (hB : xX ((Cn C o (uB L o).st).getD (0, [])).2 = some Bs := by kernel_rfl) (hr : r.pub = some (Nn r) := by kernel_rfl) : RX C ops dr T b i (o :: os) X (mk L G lim) K :=
 rx_Ecall _ hw hs hchk h hF hB hc hr rfl rfl hk
end
end Go.Bm
