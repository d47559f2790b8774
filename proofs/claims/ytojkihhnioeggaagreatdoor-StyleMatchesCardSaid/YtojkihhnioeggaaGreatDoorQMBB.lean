import Derived.Test.YtojkihhnioeggaaGreatDoorQMBA
import Derived.IntWalk
import Derived.Deep.LoopGhost
import Derived.Maps.AppendAt
import Derived.Laws.OwnMore
import Derived.WalkKit
import Derived.WalkSpells
import Derived.WalkLawsBesides
import Derived.Deep.QuietTactic
import Derived.BigQuiet
import Derived.BigRegion
import Derived.Lib.Hide
import Derived.Deep.RegionWith
set_option linter.unusedSimpArgs false
set_option linter.unusedVariables false
namespace Go.Bm
open Go
def CV.ren1 (ρ : Nat → Nat) : CV → CV
 | .ptr n o => .ptr (ρ n) o
 | .app n l => .app (ρ n) l
 | .row n => .row (ρ n)
 | .mapr n => .mapr (ρ n)
 | x => x
def CV.ren (ρ : Nat → Nat) : CV → CV
 | .fn f caps => .fn f (caps.map (CV.ren1 ρ))
 | x => x.ren1 ρ
def AV.ren1 (ρ : Nat → Nat) : AV → AV
 | .c x => .c (x.ren ρ)
 | .agg l => .agg (l.map (CV.ren ρ))
 | x => x
def AV.ren (ρ : Nat → Nat) : AV → AV
 | .tup l => .tup (l.map (AV.ren1 ρ))
 | x => x.ren1 ρ
def aY.ren (ρ : Nat → Nat) : aY → aY
 | .blk T l => .blk T (l.map (CV.ren ρ))
 | o => o
def AV.plain : AV → Bool
 | .cnd _ _ => false
 | _ => true
theorem Lg {μ : bV} {β : Nat → Bk} {ρ : Nat → Nat} {x : CV} {v : Value} : nG μ β (x.ren1 ρ) v ↔ nG μ (fun n => β (ρ n)) x v := by
 cases x <;> exact Iff.rfl
theorem Bi {μ : bV} {β : Nat → Bk} {ρ : Nat → Nat} {x : CV} {v : Value} : Eu μ β (x.ren ρ) v ↔ Eu μ (fun n => β (ρ n)) x v := by
 cases x with
 | fn f caps =>
  constructor
  ·rintro ⟨vs, h1, h2, h3⟩
   refine ⟨vs, h1, by simpa using h2, fun j x hj => ?_⟩
   obtain ⟨y, hy, hd⟩ := h3 j (x.ren1 ρ) (by simp [hj])
   exact ⟨y, hy, Lg.1 hd⟩
  ·rintro ⟨vs, h1, h2, h3⟩
   refine ⟨vs, h1, by simpa using h2, fun j x hj => ?_⟩
   rw [List.getElem?_map] at hj
   cases hq : caps[j]? with
   | none => rw [hq] at hj; cases hj
   | some z =>
    rw [hq] at hj
    obtain rfl := Option.some.inj hj
    obtain ⟨y, hy, hd⟩ := h3 j z hq
    exact ⟨y, hy, Lg.2 hd⟩
 | v x => exact Iff.rfl
 | lit l => exact Iff.rfl
 | imm l => exact Iff.rfl
 | lmap ag l => exact Iff.rfl
 | ptr n o => exact Iff.rfl
 | app n l => exact Iff.rfl
 | row n => exact Iff.rfl
 | mapr n => exact Iff.rfl
theorem xS {μ : bV} {β : Nat → Bk} {ρ : Nat → Nat} {l : List CV} {vs : Array Value} : tN μ β (l.map (CV.ren ρ)) vs ↔ tN μ (fun n => β (ρ n)) l vs := by
 constructor
 ·intro h
  exact ⟨by simpa using h.1, fun j x hj => let ⟨y, hy, hd⟩ := h.2 j (x.ren ρ) (by simp [hj]); ⟨y, hy, Bi.1 hd⟩⟩
 ·intro h
  refine ⟨by simpa using h.1, fun j x hj => ?_⟩
  rw [List.getElem?_map] at hj
  cases hq : l[j]? with
  | none => rw [hq] at hj; cases hj
  | some z =>
   rw [hq] at hj
   obtain rfl := Option.some.inj hj
   obtain ⟨y, hy, hd⟩ := h.2 j z hq
   exact ⟨y, hy, Bi.2 hd⟩
theorem Em {μ : bV} {β : Nat → Bk} {ρ : Nat → Nat} {x : AV} {v : Value} : yD μ β (x.ren1 ρ) v ↔ yD μ (fun n => β (ρ n)) x v := by
 cases x with
 | c x => exact Bi (x := x)
 | agg l => exact ⟨fun ⟨vs, h1, h2⟩ => ⟨vs, h1, xS.1 h2⟩, fun ⟨vs, h1, h2⟩ => ⟨vs, h1, xS.2 h2⟩⟩
 | tup l => exact Iff.rfl
 | cnd gs x => exact Iff.rfl
theorem Jg {μ : bV} {β : Nat → Bk} {ρ : Nat → Nat} {x : AV} {v : Value} : rT μ β (x.ren ρ) v ↔ rT μ (fun n => β (ρ n)) x v := by
 cases x with
 | c x => exact Bi (x := x)
 | agg l => exact Em (x := .agg l)
 | tup l =>
  constructor
  ·rintro ⟨vs, h1, h2, h3⟩
   refine ⟨vs, h1, by simpa using h2, fun j x hj => ?_⟩
   obtain ⟨y, hy, hd⟩ := h3 j (x.ren1 ρ) (by simp [hj])
   exact ⟨y, hy, Em.1 hd⟩
  ·rintro ⟨vs, h1, h2, h3⟩
   refine ⟨vs, h1, by simpa using h2, fun j x hj => ?_⟩
   rw [List.getElem?_map] at hj
   cases hq : l[j]? with
   | none => rw [hq] at hj; cases hj
   | some z =>
    rw [hq] at hj
    obtain rfl := Option.some.inj hj
    obtain ⟨y, hy, hd⟩ := h3 j z hq
    exact ⟨y, hy, Em.2 hd⟩
 | cnd gs x => exact Iff.rfl
theorem zQ {μ : bV} {β : Nat → Bk} {x : AV} {v : Value} (h : rT μ β x v) : cP μ β x v := by
 cases x with
 | cnd gs x => exact h.elim
 | c x => exact h
 | agg l => exact h
 | tup l => exact h
theorem Ht {μ : bV} {β : Nat → Bk} {x : AV} {v : Value} (hp : x.plain = true) (h : cP μ β x v) : rT μ β x v := by
 cases x with
 | cnd gs x => cases hp
 | c x => exact h
 | agg l => exact h
 | tup l => exact h
theorem Ql {ρ : Nat → Nat} {x : AV} : (x.ren ρ).plain = x.plain := by cases x <;> rfl
theorem rM {μ : bV} {β : Nat → Bk} {ρ : Nat → Nat} {x : AV} {v : Value} (hp : x.plain = true) : cP μ β (x.ren ρ) v ↔ cP μ (fun n => β (ρ n)) x v :=
 ⟨fun h => zQ (Jg.1 (Ht (by rw [Ql]; exact hp) h)), fun h => zQ (Jg.2 (Ht hp h))⟩
theorem Ax {μ : bV} {β : Nat → Bk} {W : World} {k : Bk} {ρ : Nat → Nat} {o : aY} : oN μ β W k (o.ren ρ) ↔ oN μ (fun n => β (ρ n)) W k o := by
 cases o with
 | blk T l => exact ⟨fun ⟨h1, vs, h2, h3⟩ => ⟨h1, vs, h2, xS.1 h3⟩, fun ⟨h1, vs, h2, h3⟩ => ⟨h1, vs, h2, xS.2 h3⟩⟩
 | tok T sz e => exact Iff.rfl
 | vec T sz l => exact Iff.rfl
 | map ag l => exact Iff.rfl
theorem yA {μ : bV} {b : Nat} {ρ : Nat → Nat} {o : aY} : qR μ b (o.ren ρ) ↔ qR μ b o := by cases o <;> exact Iff.rfl
theorem Mm {ρ : Nat → Nat} {x : CV} : (x.ren1 ρ).ments1 = x.ments1.map ρ := by cases x <;> rfl
theorem yG {ρ : Nat → Nat} {x : CV} : (x.ren ρ).ments = x.ments.map ρ := by
 cases x with
 | fn f caps => simp only [CV.ren, CV.ments, List.flatMap_map, List.map_flatMap, Mm]
 | _ => rfl
theorem wG {ρ : Nat → Nat} {l : List CV} : (l.map (CV.ren ρ)).flatMap CV.ments = (l.flatMap CV.ments).map ρ := by
 simp only [List.flatMap_map, List.map_flatMap, yG]
theorem Lx {ρ : Nat → Nat} {x : AV} : (x.ren1 ρ).ments1 = x.ments1.map ρ := by
 cases x with
 | c x => exact yG
 | agg l => exact wG
 | tup l => rfl
 | cnd gs x => rfl
theorem Dd {ρ : Nat → Nat} {x : AV} (hp : x.plain = true) : (x.ren ρ).ments = x.ments.map ρ := by
 cases x with
 | c x => exact yG
 | agg l => exact wG
 | tup l =>
  show (l.map (AV.ren1 ρ)).flatMap AV.ments1 = (l.flatMap AV.ments1).map ρ
  simp only [List.flatMap_map, List.map_flatMap, Lx]
 | cnd gs x => cases hp
theorem Dy {ρ : Nat → Nat} {o : aY} : (o.ren ρ).ments = o.ments.map ρ := by
 cases o with
 | blk T l => exact wG
 | _ => rfl
def Jr (μ : bV) (l : List CV) (vs : Array Value) : Prop := vs.size = l.length ∧ ∀ (j : Nat) (x : CV), l[j]? = some x → ∃ y, vs[j]? = some y ∧ cA μ x y
def nF (μ : bV) : AV → Value → Prop
 | .c x, v => cA μ x v
 | .agg l, v => ∃ vs, v = .agg vs ∧ Jr μ l vs
 | _, _ => False
def vY (μ : bV) : AV → Value → Prop
 | .tup l, v => ∃ vs : Array Value, v = .tuple vs ∧ vs.size = l.length ∧ ∀ (j : Nat) (x : AV), l[j]? = some x → ∃ y, vs[j]? = some y ∧ nF μ x y
 | x, v => nF μ x v
theorem Jr.mono {μ μ' : bV} (h : μ.le μ') {l : List CV} {vs : Array Value} (hd : Jr μ l vs) : Jr μ' l vs := ⟨hd.1, fun j x hj => let ⟨y, hy, k⟩ := hd.2 j x hj; ⟨y, hy, k.mono h⟩⟩
theorem nF.mono {μ μ' : bV} (h : μ.le μ') {x : AV} {v : Value} (hd : nF μ x v) : nF μ' x v := by
 cases x with
 | c x => exact cA.mono h hd
 | agg l => exact let ⟨vs, h1, h2⟩ := hd; ⟨vs, h1, h2.mono h⟩
 | tup l => exact hd.elim
 | cnd gs x => exact hd.elim
theorem vY.mono {μ μ' : bV} (h : μ.le μ') {x : AV} {v : Value} (hd : vY μ x v) : vY μ' x v := by
 cases x with
 | tup l => exact let ⟨vs, h1, h2, h3⟩ := hd; ⟨vs, h1, h2, fun j x hj => let ⟨y, hy, k⟩ := h3 j x hj; ⟨y, hy, k.mono h⟩⟩
 | c x => exact nF.mono (x := .c x) h hd
 | agg l => exact nF.mono (x := .agg l) h hd
 | cnd gs x => exact hd.elim
theorem nF.den {μ : bV} {β : Nat → Bk} {x : AV} {v : Value} (hd : nF μ x v) : yD μ β x v := by
 cases x with
 | c x => exact gO (β := β) hd
 | agg l => exact let ⟨vs, h1, h2, h3⟩ := hd; ⟨vs, h1, h2, fun j x hj => let ⟨y, hy, k⟩ := h3 j x hj; ⟨y, hy, gO k⟩⟩
 | tup l => exact hd.elim
 | cnd gs x => exact hd.elim
theorem vY.denT {μ : bV} {β : Nat → Bk} {x : AV} {v : Value} (hd : vY μ x v) : rT μ β x v := by
 cases x with
 | tup l => exact let ⟨vs, h1, h2, h3⟩ := hd; ⟨vs, h1, h2, fun j x hj => let ⟨y, hy, k⟩ := h3 j x hj; ⟨y, hy, k.den⟩⟩
 | c x => exact nF.den (x := .c x) (β := β) hd
 | agg l => exact nF.den (x := .agg l) (β := β) hd
 | cnd gs x => exact hd.elim
theorem vY.den {μ : bV} {β : Nat → Bk} {x : AV} {v : Value} (hd : vY μ x v) : cP μ β x v := zQ hd.denT
theorem Cu {μ : bV} {β : Nat → Bk} {x y : AV} {v : Value} (hp : x.pub1 = some y) (h : yD μ β x v) : nF μ y v := by
 cases x with
 | c x =>
  simp only [AV.pub1] at hp
  split at hp
  ·rename_i z hz
   obtain rfl := Option.some.inj hp
   exact wV hz h
  ·cases hp
 | agg l =>
  simp only [AV.pub1] at hp
  split at hp
  ·rename_i r hr
   obtain rfl := Option.some.inj hp
   obtain ⟨vs, rfl, h1, h2⟩ := h
   obtain ⟨h3, h4⟩ := pW hr
   refine ⟨vs, rfl, by rw [h1, h3], fun j y hj => ?_⟩
   obtain ⟨x, hx, hxy⟩ := h4 j y hj
   obtain ⟨z, hz, hd⟩ := h2 j x hx
   exact ⟨z, hz, wV hxy hd⟩
  ·cases hp
 | tup l => exact h.elim
 | cnd gs x => exact h.elim
theorem Kk : ∀ {l l' : List AV}, uF l = some l' → l'.length = l.length ∧ ∀ (j : Nat) (y : AV), l'[j]? = some y → ∃ x, l[j]? = some x ∧ x.pub1 = some y
 | [], l', h => by simp only [uF, Option.some.injEq] at h; subst h; simp
 | x :: l, l', h => by
  simp only [uF] at h
  split at h
  ·rename_i y r hy hr
   obtain rfl := Option.some.inj h
   obtain ⟨h1, h2⟩ := Kk hr
   refine ⟨by simp [h1], fun j z hj => ?_⟩
   cases j with
   | zero => simp at hj; subst hj; exact ⟨x, rfl, hy⟩
   | succ j => exact h2 j z hj
  ·cases h
theorem hO {μ : bV} {β : Nat → Bk} {x y : AV} {v : Value} (hp : x.pub = some y) (h : cP μ β x v) : vY μ y v := by
 cases x with
 | tup l =>
  simp only [AV.pub] at hp
  split at hp
  ·rename_i r hr
   obtain rfl := Option.some.inj hp
   obtain ⟨vs, rfl, h1, h2⟩ := h
   obtain ⟨h3, h4⟩ := Kk hr
   refine ⟨vs, rfl, by rw [h1, h3], fun j y hj => ?_⟩
   obtain ⟨x, hx, hxy⟩ := h4 j y hj
   obtain ⟨z, hz, hd⟩ := h2 j x hx
   exact ⟨z, hz, Cu hxy hd⟩
  ·cases hp
 | c x =>
  have := Cu (x := .c x) (y := y) (β := β) hp h
  cases y with
  | tup l => exact this.elim
  | cnd gs x => exact this.elim
  | c y => exact this
  | agg l => exact this
 | agg l =>
  have := Cu (x := .agg l) (y := y) (β := β) hp h
  cases y with
  | tup l => exact this.elim
  | cnd gs x => exact this.elim
  | c y => exact this
  | agg l => exact this
 | cnd gs x => cases hp
theorem Mp {μ : bV} {x : CV} {v : Value} (h : cA μ x v) : x.ments1 = [] := by
 cases x with
 | ptr n o => nomatch h
 | app n l => nomatch h
 | row n => nomatch h
 | mapr n => nomatch h
 | _ => rfl
theorem zG {μ : bV} {x : CV} {v : Value} (h : cA μ x v) : x.ments = [] := by
 cases x with
 | ptr n o => nomatch h
 | app n l => nomatch h
 | row n => nomatch h
 | mapr n => nomatch h
 | fn f caps =>
  generalize hq : CV.fn f caps = q at h
  cases h with
  | fn f' caps' vs w hn hw hd =>
   injection hq with h1 h2
   subst h1 h2
   simp only [CV.ments]
   rw [List.flatMap_eq_nil_iff]
   intro x hx
   obtain ⟨j, hj⟩ := List.getElem?_of_mem hx
   exact Mp (hd j x hj)
  | _ => cases hq
 | _ => rfl
theorem Eg {μ : bV} {l : List CV} {vs : Array Value} (h : Jr μ l vs) : l.flatMap CV.ments = [] := by
 rw [List.flatMap_eq_nil_iff]
 intro x hx
 obtain ⟨j, hj⟩ := List.getElem?_of_mem hx
 obtain ⟨y, _, hd⟩ := h.2 j x hj
 exact zG hd
theorem Mn {μ : bV} {A : AV} {v : Value} (h : nF μ A v) : A.ments1 = [] := by
 cases A with
 | c x => exact zG (x := x) h
 | agg l => obtain ⟨vs, _, h2⟩ := h; exact Eg h2
 | tup l => rfl
 | cnd gs x => rfl
theorem Di {μ : bV} {A : AV} {v : Value} (h : vY μ A v) : A.ments = [] := by
 cases A with
 | c x => exact zG (x := x) h
 | agg l => obtain ⟨vs, _, h2⟩ := h; exact Eg h2
 | tup l =>
  obtain ⟨vs, _, _, h3⟩ := h
  show l.flatMap AV.ments1 = []
  rw [List.flatMap_eq_nil_iff]
  intro x hx
  obtain ⟨j, hj⟩ := List.getElem?_of_mem hx
  obtain ⟨y, _, hd⟩ := h3 j x hj
  exact Mn hd
 | cnd gs x => exact h.elim
def oU (μ : bV) (β : Nat → Bk) (args : List AV) (vs : List Value) : Prop := vs.length = args.length ∧ ∀ (i : Nat) (A : AV), args[i]? = some A → ∃ v, vs[i]? = some v ∧ cP μ β A v
structure Vx (G : Nat → Option aY) (β : Nat → Bk) (μ : bV) (W : World) : Prop where
 own : ∀ n o, G n = some o → oN μ β W (β n) o
 inj : ∀ n m o p, G n = some o → G m = some p → (β n).nil = false → (β m).nil = false → (β n).blk = (β m).blk → n = m
 sep : ∀ n o, G n = some o → (β n).nil = false → qR μ (β n).blk o
def vQ (G : Nat → Option aY) (β : Nat → Bk) (b : Nat) : Prop := ∃ n o, G n = some o ∧ (β n).nil = false ∧ (β n).blk = b
structure Left (k : Nat) (G : Nat → Option aY) (β : Nat → Bk) (μ : bV) (W : World) (G' : Nat → Option aY) (β' : Nat → Bk) (μ' : bV) (W' : World) : Prop where
 owns : Vx G' β' μ' W'
 imm : fF μ' W'
 le : μ.le μ'
 fix : ∀ n, n < k → β' n = β n
 os : W'.os = W.os
 tape : W'.tape = W.tape
 output : W'.output = W.output
 size : W.heap.size ≤ W'.heap.size
 keep : ∀ b, b < W.heap.size → ¬ vQ G β b → W'.heap[b]? = W.heap[b]?
 loc : ∀ n o, G' n = some o → (β' n).nil = false → W.heap.size ≤ (β' n).blk ∨ vQ G β (β' n).blk
 newc : ∀ b j v, μ'.c b j = some v → μ.c b j = some v ∨ W.heap.size ≤ b ∨ vQ G β b
 newm : ∀ b x, μ'.m b = some x → μ.m b = some x ∨ W.heap.size ≤ b ∨ vQ G β b
def Zq (E : oD) (F : FuncId) (k : Nat) (args : List AV) (G : Nat → Option aY) (Q : AV → (Nat → Option aY) → Prop) : Prop :=
 ∀ (β : Nat → Bk) (μ : bV) (W : World) (vs : List Value), fF μ W → E.globOk μ → Vx G β μ W → oU μ β args vs →
  Calls E.P F vs.toArray W fun e W' => ∃ v r G' β' μ', e = .returned v ∧ Q r G' ∧ cP μ' β' r v ∧ Left k G β μ W G' β' μ' W'
def Qz (E : oD) (F : FuncId) (args : List AV) (Q : AV → Prop) : Prop := Zq E F 0 args (fun _ => none) fun r _ => ∃ r', r.pub = some r' ∧ Q r'
theorem Qz.mono {E : oD} {F : FuncId} {args : List AV} {Q Q' : AV → Prop} (h : Qz E F args Q) (hq : ∀ r, Q r → Q' r) : Qz E F args Q' := by
 intro β μ W vs h1 h2 h3 h4
 refine (h β μ W vs h1 h2 h3 h4).mono ?_
 rintro e W' ⟨v, r, G', β', μ', he, ⟨r', hr', hQ⟩, h5⟩
 exact ⟨v, r, G', β', μ', he, ⟨r', hr', hq r' hQ⟩, h5⟩
def El (C : bP) (s : St) : ResultVar → Option AV
 | .tmp t => s.fr t
 | .cell t T => match s.fr t, C.E.ti T with
  | some (.c (.ptr n o)), some i => match s.H n with
   | some (.blk _ l) => cut i.k.agg i.size (l.drop o)
   | _ => none
  | _, _ => none
def Hg (C : bP) (s : St) : List ResultVar → Option (List AV)
 | [] => some []
 | x :: l => match El C s x, Hg C s l with
  | some y, some r => some (y :: r)
  | _, _ => none
def St.res (C : bP) (s : St) (l : List ResultVar) : Option AV :=
 match Hg C s l with
 | some [x] => some x
 | some l => if l.all (fun | .c _ => true | .agg _ => true | _ => false) then some (.tup l) else none
 | none => none
def yO (tmps : Array Value) : ResultVar → Sem Value
 | .tmp t => pure (tmps.getD t undef)
 | .cell a t => do loadVar t (← asAddr (tmps.getD a undef))
theorem Dw (fn : Func) (tmps : Array Value) : results fn tmps = (do let vs ← fn.results.mapM (yO tmps); pure (if h : vs.size = 1 then vs[0] else .tuple vs)) := by
 unfold results
 congr 1
theorem Mg {C : bP} {s : St} {U : Nat → Prop} {β : Nat → Bk} {μ : bV} {a : Act} {W : World} (h : nI C s U β μ a W) {x : ResultVar} {A : AV} (hx : El C s x = some A) :
  ∃ y, (yO a.tmps x).run C.E.P W = .ok y W ∧ cP μ β A y := by
 cases x with
 | tmp t =>
  obtain ⟨v, hv, hd⟩ := h.f.den t A hx
  exact ⟨v, by simp [yO, hv], hd⟩
 | cell t T =>
  simp only [El] at hx
  split at hx
  ·rename_i n o i ht hT
   split at hx
   ·rename_i T' l hH
    obtain ⟨v, hv, hd⟩ := h.f.den t _ ht
    have e1 := nW hd
    obtain ⟨y, hy, hyd⟩ := xR hT (W := W) (b := (β n).blk) (o := o) (μ := μ) (β := β) (l := l.drop o) (fun j x hj => by
     rw [List.getElem?_drop] at hj
     exact (Fw h.w hH hj).2) hx
    refine ⟨y, ?_, hyd⟩
    have : a.tmps.getD t undef = .pointer (some ⟨(β n).blk, o, none⟩) := by rw [← e1]; simp [hv]
    simp only [yO, this, asAddr]
    exact hy
   ·cases hx
  ·cases hx
theorem Kc {C : bP} {s : St} {U : Nat → Prop} {β : Nat → Bk} {μ : bV} {a : Act} {W : World} (h : nI C s U β μ a W) : ∀ {l : List ResultVar} {r : List AV}, Hg C s l = some r →
  ∃ ys : List Value, (l.mapM (yO a.tmps)).run C.E.P W = .ok ys W ∧ ys.length = r.length ∧ ∀ (j : Nat) (A : AV), r[j]? = some A → ∃ y, ys[j]? = some y ∧ cP μ β A y
 | [], r, hl => by
  simp only [Hg, Option.some.injEq] at hl
  subst hl
  exact ⟨[], by simp, rfl, fun j A hj => by simp at hj⟩
 | x :: l, r, hl => by
  simp only [Hg] at hl
  split at hl
  ·rename_i A r' hA hr'
   obtain rfl := Option.some.inj hl
   obtain ⟨y, hy, hyd⟩ := Mg h hA
   obtain ⟨ys, h1, h2, h3⟩ := Kc h hr'
   refine ⟨y :: ys, ?_, by simp [h2], fun j B hj => ?_⟩
   ·rw [List.mapM_cons, Sem.run_bind, hy, Result.andThen_ok, Sem.run_bind, h1]
    rfl
   ·cases j with
    | zero => simp at hj; subst hj; exact ⟨y, rfl, hyd⟩
    | succ j => exact h3 j B hj
  ·cases hl
theorem Vi {C : bP} {s : St} {U : Nat → Prop} {β : Nat → Bk} {μ : bV} {a : Act} {W : World} (h : nI C s U β μ a W) {fn : Func} {A : AV} (hA : s.res C fn.results.toList = some A) :
  ∃ v, (results fn a.tmps).run C.E.P W = .ok v W ∧ cP μ β A v := by
 unfold St.res at hA
 rw [Dw]
 cases hr : Hg C s fn.results.toList with
 | none => rw [hr] at hA; cases hA
 | some r =>
  obtain ⟨ys, h1, h2, h3⟩ := Kc h hr
  have hm : (fn.results.mapM (yO a.tmps)).run C.E.P W = .ok ys.toArray W := by
   rw [← Array.toArray_toList (xs := fn.results), List.mapM_toArray]
   simp only [Sem.run_map, h1, Result.andThen_ok]
  rw [Sem.run_bind, hm, Result.andThen_ok]
  rw [hr] at hA
  by_cases hl : r.length = 1
  ·obtain ⟨x, rfl⟩ := List.length_eq_one_iff.1 hl
   simp only [Option.some.injEq] at hA
   subst hA
   obtain ⟨y, rfl⟩ := List.length_eq_one_iff.1 (h2.trans hl)
   obtain ⟨z, hz, hzd⟩ := h3 0 x rfl
   simp at hz
   subst hz
   exact ⟨y, by simp, hzd⟩
  ·have hA2 : (if r.all (fun | .c _ => true | .agg _ => true | _ => false) then some (AV.tup r) else none) = some A := by
    cases r with
    | nil => exact hA
    | cons x r =>
     cases r with
     | nil => simp at hl
     | cons y r => exact hA
   split at hA2
   ·rename_i hall
    obtain rfl := Option.some.inj hA2
    have hs : ¬ ys.toArray.size = 1 := by simp; omega
    refine ⟨.tuple ys.toArray, by rw [dif_neg hs]; rfl, ys.toArray, rfl, by simp [h2], fun j B hj => ?_⟩
    obtain ⟨y, hy, hyd⟩ := h3 j B hj
    refine ⟨y, by simpa using hy, ?_⟩
    have := List.all_eq_true.1 hall B (List.mem_of_getElem? hj)
    cases B with
    | tup l => cases this
    | cnd gs x => cases this
    | c x => exact hyd
    | agg l => exact hyd
   ·cases hA2
def Fin (C : bP) (rs : List ResultVar) (Q : AV → (Nat → Option aY) → Prop) : Exit → St → Prop := fun e s' => (e = .ret ∨ e = .normal) ∧ ∃ A, s'.res C rs = some A ∧ Q A s'.H
theorem WR.putObj {C : bP} {H : Nat → Option aY} {U : Nat → Prop} {β : Nat → Bk} {μ : bV} {W : World} (h : WR C H U β μ W) {l : Nat} (o : Obj) (h1 : C.W0.heap.size ≤ l) (ha : qD l H β μ W) : WR C H U β μ (W.putObj l o) := by
 refine ⟨fun b hb hF => ?_, by rw [World.putObj_size]; exact h.size, h.os, h.tape, h.output, fun n ob hn => ?_, h.inj, ⟨fun b j v hb => ?_, fun b es clk hb => ?_⟩, h.sep, h.loc, h.used, h.mu, h.newc, h.newm, h.glob, h.fix⟩
 ·rw [World.putObj_heap_other (by omega)]; exact h.keep b hb hF
 ·exact (h.own n ob hn).mono (bV.le_refl μ) (fun _ _ => rfl) fun h0 => World.putObj_heap_other (ha.own n ob hn h0)
 ·by_cases e : b = l
  ·subst e; rw [ha.c] at hb; cases hb
  ·rw [World.putObj_heap_other e]; exact h.imm.c b j v hb
 ·by_cases e : b = l
  ·subst e; rw [ha.m] at hb; cases hb
  ·rw [World.putObj_heap_other e]; exact h.imm.m b es clk hb
theorem qD.put {D : Nat} {H : Nat → Option aY} {β : Nat → Bk} {μ : bV} {W : World} (h : qD D H β μ W) (l : Nat) (o : Obj) : qD D H β μ (W.putObj l o) := ⟨h.own, h.c, h.m⟩
theorem xG {C : bP} {fn : Func} {H : Nat → Option aY} {U : Nat → Prop} {β : Nat → Bk} {μ : bV} {tmps : Array Value} {R : Ending → World → Prop} : ∀ (ms : List Nat) (W : World), ms.Nodup → WR C H U β μ W → (∀ D, D ∈ ms → C.W0.heap.size ≤ D ∧ qD D H β μ W ∧ W.heap[D]? = some (.deferred (some []))) →
  (∀ W', WR C H U β μ W' → ∃ v, (results fn tmps).run C.E.P W' = .ok v W' ∧ R (.returned v) W') → LeavesInM Fence.wide 0 C.E.P fn tmps R (ms.map sS) .returning W
 | [], W, _, hw, _, h => h W hw
 | D :: ms, W, hn, hw, hm, h => by
  obtain ⟨h1, h2, h3⟩ := hm D (List.mem_cons_self ..)
  have hd := List.nodup_cons.1 hn
  refine ⟨by simp, .inl ⟨D, _, rfl, run_takeDeferred h3, xG ms _ hd.2 (hw.putObj _ h1 h2) (fun E hE => ?_) h⟩⟩
  obtain ⟨a, b, c⟩ := hm E (List.mem_cons_of_mem _ hE)
  exact ⟨a, b.put _ _, (World.putObj_heap_other (by intro e; subst e; exact hd.1 hE)).trans c⟩
theorem Qh (C D : bP) (s : St) (x : ResultVar) : El (C.on D) s x = El C s x := by cases x <;> rfl
theorem Ob (C D : bP) (s : St) : ∀ l, Hg (C.on D) s l = Hg C s l
 | [] => rfl
 | x :: l => by simp only [Hg, Qh, Ob C D s l]
theorem Ye (C D : bP) (s : St) (l : List ResultVar) : s.res (C.on D) l = s.res C l := by simp only [St.res, Ob]
theorem fn_of {E : oD} {F : FuncId} {fn : Func} {c : Code} {k : Nat} {args : List AV} {G : Nat → Option aY} {Q : AV → (Nat → Option aY) → Prop} (hf : E.P.funcs[F]? = some fn) (hb : fn.body = some c) (hn : args.length ≤ fn.ntmps) (hm : ∀ A, A ∈ args → ∀ n, n ∈ A.ments → n < k) (hG : ∀ n o, G n = some o → n < k ∧ ∀ m, m ∈ o.ments → m < k)
  (h : AW (bP.st E fn.ntmps k none) c ⟨fun t => args[t]?, G, k⟩ (Fin (bP.st E fn.ntmps k none) fn.results.toList Q)) : Zq E F k args G Q := by
 intro β μ W vs himm hglob hown ⟨hlen, hargs⟩
 rw [← callsIn_wide (n := 0)]
 refine callsIn_of_wp_marks hf hb trivial (wpIn_mono (h ⟨E, fn.ntmps, W, vQ G β, μ, k, β, none, []⟩ β μ _ W ⟨⟨rfl, ?_, ?_, ?_⟩, ?_⟩) ?_)
 ·show (vs.toArray ++ Array.replicate _ undef).size = fn.ntmps
  simp only [Array.size_append, Array.size_replicate, List.size_toArray]
  omega
 ·intro t x ht
  obtain ⟨v, hv, hd⟩ := hargs t x ht
  exact ⟨v, by rw [Array.getElem?_append_left (by have := (List.getElem?_eq_some_iff.1 hv).1; simpa using this)]; simpa using hv, hd⟩
 ·intro t x ht n hn
  exact hm x (List.mem_of_getElem? ht) n hn
 ·exact ⟨fun b _ _ => rfl, Nat.le_refl _, rfl, rfl, rfl, hown.own, hown.inj, himm, hown.sep, fun n o hn h0 => .inr ⟨n, o, hn, h0, rfl⟩, hG, bV.le_refl μ, fun b j v hb => .inl hb, fun b x hb => .inl hb, hglob, fun n hn => ⟨hn, rfl⟩⟩
 ·rintro e a' W' ⟨D', s', β', μ', hle, ⟨he, A, hA, hQ⟩, hr⟩
  obtain ⟨ms, hds, hnd, hms⟩ := hle.ds
  have hd : a'.defers = ms.map sS := by rw [hr.f.defers]; exact hds.trans (List.append_nil _)
  have key : LeavesInM Fence.wide 0 E.P fn a'.tmps (fun e W' => ∃ v r G' β' μ', e = .returned v ∧ Q r G' ∧ cP μ' β' r v ∧ Left k G β μ W G' β' μ' W') (ms.map sS) .returning W' := by
   refine xG (C := (bP.st E fn.ntmps k none).on ⟨E, fn.ntmps, W, vQ G β, μ, k, β, none, []⟩) (H := s'.H) (U := (· < s'.lim)) (β := β') (μ := μ') ms W' hnd (hle.wr _ _ _ _ _ hr.w) (fun D hD => ?_) fun W2 hw => ?_
   ·obtain ⟨h1, h2, h3⟩ := hms D hD
    exact ⟨h1, h3 _ _ _ _ _ hr.w⟩
   ·obtain ⟨v, hv, hd⟩ := Vi (C := (bP.st E fn.ntmps k none).on ⟨E, fn.ntmps, W, vQ G β, μ, k, β, none, a'.defers⟩) ⟨⟨rfl, hr.f.size, hr.f.den, hr.f.used⟩, ⟨hw.keep, hw.size, hw.os, hw.tape, hw.output, hw.own, hw.inj, hw.imm, hw.sep, hw.loc, hw.used, hw.mu, hw.newc, hw.newm, hw.glob, hw.fix⟩⟩ ((Ye _ _ _ _).trans hA)
    exact ⟨v, hv, v, A, s'.H, β', μ', rfl, hQ, hd, ⟨hw.own, hw.inj, hw.sep⟩, hw.imm, hw.mu, fun n hn => (hw.fix n hn).2, hw.os, hw.tape, hw.output, hw.size, hw.keep, hw.loc, hw.newc, hw.newm⟩
  rw [← hd] at key
  rcases he with rfl | rfl
  ·exact key
  ·exact key
structure bQ (E : oD) (F : FuncId) : Prop where
 h : ∃ fn, E.P.funcs[F]? = some fn ∧ (fn.name == "runtime.NumGoroutine") = false ∧ fn.body.isNone = false
theorem Dj {E : oD} {F : FuncId} (hF : bQ E F) (args : Array Value) (W : World) : (callFunc F args).run E.P W = .ok (.enter F args) W := by
 obtain ⟨fn, h1, h2, h3⟩ := hF.h
 have hp : (program).run E.P W = .ok E.P W := rfl
 unfold callFunc
 rw [Sem.run_bind, hp, Result.andThen_ok, h1]
 simp only [h2, h3, Bool.false_eq_true, if_false]
 rfl
theorem wH {E : oD} {a : Act} {o : Oper} {F : FuncId} {args : Array Operand} {ts : Array TypeId} {W : World} (hF : bQ E F) (ho : o.op = .call ⟨.value (.func F), args, ts⟩) :
  (execOp a.eval o).run E.P W = .ok (.enter F (args.map a.eval)) W := by
 simp only [execOp, ho, resolve, Act.eval, Deferred.ofValue]
 show ((invoke (.fn (.func F) #[]) (#[] ++ args.map a.eval))).run E.P W = _
 simp only [invoke, Array.append_empty, Array.empty_append]
 exact Dj hF _ W
def Oa (C : bP) (s : St) : List Operand → Option (List AV)
 | [] => some []
 | x :: l => match s.ev C x, Oa C s l with
  | some y, some r => some (y :: r)
  | _, _ => none
theorem xL {C : bP} {s : St} : ∀ {l : List Operand} {r : List AV}, Oa C s l = some r → r.length = l.length ∧ ∀ (j : Nat) (A : AV), r[j]? = some A → ∃ x, l[j]? = some x ∧ s.ev C x = some A
 | [], r, h => by simp only [Oa, Option.some.injEq] at h; subst h; simp
 | x :: l, r, h => by
  simp only [Oa] at h
  split at h
  ·rename_i y r' hy hr
   obtain rfl := Option.some.inj h
   obtain ⟨h1, h2⟩ := xL hr
   refine ⟨by simp [h1], fun j z hj => ?_⟩
   cases j with
   | zero => simp at hj; subst hj; exact ⟨x, rfl, hy⟩
   | succ j => exact h2 j z hj
  ·cases h
end Go.Bm
namespace Go.Bm
open Go
structure Us (k : Nat) (σ : Nat → Nat) (nw : Option Nat) (nm : Nat) (Gf : List (Nat × aY)) (H H' : Nat → Option aY) : Prop where
 par : ∀ n, n < k → H' (σ n) = (Gf.lookup n).map (aY.ren σ)
 new : ∀ k', nw = some k' → H' nm = (Gf.lookup k').map (aY.ren σ)
 oth : ∀ j, (∀ n, n < k → σ n ≠ j) → (∀ k', nw = some k' → j ≠ nm) → H' j = H j
theorem Sg {μ μ' : bV} {b : Nat} {o : aY} (hc : ∀ j v, μ'.c b j = some v → μ.c b j = some v) (hm : ∀ x, μ'.m b = some x → μ.m b = some x) (h : qR μ b o) : qR μ' b o := by
 have hc' : ∀ j, μ.c b j = none → μ'.c b j = none := fun j hj => by
  cases hq : μ'.c b j with
  | none => rfl
  | some v => rw [hc j v hq] at hj; cases hj
 have hm' : μ.m b = none → μ'.m b = none := fun hj => by
  cases hq : μ'.m b with
  | none => rfl
  | some v => rw [hm v hq] at hj; cases hj
 cases o with
 | tok T sz e => exact ⟨hm' h.1, fun j hj => hc' j (h.2 j hj)⟩
 | blk T l => exact ⟨hm' h.1, fun j => hc' j (h.2 j)⟩
 | vec T sz l => exact ⟨hm' h.1, fun j => hc' j (h.2 j)⟩
 | map ag l => exact ⟨hm' h.1, fun j => hc' j (h.2 j)⟩
def xH (nw : Option Nat) (nm : Nat) : List Nat := match nw with | some _ => [nm] | none => []
def sY (β : Nat → Bk) (βc : Nat → Bk) (nw : Option Nat) (nm : Nat) : Nat → Bk := match nw with | some k' => vK β nm (βc k') | none => β
theorem WR.call {C : bP} {H H' : Nat → Option aY} {U : Nat → Prop} {β : Nat → Bk} {μ μ' : bV} {W W' : World} (h : WR C H U β μ W) {k : Nat} {σ : Nat → Nat} {Gc G'c : Nat → Option aY} {β'c : Nat → Bk} (hl : Left k Gc (fun n => β (σ n)) μ W G'c β'c μ' W')
  (hG : ∀ n o, Gc n = some o → H (σ n) = some (o.ren σ)) (hk : ∀ n, n < k ↔ ∃ o, Gc n = some o) (hσ : ∀ n m, n < k → m < k → σ n = σ m → n = m)
  {Gf : List (Nat × aY)} {nw : Option Nat} {nm : Nat} (hGf : ∀ n o, Gf.lookup n = some o → G'c n = some o ∧ ∀ m, m ∈ o.ments → m < k ∨ nw = some m) (hnw : ∀ k', nw = some k' → k ≤ k' ∧ σ k' = nm ∧ ¬ U nm) (hb : Us k σ nw nm Gf H H') :
  WR C H' (fun j => U j ∨ j ∈ xH nw nm) (sY β β'c nw nm) μ' W' := by
 have hU : ∀ n, n < k → U (σ n) := fun n hn => by
  obtain ⟨o, ho⟩ := (hk n).1 hn
  exact (h.used _ _ (hG n o ho)).1
 have hbo : ∀ j, U j → sY β β'c nw nm j = β j := fun j hj => by
  unfold sY
  split
  ·rename_i k'
   exact eP (fun e => (hnw k' rfl).2.2 (e ▸ hj))
  ·rfl
 have hbp : ∀ n, n < k → sY β β'c nw nm (σ n) = β'c n := fun n hn => (hbo _ (hU n hn)).trans (hl.fix n hn).symm
 have hbn : ∀ k', nw = some k' → sY β β'c nw nm (σ k') = β'c k' := fun k' he => by
  subst he
  rw [(hnw k' rfl).2.1]
  exact dT ..
 have hbm : ∀ m, m < k ∨ nw = some m → sY β β'c nw nm (σ m) = β'c m := fun m hm => hm.elim (hbp m) (hbn m)
 have hlent : ∀ j o, H j = some o → (∀ n, n < k → σ n ≠ j) → (β j).nil = false → ¬ vQ Gc (fun n => β (σ n)) (β j).blk := fun j o hj hne h0 ⟨n, p, hn, hn0, he⟩ =>
  hne n ((hk n).2 ⟨p, hn⟩) (h.inj _ _ _ _ (hG n p hn) hj hn0 h0 he)
 have hlentW : ∀ b, vQ Gc (fun n => β (σ n)) b → C.W0.heap.size ≤ b ∨ C.F b := fun b ⟨n, p, hn, hn0, he⟩ => by
  have he' : (β (σ n)).blk = b := he
  rw [← he']
  exact h.loc _ _ (hG n p hn) hn0
 have hcls : ∀ j o, H' j = some o → (∃ n p, j = σ n ∧ o = p.ren σ ∧ G'c n = some p ∧ sY β β'c nw nm j = β'c n ∧ (∀ m, m ∈ p.ments → m < k ∨ nw = some m) ∧ (n < k ∨ nw = some n)) ∨ (H j = some o ∧ (∀ n, n < k → σ n ≠ j) ∧ sY β β'c nw nm j = β j) := by
  intro j o hj
  by_cases h1 : ∃ n, n < k ∧ σ n = j
  ·obtain ⟨n, hn, rfl⟩ := h1
   rw [hb.par n hn] at hj
   simp only [Option.map_eq_some_iff] at hj
   obtain ⟨p, hp, rfl⟩ := hj
   obtain ⟨g1, g2⟩ := hGf n p hp
   exact .inl ⟨n, p, rfl, rfl, g1, hbp n hn, g2, .inl hn⟩
  ·by_cases h2 : ∃ k', nw = some k' ∧ j = nm
   ·obtain ⟨k', hk', rfl⟩ := h2
    rw [hb.new k' hk'] at hj
    simp only [Option.map_eq_some_iff] at hj
    obtain ⟨p, hp, rfl⟩ := hj
    obtain ⟨g1, g2⟩ := hGf k' p hp
    have hs := (hnw k' hk').2.1
    exact .inl ⟨k', p, hs.symm, rfl, g1, by have := hbn k' hk'; rw [hs] at this; exact this, g2, .inr hk'⟩
   ·have h1' : ∀ n, n < k → σ n ≠ j := fun n hn e => h1 ⟨n, hn, e⟩
    have h2' : ∀ k', nw = some k' → j ≠ nm := fun k' hk' e => h2 ⟨k', hk', e⟩
    rw [hb.oth j h1' h2'] at hj
    exact .inr ⟨hj, h1', hbo j (h.used j o hj).1⟩
 have hcross : ∀ n p j o, G'c n = some p → H j = some o → (∀ n, n < k → σ n ≠ j) → (β'c n).nil = false → (β j).nil = false → (β'c n).blk ≠ (β j).blk := fun n p j o hn hj hne h0 h0' he => by
  rcases hl.loc n p hn h0 with h1 | h1
  ·have := sJ h hj h0'; omega
  ·rw [he] at h1; exact hlent j o hj hne h0' h1
 refine ⟨fun b hbW hF => ?_, Nat.le_trans h.size hl.size, hl.os.trans h.os, hl.tape.trans h.tape, hl.output.trans h.output, fun j o hj => ?_, fun j j' o p hj hj' h0 h0' he => ?_, hl.imm, fun j o hj h0 => ?_, fun j o hj h0 => ?_, fun j o hj => ?_, bV.le_trans h.mu hl.le, fun b j v hv => ?_, fun b x hx => ?_, fun g l hg => (h.glob g l hg).mono hl.le, fun n hn => ⟨.inl (h.fix n hn).1, (hbo n (h.fix n hn).1).trans (h.fix n hn).2⟩⟩
 ·refine (hl.keep b (Nat.lt_of_lt_of_le hbW h.size) fun hle => ?_).trans (h.keep b hbW hF)
  rcases hlentW b hle with h1 | h1
  ·omega
  ·exact hF h1
 ·rcases hcls j o hj with ⟨n, p, rfl, rfl, hn, hβ, hm, _⟩ | ⟨hj', hne, hβ⟩
  ·rw [hβ]
   refine Ax.2 ((hl.owns.own n p hn).mono (bV.le_refl _) (fun m hm' => hbm m (hm m hm')) (fun _ => rfl))
  ·rw [hβ]
   exact (h.own j o hj').mono hl.le (fun m hm => hbo m ((h.used j o hj').2 m hm)) (fun h0 => hl.keep _ (sJ h hj' h0) (hlent j o hj' hne h0))
 ·rcases hcls j o hj with ⟨n, q, rfl, rfl, hn, hβ, hm, _⟩ | ⟨hj1, hne, hβ⟩
  ·rw [hβ] at h0 he
   rcases hcls j' p hj' with ⟨n', q', rfl, rfl, hn', hβ', hm', _⟩ | ⟨hj2, hne', hβ'⟩
   ·rw [hβ'] at h0' he
    rw [hl.owns.inj n n' q q' hn hn' h0 h0' he]
   ·rw [hβ'] at h0' he
    exact absurd he (hcross n q j' p hn hj2 hne' h0 h0')
  ·rw [hβ] at h0 he
   rcases hcls j' p hj' with ⟨n', q', rfl, rfl, hn', hβ', hm', _⟩ | ⟨hj2, hne', hβ'⟩
   ·rw [hβ'] at h0' he
    exact absurd he.symm (hcross n' q' j o hn' hj1 hne h0' h0)
   ·rw [hβ'] at h0' he
    exact h.inj j j' o p hj1 hj2 h0 h0' he
 ·rcases hcls j o hj with ⟨n, p, rfl, rfl, hn, hβ, hm, _⟩ | ⟨hj', hne, hβ⟩
  ·rw [hβ] at h0 ⊢
   exact yA.2 (hl.owns.sep n p hn h0)
  ·rw [hβ] at h0 ⊢
   have hlt := sJ h hj' h0
   refine Sg (fun i v hv => ?_) (fun x hx => ?_) (h.sep j o hj' h0)
   ·rcases hl.newc _ i v hv with h1 | h1 | h1
    ·exact h1
    ·omega
    ·exact absurd h1 (hlent j o hj' hne h0)
   ·rcases hl.newm _ x hx with h1 | h1 | h1
    ·exact h1
    ·omega
    ·exact absurd h1 (hlent j o hj' hne h0)
 ·rcases hcls j o hj with ⟨n, p, rfl, rfl, hn, hβ, hm, _⟩ | ⟨hj', hne, hβ⟩
  ·rw [hβ] at h0 ⊢
   rcases hl.loc n p hn h0 with h1 | h1
   ·exact .inl (Nat.le_trans h.size h1)
   ·exact hlentW _ h1
  ·rw [hβ] at h0 ⊢
   exact h.loc j o hj' h0
 ·have hin : ∀ m, m < k ∨ nw = some m → (U (σ m) ∨ σ m ∈ xH nw nm) := fun m hm => by
   rcases hm with hm | hm
   ·exact .inl (hU m hm)
   ·subst hm; exact .inr (by simp [xH, (hnw m rfl).2.1])
  rcases hcls j o hj with ⟨n, p, rfl, rfl, hn, hβ, hm, hn'⟩ | ⟨hj', hne, hβ⟩
  ·refine ⟨hin n hn', fun x hx => ?_⟩
   rw [Dy] at hx
   obtain ⟨m, hm', rfl⟩ := List.mem_map.1 hx
   exact hin m (hm m hm')
  ·exact ⟨.inl (h.used j o hj').1, fun x hx => .inl ((h.used j o hj').2 x hx)⟩
 ·rcases hl.newc b j v hv with h1 | h1 | h1
  ·exact h.newc b j v h1
  ·exact .inr (.inl (Nat.le_trans h.size h1))
  ·exact .inr (hlentW b h1)
 ·rcases hl.newm b x hx with h1 | h1 | h1
  ·exact h.newm b x h1
  ·exact .inr (.inl (Nat.le_trans h.size h1))
  ·exact .inr (hlentW b h1)
def uQ (σ : Nat → Nat) : List AV → List AV → Prop
 | [], [] => True
 | A :: As, B :: Bs => ((A.pub = some B) ∨ (A = B.ren σ ∧ B.plain = true)) ∧ uQ σ As Bs
 | _, _ => False
theorem sC {σ : Nat → Nat} : ∀ {As Bs : List AV}, uQ σ As Bs → As.length = Bs.length ∧ ∀ (j : Nat) (B : AV), Bs[j]? = some B → ∃ A, As[j]? = some A ∧ (A.pub = some B ∨ (A = B.ren σ ∧ B.plain = true))
 | [], [], _ => ⟨rfl, fun j B h => by simp at h⟩
 | A :: As, B :: Bs, ⟨h1, h2⟩ => by
  obtain ⟨h3, h4⟩ := sC h2
  refine ⟨by simp [h3], fun j C hj => ?_⟩
  cases j with
  | zero => simp at hj; subst hj; exact ⟨A, rfl, h1⟩
  | succ j => exact h4 j C hj
 | [], _ :: _, h => h.elim
 | _ :: _, [], h => h.elim
def cN (E : oD) (F : FuncId) (k : Nat) (args : List AV) (G : List (Nat × aY)) (r : AV) (Gf : List (Nat × aY)) : Prop :=
 Zq E F k args (fun n => G.lookup n) fun r' G' => (r' = r ∨ r'.pub = some r) ∧ ∀ n o, Gf.lookup n = some o → G' n = some o
def dL (σ : List (Nat × Nat)) (n : Nat) : Nat := match σ.lookup n with | some m => m | none => n
def jX (σ : Nat → Nat) (G Gf : List (Nat × aY)) (nw : Option Nat) : List (Nat × Option aY) :=
 G.map (fun p => (σ p.1, (Gf.lookup p.1).map (aY.ren σ))) ++ (match nw with | some k' => [(σ k', (Gf.lookup k').map (aY.ren σ))] | none => [])
structure yV (k : Nat) (σ : Nat → Nat) (nw : Option Nat) (nm : Nat) (G Gf : List (Nat × aY)) (H : Nat → Option aY) : Prop where
 own : ∀ p, p ∈ G → H (σ p.1) = some (p.2.ren σ)
 dom : ∀ n, n < k ↔ ∃ o, G.lookup n = some o
 inj : ∀ n m, n < k → m < k → σ n = σ m → n = m
 gf : ∀ p, p ∈ Gf → ∀ m, m ∈ p.2.ments → m < k ∨ nw = some m
 new : ∀ k', nw = some k' → k ≤ k' ∧ σ k' = nm
 ne : ∀ k', nw = some k' → ∀ n, n < k → σ n ≠ nm
theorem fI {α : Type} {t : Nat} {x : α} : ∀ {L : List (Nat × α)}, L.lookup t = some x → (t, x) ∈ L
 | [], h => by simp at h
 | p :: L, h => by
  rw [List.lookup_cons] at h
  split at h
  ·rename_i he
   obtain rfl := Option.some.inj h
   have : t = p.1 := by simpa using he
   rw [this]
   exact List.mem_cons_self ..
  ·exact List.mem_cons_of_mem _ (fI h)
theorem Ci {k : Nat} {σ : Nat → Nat} {nw : Option Nat} {nm : Nat} {G Gf : List (Nat × aY)} {H : Nat → Option aY} (h : yV k σ nw nm G Gf H) : Us k σ nw nm Gf H (fun n => match (jX σ G Gf nw).lookup n with | some o => o | none => H n) := by
 have hkey : ∀ p, p ∈ G → p.1 < k := fun p hp => by
  refine (h.dom p.1).2 ?_
  cases hq : G.lookup p.1 with
  | some o => exact ⟨o, rfl⟩
  | none =>
   exfalso
   have : ∀ (L : List (Nat × aY)), p ∈ L → L.lookup p.1 ≠ none := by
    intro L
    induction L with
    | nil => intro hp; cases hp
    | cons q L ih =>
     intro hp
     rw [List.lookup_cons]
     split
     ·simp
     ·rcases List.mem_cons.1 hp with rfl | hp
      ·rename_i hne; simp at hne
      ·exact ih hp
   exact this G hp hq
 have hmap : ∀ (L : List (Nat × aY)) (n : Nat), (∀ p, p ∈ L → p.1 < k) → n < k → (∃ o, L.lookup n = some o) → ∀ R, ((L.map (fun p => (σ p.1, (Gf.lookup p.1).map (aY.ren σ)))) ++ R).lookup (σ n) = some ((Gf.lookup n).map (aY.ren σ)) := by
  intro L n hL hn
  induction L with
  | nil => rintro ⟨o, ho⟩ R; simp at ho
  | cons q L ih =>
   rintro ⟨o, ho⟩ R
   rw [List.map_cons, List.cons_append, List.lookup_cons]
   by_cases e : σ n = σ q.1
   ·have : n = q.1 := h.inj n q.1 hn (hL q (List.mem_cons_self ..)) e
    subst this
    simp
   ·have e1 : (σ n == σ q.1) = false := by simpa using e
    have e2 : (n == q.1) = false := by
     rw [beq_eq_false_iff_ne]; intro e2; exact e (by rw [e2])
    rw [e1]
    rw [List.lookup_cons, e2] at ho
    exact ih (fun p hp => hL p (List.mem_cons_of_mem _ hp)) ⟨o, ho⟩ R
 have hno : ∀ (L : List (Nat × aY)) (j : Nat), (∀ p, p ∈ L → σ p.1 ≠ j) → ∀ R, ((L.map (fun p => (σ p.1, (Gf.lookup p.1).map (aY.ren σ)))) ++ R).lookup j = R.lookup j := by
  intro L j hL R
  induction L with
  | nil => rfl
  | cons q L ih =>
   rw [List.map_cons, List.cons_append, List.lookup_cons]
   have : (j == σ q.1) = false := by
    rw [beq_eq_false_iff_ne]; exact (hL q (List.mem_cons_self ..)).symm
   rw [this]
   exact ih fun p hp => hL p (List.mem_cons_of_mem _ hp)
 refine ⟨fun n hn => ?_, fun k' hk' => ?_, fun j h1 h2 => ?_⟩
 ·unfold jX
  simp only [hmap G n hkey hn ((h.dom n).1 hn)]
 ·subst hk'
  obtain ⟨h1, h2⟩ := h.new k' rfl
  unfold jX
  rw [hno G nm (fun p hp => h.ne k' rfl p.1 (hkey p hp))]
  simp [List.lookup, h2]
 ·unfold jX
  rw [hno G j (fun p hp => h1 p.1 (hkey p hp))]
  cases nw with
  | none => rfl
  | some k' =>
   have := h2 k' rfl
   have e : (j == σ k') = false := by rw [beq_eq_false_iff_ne, (h.new k' rfl).2]; exact this
   simp only [List.lookup_cons, e, List.lookup_nil]
def ResOk (k : Nat) (σ : Nat → Nat) (nw : Option Nat) (r v : AV) : Prop := r.pub = some v ∨ (v = r.ren σ ∧ r.plain = true ∧ ∀ m, m ∈ r.ments → m < k ∨ nw = some m)
theorem De {C : bP} {ops : Array Oper} {i : Nat} {o : Oper} {s : St} (hi : ops[i]? = some o) (hw : gB ops o s.fr = some true) (hd : ∀ d, o.dst = some d → d < C.n) {F : FuncId} {args : List Operand} {ts : Array TypeId} (ho : o.op = .call ⟨.value (.func F), args.toArray, ts⟩) (hF : bQ C.E F)
  {As Bs : List AV} (hA : Oa C s args = some As) {σ : Nat → Nat} (hB : uQ σ As Bs) {k : Nat} {G Gf : List (Nat × aY)} {r v : AV} (hc : cN C.E F k Bs G r Gf) {nw : Option Nat} {nm : Nat} (hok : yV k σ nw nm G Gf s.H) (hr : ResOk k σ nw r v) :
  tU C ops i o s (some v) (jX σ G Gf nw) (G.map fun p => σ p.1) (xH nw nm) := by
 intro s' U β μ a W hag hnew _ hrel Q K hK
 unfold wpOp
 simp only [hi]
 rw [if_pos (sQ hw hag hrel)]
 left
 unfold Oper.wp
 rw [wH hF ho, Oper.upon_enter]
 obtain ⟨ea, eb⟩ := xL hA
 obtain ⟨g1, g2⟩ := sC hB
 have hH : ∀ n p, G.lookup n = some p → s'.H (σ n) = some (p.ren σ) := fun n p hn => by
  have hm := fI hn
  rw [hag.2 (σ n) (List.mem_map.2 ⟨_, hm, rfl⟩)]
  exact hok.own _ hm
 have hargs : (args.toArray.map a.eval) = (args.map a.eval).toArray := by simp
 rw [hargs]
 have hden : oU μ (fun n => β (σ n)) Bs (args.map a.eval) := by
  refine ⟨by rw [List.length_map, ← g1, ea], fun j B hj => ?_⟩
  obtain ⟨A, hA', hAB⟩ := g2 j B hj
  obtain ⟨x, hx, hxA⟩ := eb j A hA'
  have hd : cP μ β A (a.eval x) := St.ev_den hrel ((St.ev_agree (C := C) hag (by rw [ho]; simp only [Op.operands, Call.operands]; simp [List.mem_of_getElem? hx])).trans hxA)
  refine ⟨a.eval x, by simp [hx], ?_⟩
  rcases hAB with h1 | ⟨h1, h2⟩
  ·exact (hO h1 hd).den
  ·subst h1; exact (rM h2).1 hd
 have howns : Vx (fun n => G.lookup n) (fun n => β (σ n)) μ W := by
  refine ⟨fun n p hn => Ax.1 (hrel.w.own _ _ (hH n p hn)), fun n m p q hn hm h0 h0' he => ?_, fun n p hn h0 => yA.1 (hrel.w.sep _ _ (hH n p hn) h0)⟩
  exact hok.inj n m ((hok.dom n).2 ⟨p, hn⟩) ((hok.dom m).2 ⟨q, hm⟩) (hrel.w.inj _ _ _ _ (hH n p hn) (hH m q hm) h0 h0' he)
 refine (hc (fun n => β (σ n)) μ W _ hrel.w.imm hrel.w.glob howns hden).mono ?_
 rintro e W' ⟨y, r', G', β'c, μ', rfl, ⟨hrr, hGf⟩, hy0, hleft⟩
 have hy : cP μ' β'c r y := by
  rcases hrr with rfl | hrr
  ·exact hy0
  ·exact (hO hrr hy0).den
 have hback : Us k σ nw nm Gf s'.H (s'.app o.dst (some v) (jX σ G Gf nw)).H := Ci ⟨fun p hp => by
  rw [hag.2 (σ p.1) (List.mem_map.2 ⟨_, hp, rfl⟩)]
  exact hok.own p hp, hok.dom, hok.inj, hok.gf, hok.new, hok.ne⟩
 have hwr := hrel.w.call hleft (fun n p hn => hH n p hn) hok.dom hok.inj (Gf := Gf) (nw := nw) (nm := nm) (fun n p hn => ⟨hGf n p hn, hok.gf _ (fI hn)⟩) (fun k' hk' => ⟨(hok.new k' hk').1, (hok.new k' hk').2, hnew nm (by subst hk'; simp [xH])⟩) hback
 have hbo : ∀ j, U j → sY β β'c nw nm j = β j := fun j hj => by
  unfold sY
  split
  ·rename_i k'
   exact eP (fun e => hnew nm (by simp [xH]) (e ▸ hj))
  ·rfl
 refine hK (sY β β'c nw nm) μ' _ W' ⟨?_, hwr⟩
 refine FR.put ((hrel.f.mono hbo hleft.le).weaken fun n hn => .inl hn) hd fun x hx => ?_
 obtain rfl := Option.some.inj hx
 rcases hr with h1 | h1
 ·have := hO h1 hy
  exact ⟨this.den, by rw [Di this]; simp⟩
 ·obtain ⟨h1, h2, hm⟩ := h1
  subst h1
  have hbm : ∀ m, m ∈ r.ments → sY β β'c nw nm (σ m) = β'c m := fun m hm' => by
   rcases hm m hm' with h3 | h3
   ·obtain ⟨o', ho'⟩ := (hok.dom m).1 h3
    exact (hbo _ (hrel.w.used _ _ (hH m o' ho')).1).trans (hleft.fix m h3).symm
   ·subst h3
    show vK β nm (β'c m) (σ m) = β'c m
    rw [(hok.new m rfl).2]; exact dT ..
  refine ⟨(rM h2).2 (hy.mono (bV.le_refl _) fun m hm' => hbm m hm'), fun n hn => ?_⟩
  rw [Dd h2] at hn
  obtain ⟨m, hm', rfl⟩ := List.mem_map.1 hn
  rcases hm m hm' with h3 | h3
  ·obtain ⟨o', ho'⟩ := (hok.dom m).1 h3
   exact .inl (hrel.w.used _ _ (hH m o' ho')).1
  ·subst h3; exact .inr (by simp [xH, (hok.new m rfl).2])
end Go.Bm
namespace Go.Bm
open Go
def lK {α : Type} (d : Nat) (x : α) : List (Nat × α) → List (Nat × α)
 | [] => [(d, x)]
 | p :: L => if d = p.1 then (d, x) :: L else p :: lK d x L
def Aj {α : Type} (d : Nat) : List (Nat × α) → List (Nat × α)
 | [] => []
 | p :: L => if d = p.1 then Aj d L else p :: Aj d L
theorem pR {α : Type} (d t : Nat) (x : α) : ∀ L : List (Nat × α), (lK d x L).lookup t = if t = d then some x else L.lookup t
 | [] => by
  by_cases e : t = d
  ·subst e; simp [lK, List.lookup]
  ·have : (t == d) = false := by simpa using e
   simp [lK, List.lookup, this, e]
 | p :: L => by
  simp only [lK]
  by_cases h : d = p.1
  ·rw [if_pos h]
   by_cases e : t = d
   ·subst e; simp [List.lookup]
   ·have h1 : (t == d) = false := by simpa using e
    have h2 : (t == p.1) = false := by rw [← h]; exact h1
    rw [List.lookup_cons, h1, if_neg e, List.lookup_cons, h2]
  ·rw [if_neg h, List.lookup_cons, pR d t x L, List.lookup_cons]
   by_cases e : t = p.1
   ·have h1 : (t == p.1) = true := by simpa using e
    have hne : ¬ t = d := fun e2 => h (e2.symm.trans e)
    simp only [h1, if_neg hne]
   ·have h1 : (t == p.1) = false := by simpa using e
    rw [h1]
theorem pP {α : Type} (d t : Nat) : ∀ L : List (Nat × α), (Aj d L).lookup t = if t = d then none else L.lookup t
 | [] => by simp [Aj]
 | p :: L => by
  simp only [Aj]
  by_cases h : d = p.1
  ·rw [if_pos h, pP d t L]
   by_cases e : t = d
   ·rw [if_pos e, if_pos e]
   ·have h2 : (t == p.1) = false := by rw [← h]; simpa using e
    rw [if_neg e, if_neg e, List.lookup_cons, h2]
  ·rw [if_neg h, List.lookup_cons, pP d t L, List.lookup_cons]
   by_cases e : t = p.1
   ·have h1 : (t == p.1) = true := by simpa using e
    have hne : ¬ t = d := fun e2 => h (e2.symm.trans e)
    simp only [h1, if_neg hne]
   ·have h1 : (t == p.1) = false := by simpa using e
    rw [h1]
def sI : List (Nat × Option aY) → List (Nat × aY) → List (Nat × aY)
 | [], G => G
 | (n, some o) :: r, G => lK n o (sI r G)
 | (n, none) :: r, G => Aj n (sI r G)
theorem tT (n : Nat) (G : List (Nat × aY)) : ∀ wr : List (Nat × Option aY), (sI wr G).lookup n = match wr.lookup n with | some o => o | none => G.lookup n
 | [] => rfl
 | (m, some o) :: r => by
  simp only [sI, pR, List.lookup_cons]
  by_cases e : n = m
  ·subst e; simp
  ·have : (n == m) = false := by simpa using e
   rw [if_neg e, this, tT n G r]
 | (m, none) :: r => by
  simp only [sI, pP, List.lookup_cons]
  by_cases e : n = m
  ·subst e; simp
  ·have : (n == m) = false := by simpa using e
   rw [if_neg e, this, tT n G r]
def mk (L : List (Nat × AV)) (G : List (Nat × aY)) (lim : Nat) : St := ⟨fun t => L.lookup t, fun n => G.lookup n, lim⟩
def kM (dst : Option Nat) (v : Option AV) (L : List (Nat × AV)) : List (Nat × AV) :=
 match dst, v with
 | some d, some x => lK d x L
 | some d, none => Aj d L
 | none, _ => L
theorem gJ (L : List (Nat × AV)) (G : List (Nat × aY)) (lim : Nat) (dst : Option Nat) (v : Option AV) (wr : List (Nat × Option aY)) : (mk L G lim).app dst v wr = mk (kM dst v L) (sI wr G) lim := by
 unfold mk St.app
 congr 1
 ·cases dst with
  | none => rfl
  | some d =>
   cases v with
   | none => funext t; simp only [kM, pP]
   | some x => funext t; simp only [kM, pR]
 ·funext n
  rw [tT]
  rfl
def kF {α : Type} (ks : List Nat) : List (Nat × α) → List (Nat × α)
 | [] => []
 | p :: L => if ks.contains p.1 then p :: kF ks L else kF ks L
theorem vN {α : Type} {ks : List Nat} {t : Nat} : ∀ {L : List (Nat × α)}, (kF ks L).lookup t = if ks.contains t then L.lookup t else none
 | [] => by simp [kF]
 | p :: L => by
  simp only [kF]
  by_cases hc : ks.contains p.1 = true
  ·rw [if_pos hc, List.lookup_cons, List.lookup_cons, vN]
   by_cases e : t = p.1
   ·subst e; simp only [beq_self_eq_true]; rw [if_pos hc]
   ·have : (t == p.1) = false := by simpa using e
    rw [this]
  ·rw [if_neg hc, vN, List.lookup_cons]
   by_cases e : t = p.1
   ·subst e; rw [if_neg hc, if_neg hc]
   ·have : (t == p.1) = false := by simpa using e
    rw [this]
theorem nI.forget {C : bP} {s s' : St} {U : Nat → Prop} {β : Nat → Bk} {μ : bV} {a : Act} {W : World} (h : nI C s U β μ a W) (h1 : ∀ t x, s'.fr t = some x → s.fr t = some x) (h2 : ∀ n o, s'.H n = some o → s.H n = some o) : nI C s' U β μ a W :=
 ⟨⟨h.f.defers, h.f.size, fun t x ht => h.f.den t x (h1 t x ht), fun t x ht => h.f.used t x (h1 t x ht)⟩,
  ⟨h.w.keep, h.w.size, h.w.os, h.w.tape, h.w.output, fun n o hn => h.w.own n o (h2 n o hn), fun n m o p hn hm => h.w.inj n m o p (h2 n o hn) (h2 m p hm), h.w.imm, fun n o hn => h.w.sep n o (h2 n o hn), fun n o hn => h.w.loc n o (h2 n o hn), fun n o hn => h.w.used n o (h2 n o hn), h.w.mu, h.w.newc, h.w.newm, h.w.glob, h.w.fix⟩⟩
def Pl (ops : Array Oper) (i : Nat) (l : List Oper) : Prop := ∀ j, l[j]? = ops[i + j]?
theorem Pl.tail {ops : Array Oper} {i : Nat} {o : Oper} {l : List Oper} (h : Pl ops i (o :: l)) : Pl ops (i + 1) l := fun j => by have := h (j + 1); simpa [Nat.add_assoc, Nat.add_comm 1 j] using this
theorem Pl.head {ops : Array Oper} {i : Nat} {o : Oper} {l : List Oper} (h : Pl ops i (o :: l)) : ops[i]? = some o := by simpa using (h 0).symm
def RX (C : bP) (ops : Array Oper) (dr : Bool) (T : List (List Nat)) (b i : Nat) (l : List Oper) (done : List (Nat × Fx)) (s : St) (K : St → Prop) : Prop :=
 Pl ops i l → if dr = true then RWd C ops T b i l done s K else RWs C ops b i l s K
def Fq (dr : Bool) (T : List (List Nat)) (b i : Nat) (new : List Nat) (n : Nat) : Bool :=
 if dr then decide (n < b) || new.contains n || (decide (b ≤ n) && (T.getD i []).contains (n - b)) else decide (n < b + i) || new.contains n
def gR (dr : Bool) (T : List (List Nat)) (b i : Nat) (done : List (Nat × Fx)) (v : Option AV) (wr : List (Nat × Option aY)) (foot new : List Nat) : Bool :=
 (match v with | some x => x.ments.all (Fq dr T b i new) | none => true) && wr.all (fun p => match p.2 with | some ob => ob.ments.all (Fq dr T b i new) | none => true) &&
 (new.all fun n => n == b + i) && (!dr || done.all fun p => (T.getD i []).contains p.1 || p.2.apart ⟨foot, wr.map (·.1)⟩)
def fN (dr : Bool) (done : List (Nat × Fx)) (i : Nat) (foot : List Nat) (wr : List (Nat × Option aY)) : List (Nat × Fx) := if dr then done ++ [(i, ⟨foot, wr.map (·.1)⟩)] else done
theorem sF {dr : Bool} {T : List (List Nat)} {b i : Nat} {new : List Nat} {n : Nat} (h : Fq dr T b i new n = true) : if dr = true then (n < b ∨ (n ∈ new ∨ ∃ k, k ∈ T.getD i [] ∧ n = b + k)) else (n < b + i ∨ n ∈ new) := by
 unfold Fq at h
 split at h
 ·rename_i hd
  rw [if_pos hd]
  simp only [Bool.or_eq_true, Bool.and_eq_true, decide_eq_true_eq, List.contains_eq_mem] at h
  rcases h with (h | h) | ⟨h1, h2⟩
  ·exact .inl h
  ·exact .inr (.inl h)
  ·exact .inr (.inr ⟨n - b, h2, by omega⟩)
 ·rename_i hd
  rw [if_neg hd]
  simpa using h
theorem kW {C : bP} {ops : Array Oper} {dr : Bool} {T : List (List Nat)} {b i : Nat} {o : Oper} {os : List Oper} {done : List (Nat × Fx)} {s : St} {K : St → Prop} {v : Option AV} {wr : List (Nat × Option aY)} {foot new : List Nat} (h : ops[i]? = some o → tU C ops i o s v wr foot new)
  (hok : gR dr T b i done v wr foot new = true) (hk : RX C ops dr T b (i + 1) os (fN dr done i foot wr) (s.app o.dst v wr) K) : RX C ops dr T b i (o :: os) done s K := by
 intro hl
 have hT := h hl.head
 have hk := hk hl.tail
 simp only [gR, Bool.and_eq_true] at hok
 obtain ⟨⟨⟨h1, h2⟩, h3⟩, h4⟩ := hok
 have hm1 : ∀ x, v = some x → ∀ n, n ∈ x.ments → Fq dr T b i new n = true := fun x hx n hn => by
  subst hx; exact List.all_eq_true.1 h1 n hn
 have hm2 : ∀ q, q ∈ wr → ∀ ob, q.2 = some ob → ∀ n, n ∈ ob.ments → Fq dr T b i new n = true := fun q hq ob ho n hn => by
  have := List.all_eq_true.1 h2 q hq
  rw [ho] at this
  exact List.all_eq_true.1 this n hn
 have hn : ∀ n, n ∈ new → n = b + i := fun n hn => by simpa using List.all_eq_true.1 h3 n hn
 by_cases hd : dr = true
 ·rw [if_pos hd] at hk ⊢
  simp only [fN, hd, if_true] at hk
  refine ⟨v, wr, foot, new, hT, hn, ⟨fun x hx n hn => ?_, fun q hq ob ho n hn => ?_⟩, fun p hp => ?_, hk⟩
  ·have := sF (hm1 x hx n hn); rw [if_pos hd] at this; exact this
  ·have := sF (hm2 q hq ob ho n hn); rw [if_pos hd] at this; exact this
  ·have h5 := h4
   simp only [hd, Bool.not_true, Bool.false_or] at h5
   have := List.all_eq_true.1 h5 p hp
   simpa using this
 ·rw [if_neg hd] at hk ⊢
  refine ⟨v, wr, foot, new, hT, hn, ⟨fun x hx n hn => ?_, fun q hq ob ho n hn => ?_⟩, hk⟩
  ·have := sF (hm1 x hx n hn); rw [if_neg hd] at this; exact this
  ·have := sF (hm2 q hq ob ho n hn); rw [if_neg hd] at this; exact this
def Zt (C : bP) (ops : Array Oper) (dr : Bool) (T : List (List Nat)) (b i : Nat) (o : Oper) (L : List (Nat × AV)) (G : List (Nat × aY)) (done : List (Nat × Fx)) : Option (List (Nat × AV) × List (Nat × aY) × List (Nat × Fx)) :=
 match nX C.n o, gB ops o (fun t => L.lookup t) with
 | true, some false => if gR dr T b i done (some (.tup [])) [] [] [] then some (kM o.dst (some (.tup [])) L, G, fN dr done i [] []) else none
 | true, some true => match Hj C (b + i) (mk L G 0) o with
  | some r => if gR dr T b i done r.v r.wr r.foot r.new then some (kM o.dst r.v L, sI r.wr G, fN dr done i r.foot r.wr) else none
  | none => none
 | _, _ => none
theorem eE {C : bP} {s s' : St} (h1 : s.fr = s'.fr) (x : Operand) : s.ev C x = s'.ev C x := by cases x <;> simp only [St.ev, h1]
theorem Yp {C : bP} {s s' : St} (h1 : s.fr = s'.fr) (h2 : s.H = s'.H) (op : Op) : rd C s op = rd C s' op := by
 have he : ∀ x, s.ev C x = s'.ev C x := eE h1
 have hc : ∀ l, Sv C s l = Sv C s' l := fun l => by induction l with | nil => rfl | cons x l ih => simp only [Sv, he, ih]
 cases op with
 | call c =>
  obtain ⟨cal, args, ts⟩ := c
  cases cal with
  | builtin b => cases b <;> simp only [rd, he, h2]
  | _ => simp only [rd]
 | makeFunc fn first caps => cases fn <;> simp only [rd, hc]
 | _ => simp only [rd, he, h2]
theorem Uh {C : bP} {nm : Nat} {s s' : St} (h1 : s.fr = s'.fr) (h2 : s.H = s'.H) (o : Oper) : Hj C nm s o = Hj C nm s' o := by
 have he : ∀ x, s.ev C x = s'.ev C x := eE h1
 unfold Hj ef iR
 rw [Yp h1 h2]
 simp only [he, h2]
theorem Xq {C : bP} {ops : Array Oper} {dr : Bool} {T : List (List Nat)} {b i : Nat} {o : Oper} {os : List Oper} {done done' : List (Nat × Fx)} {L L' : List (Nat × AV)} {G G' : List (Nat × aY)} {lim : Nat} {K : St → Prop} (h : Zt C ops dr T b i o L G done = some (L', G', done')) (hk : RX C ops dr T b (i + 1) os done' (mk L' G' lim) K) : RX C ops dr T b i (o :: os) done (mk L G lim) K := by
 unfold Zt at h
 split at h
 ·rename_i h1 h2
  split at h
  ·rename_i h3
   simp only [Option.some.injEq, Prod.mk.injEq] at h
   obtain ⟨rfl, rfl, rfl⟩ := h
   refine kW (fun hi => Tb hi (s := mk L G lim) h2 (dN h1)) h3 ?_
   rw [gJ]
   exact hk
  ·cases h
 ·rename_i h1 h2
  split at h
  ·rename_i r hr
   split at h
   ·rename_i h3
    simp only [Option.some.injEq, Prod.mk.injEq] at h
    obtain ⟨rfl, rfl, rfl⟩ := h
    rw [Uh (s := mk L G 0) (s' := mk L G lim) rfl rfl] at hr
    refine kW (fun hi => My hi (s := mk L G lim) h2 h1 hr) h3 ?_
    rw [gJ]
    exact hk
   ·cases h
  ·cases h
 ·cases h
def wL (C : bP) (ops : Array Oper) (dr : Bool) (T : List (List Nat)) (b : Nat) : Nat → Nat → List Oper → List (Nat × AV) → List (Nat × aY) → List (Nat × Fx) → Option (List Oper × List (Nat × AV) × List (Nat × aY) × List (Nat × Fx))
 | 0, _, l, L, G, D => some (l, L, G, D)
 | k + 1, i, o :: os, L, G, D => match Zt C ops dr T b i o L G D with
  | some p => wL C ops dr T b k (i + 1) os p.1 p.2.1 p.2.2
  | none => none
 | _ + 1, _, [], _, _, _ => none
theorem Bc {C : bP} {ops : Array Oper} {dr : Bool} {T : List (List Nat)} {b : Nat} {lim : Nat} {K : St → Prop} : ∀ (k : Nat) {i : Nat} {l l' : List Oper} {D D' : List (Nat × Fx)} {L L' : List (Nat × AV)} {G G' : List (Nat × aY)}, wL C ops dr T b k i l L G D = some (l', L', G', D') → RX C ops dr T b (i + k) l' D' (mk L' G' lim) K → RX C ops dr T b i l D (mk L G lim) K
 | 0, i, l, l', D, D', L, L', G, G', h, hk => by
  simp only [wL, Option.some.injEq, Prod.mk.injEq] at h
  obtain ⟨rfl, rfl, rfl, rfl⟩ := h
  exact hk
 | k + 1, i, [], l', D, D', L, L', G, G', h, hk => by simp [wL] at h
 | k + 1, i, o :: os, l', D, D', L, L', G, G', h, hk => by
  simp only [wL] at h
  split at h
  ·rename_i p hp
   obtain ⟨L1, G1, D1⟩ := p
   exact Xq hp (Bc k h (by rw [show i + 1 + k = i + (k + 1) by omega]; exact hk))
  ·cases h
theorem tU.forget {C : bP} {ops : Array Oper} {i : Nat} {o : Oper} {s s' : St} {v : Option AV} {wr : List (Nat × Option aY)} {foot new : List Nat} (h1 : ∀ t x, s'.fr t = some x → s.fr t = some x) (h : tU C ops i o s v wr foot new) : True := trivial
theorem Bl {C : bP} {ops : Array Oper} {dr : Bool} {T : List (List Nat)} {b i : Nat} {D : List (Nat × Fx)} {s : St} {K : St → Prop} (h : K s) : RX C ops dr T b i [] D s K := fun _ => by split <;> exact h
theorem Hs {C : bP} {id : Nat} {ops : Array Oper} {s : St} {K : Exit → St → Prop} {l : List Oper} (hl : ops.toList = l) (h : ∀ D, RX (C.on D) ops false [] s.lim 0 l [] s fun s' => K .normal { s' with lim := s.lim + l.length }) (hnd : tF C ops = true) : AW C (.region id ops false) s K := by
 subst hl
 refine Qc (fun D => ?_) hnd
 have := h D (fun j => by simp)
 rw [if_neg (by simp)] at this
 simpa using this
theorem Nw {C : bP} {id : Nat} {ops : Array Oper} {s : St} {K : Exit → St → Prop} {l : List Oper} (T : List (List Nat)) (hT : Ae ops T = true) (hl : ops.toList = l) (h : ∀ D, RX (C.on D) ops true T s.lim 0 l [] s fun s' => K .normal { s' with lim := s.lim + l.length }) (hnd : tF C ops = true) : AW C (.region id ops true) s K := by
 subst hl
 refine Ce hT (fun D => ?_) hnd
 have := h D (fun j => by simp)
 rw [if_pos rfl] at this
 simpa using this
end Go.Bm
namespace Go.Bm
open Go
section
variable {C : bP} {s : St} {K : Exit → St → Prop}
theorem Fj (C D : bP) (s : St) (x : Operand) : s.ev (C.on D) x = s.ev C x := by cases x <;> rfl
theorem Iv {c : Code} {K' : Exit → St → Prop} (h : AW C c s K) (hk : ∀ e s, K e s → K' e s) : AW C c s K' :=
 fun D β μ a W hr => wpIn_mono (h D β μ a W hr) fun e _ _ ⟨D', s', β', μ', hle, hk', hr'⟩ => ⟨D', s', β', μ', hle, hk e s' hk', hr'⟩
theorem aC (h : K .normal s) : AW C .skip s K := fun D β μ _ _ hr => wpIn_skip ⟨D, s, β, μ, .refl _, h, hr⟩
theorem bD {id : Nat} (h : K (.exit id) s) : AW C (.exit id) s K := fun D β μ _ _ hr => wpIn_exit ⟨D, s, β, μ, .refl _, h, hr⟩
theorem aG (h : K .ret s) : AW C .ret s K := fun D β μ _ _ hr => wpIn_ret ⟨D, s, β, μ, .refl _, h, hr⟩
def Gh (k : St → Prop) (K : Exit → St → Prop) : Exit → St → Prop
 | .normal, s => k s
 | e, s => K e s
theorem Wb {C D : bP} {F : Fence} {n : Nat} {P : Program} {c : Code} {K : Exit → St → Prop} {a : Act} {W : World} {D0 : bP} (hle : (C.on D0).Le (C.on D))
  (h : c.wpIn F n P (fun e a' W' => ∃ D' s' β' μ', (C.on D).Le (C.on D') ∧ K e s' ∧ nI (C.on D') s' (· < s'.lim) β' μ' a' W') a W) : c.wpIn F n P (fun e a' W' => ∃ D' s' β' μ', (C.on D0).Le (C.on D') ∧ K e s' ∧ nI (C.on D') s' (· < s'.lim) β' μ' a' W') a W :=
 wpIn_mono h fun e _ _ ⟨D', s', β', μ', hle', hk', hr'⟩ => ⟨D', s', β', μ', hle.trans hle', hk', hr'⟩
theorem aK {x y : Code} (h : AW C x s (Gh (fun s' => AW C y s' K) K)) : AW C (.seq x y) s K :=
 fun D β μ a W hr => wpIn_seq (wpIn_mono (h D β μ a W hr) fun e a' W' ⟨D', s', β', μ', hle, hk, hr'⟩ => by
  cases e with
  | normal => exact Wb hle (hk D' β' μ' a' W' hr')
  | exit id => exact ⟨D', s', β', μ', hle, hk, hr'⟩
  | goto l => exact ⟨D', s', β', μ', hle, hk, hr'⟩
  | ret => exact ⟨D', s', β', μ', hle, hk, hr'⟩
  | panic ch => exact ⟨D', s', β', μ', hle, hk, hr'⟩
  | outgrown => exact ⟨D', s', β', μ', hle, hk, hr'⟩)
theorem Uz {c : Operand} {x y : Code} {t : Bool} (hc : s.ev C c = some (.c (.v (.bool t)))) (h1 : t = true → AW C x s K) (h2 : t = false → AW C y s K) : AW C (.cond c x y) s K :=
 fun D β μ a W hr => wpIn_cond_split (dV (St.ev_den hr ((Fj C D s c).trans hc))) (fun e => h1 e D β μ a W hr) (fun e => h2 e D β μ a W hr)
def Sf (id : Nat) (K : Exit → St → Prop) : Exit → St → Prop
 | .exit j, s => match Nat.beq j id with | true => K .normal s | false => K (.exit j) s
 | e, s => K e s
theorem aF {id : Nat} {c : Code} (h : AW C c s (Sf id K)) : AW C (.block id c) s K :=
 fun D β μ a W hr => wpIn_block (wpIn_mono (h D β μ a W hr) fun e a' W' ⟨D', s', β', μ', hle, hk, hr'⟩ => by
  cases e with
  | exit j =>
   simp only [Exit.inBlock]
   simp only [Sf] at hk
   split
   ·rename_i e
    have : Nat.beq j id = true := by subst e; exact Nat.beq_refl j
    rw [this] at hk; exact ⟨D', s', β', μ', hle, hk, hr'⟩
   ·rename_i e
    have : Nat.beq j id = false := by
     cases hq : Nat.beq j id with
     | false => rfl
     | true => exact absurd (Nat.eq_of_beq_eq_true hq) e
    rw [this] at hk; exact ⟨D', s', β', μ', hle, hk, hr'⟩
  | normal => exact ⟨D', s', β', μ', hle, hk, hr'⟩
  | goto l => exact ⟨D', s', β', μ', hle, hk, hr'⟩
  | ret => exact ⟨D', s', β', μ', hle, hk, hr'⟩
  | panic ch => exact ⟨D', s', β', μ', hle, hk, hr'⟩
  | outgrown => exact ⟨D', s', β', μ', hle, hk, hr'⟩)
end
def dU (C : bP) (s s2 : St) : Prop := ∀ D β μ a W, nI (C.on D) s (· < s.lim) β μ a W → ∃ β2 μ2, nI (C.on D) s2 (· < s2.lim) β2 μ2 a W
theorem dU.refl (C : bP) (s : St) : dU C s s := fun _ β μ _ _ h => ⟨β, μ, h⟩
theorem dU.trans {C : bP} {s s2 s3 : St} (h : dU C s s2) (k : dU C s2 s3) : dU C s s3 := fun D β μ a W hr => let ⟨β2, μ2, h2⟩ := h D β μ a W hr; k D β2 μ2 a W h2
theorem aI {C : bP} {c : Code} {s s2 : St} {K : Exit → St → Prop} (h : dU C s s2) (hk : AW C c s2 K) : AW C c s K :=
 fun D β μ a W hr => let ⟨β2, μ2, hr2⟩ := h D β μ a W hr; hk D β2 μ2 a W hr2
def viaK (C : bP) (K : Exit → St → Prop) (e : Exit) (s' : St) : Prop := ∃ s2, dU C s' s2 ∧ K e s2
theorem dI {C : bP} {K : Exit → St → Prop} {e : Exit} {s s2 : St} (h : dU C s s2) (k : K e s2) : viaK C K e s := ⟨s2, h, k⟩
theorem aT {C : bP} {c : Code} {s : St} {K : Exit → St → Prop} (h : AW C c s (viaK C K)) : AW C c s K :=
 fun D β μ a W hr => wpIn_mono (h D β μ a W hr) fun e a' W' ⟨D', s', β', μ', hle, ⟨s2, hv, hk⟩, hr'⟩ => let ⟨β2, μ2, hr2⟩ := hv D' β' μ' a' W' hr'; ⟨D', s2, β2, μ2, hle, hk, hr2⟩
theorem sZ {F : Fence} {n : Nat} {P : Program} {Q : Exit → Act → World → Prop} {a : Act} {w : World} {c : Code} (I : Nat → Act → World → Prop) (n₀ : Nat) (h₀ : I n₀ a w)
  (round : ∀ n' a w, I n' a w → c.wpIn F n P (Exit.then (fun a' w' => ∃ m, m < n' ∧ I m a' w') Q) a w) : (Code.loop c).wpIn F n P Q a w := by
 refine wpIn_loop (fun a w => ∃ n, I n a w) (fun a w => leastOf (fun n => I n a w)) ⟨n₀, h₀⟩ ?_
 intro a w hI
 refine wpIn_mono (round _ a w (leastOf_spec hI).1) ?_
 intro e a' w' hq
 cases e with
 | normal =>
  obtain ⟨m, hm, hi⟩ := hq
  exact ⟨⟨m, hi⟩, Nat.lt_of_le_of_lt ((leastOf_spec ⟨m, hi⟩).2 m hi) hm⟩
 | exit id => exact hq
 | goto l => exact hq
 | ret => exact hq
 | panic ch => exact hq
 | outgrown => exact hq
theorem Wc {C : bP} {c : Code} {s : St} {K : Exit → St → Prop} (I : Nat → St → Prop) (n0 : Nat) (s0 : St) (hv : dU C s s0) (h0 : I n0 s0) (h : ∀ n s, I n s → AW C c s (Gh (fun s' => ∃ m s2, m < n ∧ I m s2 ∧ dU C s' s2) K)) : AW C (.loop c) s K :=
 aI hv fun D β μ a W hr => sZ (fun n a W => ∃ D' s β μ, (C.on D).Le (C.on D') ∧ I n s ∧ nI (C.on D') s (· < s.lim) β μ a W) n0 ⟨D, s0, β, μ, .refl _, h0, hr⟩ fun n a W ⟨D1, s, β, μ, hle1, hi, hr⟩ => wpIn_mono (h n s hi D1 β μ a W hr) fun e a' W' ⟨D', s', β', μ', hle, hk, hr'⟩ => by
  cases e with
  | normal =>
   obtain ⟨m, s2, hm, hi', hvw⟩ := hk
   obtain ⟨β2, μ2, hr2⟩ := hvw D' β' μ' a' W' hr'
   exact ⟨m, hm, D', s2, β2, μ2, hle1.trans hle, hi', hr2⟩
  | exit id => exact ⟨D', s', β', μ', hle1.trans hle, hk, hr'⟩
  | goto l => exact ⟨D', s', β', μ', hle1.trans hle, hk, hr'⟩
  | ret => exact ⟨D', s', β', μ', hle1.trans hle, hk, hr'⟩
  | panic ch => exact ⟨D', s', β', μ', hle1.trans hle, hk, hr'⟩
  | outgrown => exact ⟨D', s', β', μ', hle1.trans hle, hk, hr'⟩
def rW (σ : List (Nat × Nat)) (n : Nat) : Bool := σ.any fun p => p.1 == n
def Km (σ : List (Nat × Nat)) (n : Nat) : Nat := match σ with | [] => n | p :: r => if p.2 = n then p.1 else Km r n
def wA : List Nat → Bool
 | [] => true
 | x :: l => !l.contains x && wA l
def Wo (k lim2 : Nat) (σ : List (Nat × Nat)) : Bool :=
 wA (σ.map (·.1)) && wA (σ.map (·.2)) && (σ.all fun p => decide (p.2 < lim2) && (if p.1 < k then p.1 == p.2 else decide (k ≤ p.2))) && decide (k ≤ lim2)
theorem qG : ∀ {l : List Nat}, wA l = true → l.Pairwise (· ≠ ·)
 | [], _ => .nil
 | x :: l, h => by
  simp only [wA, Bool.and_eq_true, Bool.not_eq_true', List.contains_eq_mem, decide_eq_false_iff_not] at h
  exact List.pairwise_cons.2 ⟨fun y hy e => h.1 (e ▸ hy), qG h.2⟩
theorem Nq : ∀ {σ : List (Nat × Nat)}, (σ.map (·.1)).Pairwise (· ≠ ·) → (σ.map (·.2)).Pairwise (· ≠ ·) → ∀ n, rW σ n = true → Km σ (dL σ n) = n
 | [], _, _, n, h => by simp [rW] at h
 | p :: σ, h1, h2, n, h => by
  simp only [List.map_cons, List.pairwise_cons] at h1 h2
  by_cases e : n = p.1
  ·subst e
   have h3 : dL (p :: σ) p.1 = p.2 := by unfold dL; rw [List.lookup_cons, beq_self_eq_true]
   rw [h3, Km, if_pos rfl]
  ·have e1 : (n == p.1) = false := by simpa using e
   have hd : rW σ n = true := by
    simp only [rW, List.any_cons, Bool.or_eq_true, beq_iff_eq] at h ⊢
    exact h.resolve_left (Ne.symm e)
   have h3 : dL (p :: σ) n = dL σ n := by unfold dL; rw [List.lookup_cons, e1]
   have hm : dL σ n ∈ σ.map (·.2) := by
    obtain ⟨q, hq, hqn⟩ := List.any_eq_true.1 hd
    have hqn' : q.1 = n := by simpa using hqn
    have : ∀ L : List (Nat × Nat), q ∈ L → ∃ m, L.lookup n = some m ∧ m ∈ L.map (·.2) := by
     intro L
     induction L with
     | nil => intro hq; cases hq
     | cons r L ih =>
      intro hq
      rw [List.lookup_cons]
      by_cases er : n = r.1
      ·simp [er]
      ·have er1 : (n == r.1) = false := by simpa using er
       rw [er1]
       rcases List.mem_cons.1 hq with rfl | hq
       ·exact absurd hqn'.symm er
       ·obtain ⟨m, hm, hm2⟩ := ih hq
        exact ⟨m, hm, by simp [hm2]⟩
    obtain ⟨m, hm, hm2⟩ := this σ hq
    simp only [dL, hm]
    exact hm2
   rw [h3, Km, if_neg (h2.1 _ hm)]
   exact Nq h1.2 h2.2 n hd
def wE {α : Type} (L : List (Nat × α)) : List Nat → List (Nat × α)
 | [] => []
 | t :: ks => match L.lookup t with | some x => (t, x) :: wE L ks | none => wE L ks
theorem rF {α : Type} {L : List (Nat × α)} {p : Nat × α} : ∀ {ks : List Nat}, p ∈ wE L ks → p.1 ∈ ks ∧ L.lookup p.1 = some p.2
 | [], h => by simp [wE] at h
 | t :: ks, h => by
  simp only [wE] at h
  split at h
  ·rename_i x hx
   rcases List.mem_cons.1 h with rfl | h
   ·exact ⟨List.mem_cons_self .., hx⟩
   ·exact ⟨List.mem_cons_of_mem _ (rF h).1, (rF h).2⟩
  ·exact ⟨List.mem_cons_of_mem _ (rF h).1, (rF h).2⟩
theorem Jc {α : Type} {L : List (Nat × α)} {t : Nat} {x : α} {ks : List Nat} (h : (wE L ks).lookup t = some x) : L.lookup t = some x := (rF (fI h)).2
def Rb (k : Nat) (σ : List (Nat × Nat)) (ks : List Nat) (lim2 : Nat) (L : List (Nat × AV)) (G : List (Nat × aY)) : Option (List (Nat × AV) × List (Nat × aY)) :=
 if Wo k lim2 σ && (wE L ks).all (fun p => p.2.plain && p.2.ments.all (rW σ)) && (wE G (σ.map (·.1))).all (fun p => p.2.ments.all (rW σ)) then
  some ((wE L ks).map fun p => (p.1, p.2.ren (dL σ)), (wE G (σ.map (·.1))).map fun p => (dL σ p.1, p.2.ren (dL σ)))
 else none
theorem uD {α β : Type} {f : α → β} (n : Nat) : ∀ {L : List (Nat × α)} {y : β}, (L.map fun p => (p.1, f p.2)).lookup n = some y → ∃ x, L.lookup n = some x ∧ y = f x
 | [], y, h => by simp at h
 | p :: L, y, h => by
  rw [List.map_cons, List.lookup_cons] at h
  rw [List.lookup_cons]
  split at h
  ·exact ⟨p.2, rfl, (Option.some.inj h).symm⟩
  ·exact uD n h
theorem sD {C : bP} {k : Nat} (hk : C.k = k) (σ : List (Nat × Nat)) (ks : List Nat) {L L2 : List (Nat × AV)} {G G2 : List (Nat × aY)} {lim lim2 : Nat} (h : Rb k σ ks lim2 L G = some (L2, G2)) : dU C (mk L G lim) (mk L2 G2 lim2) := by
 subst hk
 unfold Rb at h
 split at h
 ·rename_i hc
  simp only [Option.some.injEq, Prod.mk.injEq] at h
  obtain ⟨rfl, rfl⟩ := h
  simp only [Bool.and_eq_true] at hc
  obtain ⟨⟨hs, hL⟩, hG⟩ := hc
  simp only [Wo, Bool.and_eq_true, decide_eq_true_eq] at hs
  obtain ⟨⟨⟨hs1, hs2⟩, hs3⟩, hs4⟩ := hs
  have d1 := qG hs1
  have d2 := qG hs2
  have hinv := fun n => Nq d1 d2 n
  have hval : ∀ n, rW σ n = true → dL σ n < lim2 := fun n hn => by
   obtain ⟨q, hq, hqn⟩ := List.any_eq_true.1 hn
   have hqn' : q.1 = n := by simpa using hqn
   have : ∀ L : List (Nat × Nat), (∀ p, p ∈ L → p.2 < lim2) → q ∈ L → (match L.lookup n with | some m => m | none => n) < lim2 := by
    intro L
    induction L with
    | nil => intro _ hq; cases hq
    | cons r L ih =>
     intro hL hq
     rw [List.lookup_cons]
     by_cases er : n = r.1
     ·simp only [er, beq_self_eq_true]; exact hL r (List.mem_cons_self ..)
     ·have er1 : (n == r.1) = false := by simpa using er
      simp only [er1]
      rcases List.mem_cons.1 hq with rfl | hq
      ·exact absurd hqn'.symm er
      ·exact ih (fun p hp => hL p (List.mem_cons_of_mem _ hp)) hq
   exact this σ (fun p hp => by have := List.all_eq_true.1 hs3 p hp; simp only [Bool.and_eq_true, decide_eq_true_eq] at this; exact this.1) hq
  have hfix : ∀ n, n < C.k → Km σ n = n := by
   intro n hn
   have : ∀ L : List (Nat × Nat), (∀ p, p ∈ L → (if p.1 < C.k then p.1 = p.2 else C.k ≤ p.2)) → Km L n = n := by
    intro L
    induction L with
    | nil => intro _; rfl
    | cons r L ih =>
     intro hL
     rw [Km]
     split
     ·rename_i er
      have := hL r (List.mem_cons_self ..)
      split at this
      ·omega
      ·omega
     ·exact ih fun p hp => hL p (List.mem_cons_of_mem _ hp)
   refine this σ fun p hp => ?_
   have := List.all_eq_true.1 hs3 p hp
   simp only [Bool.and_eq_true] at this
   have h2 := this.2
   split
   ·rename_i h3; rw [if_pos h3] at h2; simpa using h2
   ·rename_i h3; rw [if_neg h3] at h2; simpa using h2
  have hfr : ∀ t x, (mk ((wE L ks).map fun p => (p.1, p.2.ren (dL σ))) ((wE G (σ.map (·.1))).map fun p => (dL σ p.1, p.2.ren (dL σ))) lim2).fr t = some x → ∃ y, L.lookup t = some y ∧ x = y.ren (dL σ) ∧ y.plain = true ∧ ∀ n, n ∈ y.ments → rW σ n = true := by
   intro t x hx
   obtain ⟨y, hy, rfl⟩ := uD (f := fun z : AV => z.ren (dL σ)) t hx
   have hm := fI hy
   have := List.all_eq_true.1 hL _ hm
   simp only [Bool.and_eq_true] at this
   refine ⟨y, ?_, rfl, this.1, fun n hn => List.all_eq_true.1 this.2 n hn⟩
   exact Jc hy
  have hdomG : ∀ p, p ∈ wE G (σ.map (·.1)) → rW σ p.1 = true := fun p hp => by
   have := (rF hp).1
   simp only [List.mem_map] at this
   obtain ⟨q, hq, he⟩ := this
   exact List.any_eq_true.2 ⟨q, hq, by simpa using he⟩
  have hown : ∀ n o, (mk ((wE L ks).map fun p => (p.1, p.2.ren (dL σ))) ((wE G (σ.map (·.1))).map fun p => (dL σ p.1, p.2.ren (dL σ))) lim2).H n = some o → ∃ m p, G.lookup m = some p ∧ rW σ m = true ∧ n = dL σ m ∧ o = p.ren (dL σ) ∧ ∀ x, x ∈ p.ments → rW σ x = true := by
   intro n o hn
   have key : ∀ L : List (Nat × aY), (∀ p, p ∈ L → rW σ p.1 = true) → (L.map fun p => (dL σ p.1, p.2.ren (dL σ))).lookup n = some o → ∃ m p, L.lookup m = some p ∧ rW σ m = true ∧ n = dL σ m ∧ o = p.ren (dL σ) := by
    intro L hL hn
    induction L with
    | nil => simp at hn
    | cons q L ih =>
     rw [List.map_cons, List.lookup_cons] at hn
     split at hn
     ·rename_i he
      refine ⟨q.1, q.2, by rw [List.lookup_cons, beq_self_eq_true], hL q (List.mem_cons_self ..), beq_iff_eq.1 he, (Option.some.inj hn).symm⟩
     ·rename_i he
      obtain ⟨m, p, h1, h2, h3, h4⟩ := ih (fun p hp => hL p (List.mem_cons_of_mem _ hp)) hn
      refine ⟨m, p, ?_, h2, h3, h4⟩
      rw [List.lookup_cons]
      have : (m == q.1) = false := by
       rw [beq_eq_false_iff_ne]
       intro e
       rw [h3, e] at he
       simp at he
      rw [this]
      exact h1
   obtain ⟨m, p, h1, h2, h3, h4⟩ := key _ hdomG hn
   have hm := fI h1
   refine ⟨m, p, ?_, h2, h3, h4, fun x hx => List.all_eq_true.1 (List.all_eq_true.1 hG _ hm) x hx⟩
   exact Jc h1
  intro D β μ a W hr
  refine ⟨fun n => β (Km σ n), μ, ⟨⟨hr.f.defers, hr.f.size, fun t x ht => ?_, fun t x ht n hn => ?_⟩, ⟨hr.w.keep, hr.w.size, hr.w.os, hr.w.tape, hr.w.output, fun n o hn => ?_, fun n m o p hn hm h1 h2 he => ?_, hr.w.imm, fun n o hn h0 => ?_, fun n o hn h0 => ?_, fun n o hn => ?_, hr.w.mu, hr.w.newc, hr.w.newm, hr.w.glob, fun n hn => ⟨Nat.lt_of_lt_of_le hn hs4, by simp only [hfix n hn]; exact (hr.w.fix n hn).2⟩⟩⟩⟩
  ·obtain ⟨y, h1, rfl, h2, h3⟩ := hfr t x ht
   obtain ⟨v, hv, hd⟩ := hr.f.den t y h1
   refine ⟨v, hv, (rM h2).2 (hd.mono (bV.le_refl μ) fun n hn => ?_)⟩
   simp only [hinv n (h3 n hn)]
  ·obtain ⟨y, h1, rfl, h2, h3⟩ := hfr t x ht
   rw [Dd h2] at hn
   obtain ⟨m, hm, rfl⟩ := List.mem_map.1 hn
   exact hval m (h3 m hm)
  ·obtain ⟨m, p, h1, h2, rfl, rfl, h4⟩ := hown n o hn
   simp only [hinv m h2]
   exact Ax.2 ((hr.w.own m p h1).mono (bV.le_refl μ) (fun x hx => by simp only [hinv x (h4 x hx)]) (fun _ => rfl))
  ·obtain ⟨n', p', g1, g2, rfl, rfl, g4⟩ := hown n o hn
   obtain ⟨m', q', k1, k2, rfl, rfl, k4⟩ := hown m p hm
   simp only [hinv n' g2] at h1 he
   simp only [hinv m' k2] at h2 he
   rw [hr.w.inj n' m' p' q' g1 k1 h1 h2 he]
  ·obtain ⟨m, p, h1, h2, rfl, rfl, h4⟩ := hown n o hn
   simp only [hinv m h2] at h0 ⊢
   exact yA.2 (hr.w.sep m p h1 h0)
  ·obtain ⟨m, p, h1, h2, rfl, rfl, h4⟩ := hown n o hn
   simp only [hinv m h2] at h0 ⊢
   exact hr.w.loc m p h1 h0
  ·obtain ⟨m, p, h1, h2, rfl, rfl, h4⟩ := hown n o hn
   refine ⟨hval m h2, fun x hx => ?_⟩
   rw [Dy] at hx
   obtain ⟨y, hy, rfl⟩ := List.mem_map.1 hx
   exact hval y (h4 y hy)
 ·cases h
end Go.Bm
namespace Go.Bm
open Go
def mkK (P : Program) : TypeDesc → Option TK
 | .slice e => some (.sl e)
 | .array n e => some (.arr n e)
 | .struct f => match f.toList.mapM (fun x => (P.info? x.type).map fun i => (x.type, x.offset, i.size)) with
  | some l => some (.st l)
  | none => none
 | .map k e => some (.mp k e)
 | .string => some .str
 | .bool => some .boo
 | .int k => some (.int k)
 | _ => some .oth
def Ya : Value → Bool
 | .agg _ => true
 | _ => false
def Zn : Value → Bool
 | .agg _ => false
 | .tuple _ => false
 | _ => true
def zOk (ag : Bool) (z : Value) : Bool := if ag then Ya z else Zn z
def eD (P : Program) (T : TypeId) : Option TI :=
 match P.info? T, P.underlying T with
 | some f, some d => match mkK P d, f.zero with
  | some k, some z => if zOk k.agg z = true then some ⟨k, f.size, f.bytes, z.cells.toList⟩ else none
  | _, _ => none
 | _, _ => none
theorem xU {α β : Type} {f : α → Option β} : ∀ {l : List α} {r : List β}, l.mapM f = some r → ∀ (i : Nat) (y : β), r[i]? = some y → ∃ x, l[i]? = some x ∧ f x = some y
 | [], r, h, i, y, hy => by simp at h; subst h; simp at hy
 | x :: l, r, h, i, y, hy => by
  simp only [List.mapM_cons, Option.bind_eq_bind, Option.pure_def] at h
  cases hx : f x with
  | none => simp [hx] at h
  | some z =>
   cases hl : l.mapM f with
   | none => simp [hx, hl] at h
   | some r' =>
    simp [hx, hl] at h
    subst h
    cases i with
    | zero => simp at hy; subst hy; exact ⟨x, rfl, hx⟩
    | succ i => exact xU hl i y hy
theorem wW {α β : Type} {f : α → Option β} : ∀ {l : List α} {r : List β}, l.mapM f = some r → r.length = l.length
 | [], r, h => by simp at h; subst h; rfl
 | x :: l, r, h => by
  simp only [List.mapM_cons, Option.bind_eq_bind, Option.pure_def] at h
  cases hx : f x with
  | none => simp [hx] at h
  | some z =>
   cases hl : l.mapM f with
   | none => simp [hx, hl] at h
   | some r' =>
    simp [hx, hl] at h
    subst h
    simp [wW hl]
theorem bI {P : Program} {T : TypeId} {i : TI} (h : eD P T = some i) : i.ok P T := by
 unfold eD at h
 split at h
 ·rename_i f d hf hd
  split at h
  ·rename_i k z hk hz
   split at h
   ·rename_i hag
    obtain rfl := Option.some.inj h
    refine ⟨?_, f, hf, rfl, rfl, z, hz, rfl, ?_⟩
    ·unfold mkK at hk
     cases d with
     | struct F =>
      simp only at hk
      split at hk
      ·rename_i l hl
       obtain rfl := Option.some.inj hk
       refine ⟨F, hd, fun i t o n hi => ?_, by have := wW hl; simpa using this.symm⟩
       obtain ⟨x, hx, hxy⟩ := xU hl i _ hi
       simp only [Option.map_eq_some_iff, Prod.mk.injEq] at hxy
       obtain ⟨inf, h1, h2, h3, h4⟩ := hxy
       exact ⟨x, inf, by simpa using hx, h2, h3, h2 ▸ h1, h4⟩
      ·cases hk
     | _ => first | (obtain rfl := Option.some.inj hk; exact hd) | (obtain rfl := Option.some.inj hk; exact ⟨_, hd, trivial⟩)
    ·cases hka : k.agg with
     | false =>
      simp only [hka, zOk, Bool.false_eq_true, if_false] at hag ⊢
      cases z <;> first | rfl | cases hag
     | true =>
      simp only [hka, zOk, if_true] at hag ⊢
      cases z <;> first | rfl | cases hag
   ·cases h
  ·cases h
 ·cases h
def aV {J β : Type} (j : J) (b : J → β) : β := b j
def idx {α : Type} (l : List α) (i : Int) : Option α := if 0 ≤ i then l[i.toNat]? else none
def wU (s : ByteArray) (i : Int) : Option Int := if 0 ≤ i then (s[i.toNat]?).map fun u => (u.toNat : Int) else none
theorem aB {α β : Type} {X : Option α} {f : α → Option β} {r : β} (h : X.bind f = some r) : ∃ y, X = some y ∧ f y = some r := by
 cases X with
 | none => cases h
 | some y => exact ⟨y, rfl, h⟩
theorem Zp {C : bP} {c : Operand} {x y : Code} {s : St} {K : Exit → St → Prop} {t : Bool} {α : Type} {A B : Option α} {r : α} (hc : s.ev C c = some (.c (.v (.bool t)))) (h : (if t = true then A else B) = some r) (h1 : A = some r → AW C x s K) (h2 : B = some r → AW C y s K) : AW C (.cond c x y) s K :=
 Uz hc (fun e => h1 (by rw [if_pos e] at h; exact h)) (fun e => h2 (by rw [if_neg (by simp [e])] at h; exact h))
theorem aQ {C : bP} {X Y : Code} {s : St} {K : Exit → St → Prop} {J β : Type} {j : J} {b : J → Option β} {r : β} (h : aV j b = some r) (Q : (St → Prop) → J → Prop) (hQ : Q (fun s' => AW C Y s' K) j) (k : ∀ j (A : St → Prop), Q A j → b j = some r → AW C X s (Gh A K)) : AW C (.seq X Y) s K :=
 aK (k j _ hQ h)
theorem bA {C : bP} {c : Code} {s : St} {K : Exit → St → Prop} (I : Nat → St → Prop) (n0 : Nat) (s0 : St) (hv : dU C s s0) (h0 : I n0 s0) (hz : ∀ s, ¬ I 0 s) (h : ∀ n s, I (n + 1) s → AW C c s (Gh (I n) K)) : AW C (.loop c) s K :=
 Wc I n0 s0 hv h0 fun n s hi => by
  cases n with
  | zero => exact absurd hi (hz s)
  | succ n =>
   refine Iv (h n s hi) fun e s' hk => ?_
   cases e with
   | normal => exact ⟨n, s', Nat.lt_succ_self n, hk, dU.refl C s'⟩
   | exit id => exact hk
   | goto l => exact hk
   | ret => exact hk
   | panic ch => exact hk
   | outgrown => exact hk
def Uf (C : bP) (rs : List ResultVar) (r : AV) (Gf : List (Nat × aY)) : Exit → St → Prop := Fin C rs fun r' G' => (r' = r ∨ r'.pub = some r) ∧ ∀ n o, Gf.lookup n = some o → G' n = some o
theorem Tk {Gf G : List (Nat × aY)} (h : Gf.map (fun p => G.lookup p.1) = Gf.map (fun p => some p.2)) : ∀ n o, Gf.lookup n = some o → G.lookup n = some o := by
 induction Gf with
 | nil => intro n o hn; simp at hn
 | cons p Gf ih =>
  intro n o hn
  simp only [List.map_cons, List.cons.injEq] at h
  rw [List.lookup_cons] at hn
  split at hn
  ·rename_i he
   obtain rfl := Option.some.inj hn
   rw [beq_iff_eq.1 he]; exact h.1
  ·exact ih h.2 n o hn
theorem Vl {C : bP} {rs : List ResultVar} {r A : AV} {Gf : List (Nat × aY)} {e : Exit} {L : List (Nat × AV)} {G : List (Nat × aY)} {lim : Nat} (he : e = .ret ∨ e = .normal) (h1 : (mk L G lim).res C rs = some A) (h2 : A.pub = some r) (h3 : Gf.map (fun p => G.lookup p.1) = Gf.map (fun p => some p.2)) : Uf C rs r Gf e (mk L G lim) :=
 ⟨he, A, h1, .inr h2, Tk h3⟩
theorem Bn {C : bP} {rs : List ResultVar} {r : AV} {Gf : List (Nat × aY)} {e : Exit} {L : List (Nat × AV)} {G : List (Nat × aY)} {lim : Nat} (he : e = .ret ∨ e = .normal) (h1 : (mk L G lim).res C rs = some r) (h3 : Gf.map (fun p => G.lookup p.1) = Gf.map (fun p => some p.2)) : Uf C rs r Gf e (mk L G lim) :=
 ⟨he, r, h1, .inl rfl, Tk h3⟩
def Hx (n k : Nat) (args : List AV) (G : List (Nat × aY)) : Bool :=
 decide (args.length ≤ n) && args.all (fun A => A.ments.all fun m => decide (m < k)) && G.all fun p => decide (p.1 < k) && p.2.ments.all fun m => decide (m < k)
theorem Yy {E : oD} {F : FuncId} {fn : Func} {c : Code} {rs : List ResultVar} {n k : Nat} {L : List (Nat × AV)} {args : List AV} {G : List (Nat × aY)} {r : AV} {Gf : List (Nat × aY)} (hf : E.P.funcs[F]? = some fn) (hb : fn.body = some c) (hn : fn.ntmps = n) (hrs : fn.results.toList = rs) (hchk : Hx n k args G = true) (hL : args.zipIdx.map (fun p => (p.2, p.1)) = L)
  (h : AW (bP.st E n k none) c (mk L G k) (Uf (bP.st E n k none) rs r Gf)) : cN E F k args G r Gf := by
 subst hn hrs hL
 simp only [Hx, Bool.and_eq_true, decide_eq_true_eq] at hchk
 obtain ⟨⟨c1, c2⟩, c3⟩ := hchk
 refine fn_of hf hb c1 (fun A hA n hn => ?_) (fun n o hn => ?_) ?_
 ·have := List.all_eq_true.1 (List.all_eq_true.1 c2 A hA) n hn
  simpa using this
 ·have := List.all_eq_true.1 c3 _ (fI hn)
  simp only [Bool.and_eq_true, decide_eq_true_eq] at this
  exact ⟨this.1, fun m hm => by have := List.all_eq_true.1 this.2 m hm; simpa using this⟩
 ·have he : (⟨fun t => args[t]?, fun n => G.lookup n, k⟩ : St) = mk (args.zipIdx.map fun p => (p.2, p.1)) G k := by
   unfold mk
   congr 1
   funext t
   have key : ∀ (l : List AV) (k : Nat), ((l.zipIdx k).map fun p => (p.2, p.1)).lookup (k + t) = l[t]? := by
    intro l
    induction l generalizing t with
    | nil => intro k; rfl
    | cons x l ih =>
     intro k
     simp only [List.zipIdx_cons, List.map_cons, List.lookup_cons]
     cases t with
     | zero => simp
     | succ t =>
      have : (k + (t + 1) == k) = false := by simp
      rw [this]
      have := ih t (k + 1)
      rw [show k + (t + 1) = k + 1 + t by omega, this]
      rfl
   simpa using (key args 0).symm
  rw [he]
  exact h
theorem Gp {C : bP} {ks : List Nat} {L L' : List (Nat × AV)} {G : List (Nat × aY)} {lim lim' : Nat} (hL : kF ks L = L') (hl : lim ≤ lim') : dU C (mk L G lim) (mk L' G lim') := by
 subst hL
 intro D β μ a W hr
 refine ⟨β, μ, (hr.forget (s' := mk (kF ks L) G lim') (fun t x hx => ?_) fun _ _ h => h).weaken fun n hn => Nat.lt_of_lt_of_le hn hl⟩
 have : (kF ks L).lookup t = some x := hx
 rw [vN] at this
 split at this
 ·exact this
 ·cases this
def rZ (C : bP) (ops : Array Oper) (dr : Bool) (T : List (List Nat)) (b : Nat) (L : List (Nat × AV)) (G : List (Nat × aY)) : Option (List (Nat × AV) × List (Nat × aY)) :=
 match wL C ops dr T b ops.toList.length 0 ops.toList L G [] with
 | some ([], L', G', _) => some (L', G')
 | _ => none
theorem En {C : bP} {ops : Array Oper} {dr : Bool} {T : List (List Nat)} {b : Nat} {L L' : List (Nat × AV)} {G G' : List (Nat × aY)} (h : rZ C ops dr T b L G = some (L', G')) : ∃ D, wL C ops dr T b ops.toList.length 0 ops.toList L G [] = some ([], L', G', D) := by
 unfold rZ at h
 split at h
 ·rename_i L1 G1 D1 h1
  simp only [Option.some.injEq, Prod.mk.injEq] at h
  obtain ⟨rfl, rfl⟩ := h
  exact ⟨D1, h1⟩
 ·cases h
def Eb (C : bP) (ops : Array Oper) (dr : Bool) (T : List (List Nat)) (b k i : Nat) (l : List Oper) (L : List (Nat × AV)) (G : List (Nat × aY)) (D : List (Nat × Fx)) : Option (List (Nat × AV) × List (Nat × aY) × List (Nat × Fx)) :=
 match wL C ops dr T b k i l L G D with
 | some p => some p.2
 | none => none
theorem Hd {C : bP} {ops : Array Oper} {dr : Bool} {T : List (List Nat)} {b : Nat} : ∀ (k : Nat) {i : Nat} {l : List Oper} {L : List (Nat × AV)} {G : List (Nat × aY)} {D : List (Nat × Fx)} {p : List Oper × List (Nat × AV) × List (Nat × aY) × List (Nat × Fx)}, wL C ops dr T b k i l L G D = some p → p.1 = l.drop k
 | 0, i, l, L, G, D, p, h => by simp only [wL, Option.some.injEq] at h; subst h; rfl
 | k + 1, i, [], L, G, D, p, h => by simp [wL] at h
 | k + 1, i, o :: os, L, G, D, p, h => by
  simp only [wL] at h
  split at h
  ·exact Hd k h
  ·cases h
theorem Ku {C : bP} {ops : Array Oper} {dr : Bool} {T : List (List Nat)} {b : Nat} {lim : Nat} {K : St → Prop} (k : Nat) {i : Nat} {l : List Oper} {D D' : List (Nat × Fx)} {L L' : List (Nat × AV)} {G G' : List (Nat × aY)} (h : Eb C ops dr T b k i l L G D = some (L', G', D')) (hk : RX C ops dr T b (i + k) (l.drop k) D' (mk L' G' lim) K) : RX C ops dr T b i l D (mk L G lim) K := by
 unfold Eb at h
 split at h
 ·rename_i p hp
  obtain ⟨l', L1, G1, D1⟩ := p
  simp only [Option.some.injEq, Prod.mk.injEq] at h
  obtain ⟨rfl, rfl, rfl⟩ := h
  have := Hd k hp
  simp only at this
  subst this
  exact Bc k hp hk
 ·cases h
section
variable {C : bP} {id : Nat} {ops : Array Oper} {y : Code} {L L' : List (Nat × AV)} {G G' : List (Nat × aY)} {lim n : Nat} {K : Exit → St → Prop}
theorem Ze {ks : List Nat} (h : ∀ D, rZ (C.on D) ops false [] lim L G = some (L', G')) {L2 : List (Nat × AV)} (hL : kF ks L' = L2) (hn : lim + ops.toList.length = n) (hk : AW C y (mk L2 G' n) K) (hnd : tF C ops = true := by kernel_rfl) : AW C (.seq (.region id ops false) y) (mk L G lim) K := by
 subst hn
 refine aK (Hs rfl (fun D => ?_) hnd)
 obtain ⟨D', h⟩ := En (h D)
 refine Bc ops.toList.length h (Bl ?_)
 show AW C y _ K
 exact aI (Gp hL (Nat.le_refl _)) hk
theorem Vj (h : ∀ D, rZ (C.on D) ops false [] lim L G = some (L', G')) (hn : lim + ops.toList.length = n) (hk : K .normal (mk L' G' n)) (hnd : tF C ops = true := by kernel_rfl) : AW C (.region id ops false) (mk L G lim) K := by
 subst hn
 refine Hs rfl (fun D => ?_) hnd
 obtain ⟨D', h⟩ := En (h D)
 exact Bc ops.toList.length h (Bl hk)
theorem Xw (hn : lim + ops.toList.length = n) (hk : ∀ D, RX (C.on D) ops false [] lim 0 ops.toList [] (mk L G lim) fun s' => AW C y { s' with lim := n } K) (hnd : tF C ops = true := by kernel_rfl) : AW C (.seq (.region id ops false) y) (mk L G lim) K := by
 subst hn; exact aK (Hs rfl hk hnd)
theorem Wf (hn : lim + ops.toList.length = n) (hk : ∀ D, RX (C.on D) ops false [] lim 0 ops.toList [] (mk L G lim) fun s' => K .normal { s' with lim := n }) (hnd : tF C ops = true := by kernel_rfl) : AW C (.region id ops false) (mk L G lim) K := by
 subst hn; exact Hs rfl hk hnd
theorem Zh {T : List (List Nat)} (hT : Ae ops T = true) (hn : lim + ops.toList.length = n) (hk : ∀ D, RX (C.on D) ops true T lim 0 ops.toList [] (mk L G lim) fun s' => AW C y { s' with lim := n } K) (hnd : tF C ops = true := by kernel_rfl) : AW C (.seq (.region id ops true) y) (mk L G lim) K := by
 subst hn; exact aK (Nw T hT rfl hk hnd)
theorem Wa {T : List (List Nat)} (hT : Ae ops T = true) (hn : lim + ops.toList.length = n) (hk : ∀ D, RX (C.on D) ops true T lim 0 ops.toList [] (mk L G lim) fun s' => K .normal { s' with lim := n }) (hnd : tF C ops = true := by kernel_rfl) : AW C (.region id ops true) (mk L G lim) K := by
 subst hn; exact Nw T hT rfl hk hnd
theorem Xk {C' : bP} {dr : Bool} {T : List (List Nat)} {b i m : Nat} {D : List (Nat × Fx)} (ks : List Nat) {L2 : List (Nat × AV)} (hL : kF ks L = L2) (hk : AW C y (mk L2 G m) K) : RX C' ops dr T b i [] D (mk L G lim) fun s' => AW C y { s' with lim := m } K :=
 Bl (aI (Gp hL (Nat.le_refl m)) hk)
theorem bL {C' : bP} {dr : Bool} {T : List (List Nat)} {b i m : Nat} {D : List (Nat × Fx)} (hk : K .normal (mk L G m)) : RX C' ops dr T b i [] D (mk L G lim) fun s' => K .normal { s' with lim := m } :=
 Bl hk
end
section
variable {C : bP} {ops : Array Oper} {dr : Bool} {T : List (List Nat)} {b i : Nat} {o : Oper} {os : List Oper} {D D' : List (Nat × Fx)} {L L' : List (Nat × AV)} {G G' : List (Nat × aY)} {lim : Nat} {K : St → Prop}
def rJ (C : bP) (ops : Array Oper) (dr : Bool) (T : List (List Nat)) (b i : Nat) (o : Oper) (L : List (Nat × AV)) (D : List (Nat × Fx)) (v : AV) (foot : List Nat) : Bool :=
 nX C.n o && (match gB ops o (fun t => L.lookup t) with | some true => true | _ => false) && gR dr T b i D (some v) [] foot []
theorem cF {v : AV} {foot : List Nat} (hrd : rd C (mk L G lim) o.op = some ⟨some v, [], foot, []⟩) (hchk : rJ C ops dr T b i o L D v foot = true) (hL : kM o.dst (some v) L = L') (hD : fN dr D i foot [] = D') (hk : RX C ops dr T b (i + 1) os D' (mk L' G lim) K) : RX C ops dr T b i (o :: os) D (mk L G lim) K := by
 subst hL hD
 simp only [rJ, Bool.and_eq_true] at hchk
 obtain ⟨⟨c1, c2⟩, c3⟩ := hchk
 have hw : gB ops o (fun t => L.lookup t) = some true := by
  split at c2
  ·assumption
  ·cases c2
 refine kW (fun hi => Mk hi (s := mk L G lim) hw (dN c1) hrd) c3 ?_
 rw [gJ]
 exact hk
def Vp (C : bP) (o : Oper) (L : List (Nat × AV)) : Option (List (List CV) × Int × Nat) :=
 match o.op with
 | .indexAddr T x y => match (mk L [] 0).ev C x, (mk L [] 0).ev C y, C.E.ti T with
  | some (.c (.lit l)), some (.c (.v (.int _ i))), some ⟨.sl e, _, _, _⟩ => match C.E.ti e with | some j => some (l, i, j.size) | none => none
  | some (.c (.app _ l)), some (.c (.v (.int _ i))), some ⟨.sl e, _, _, _⟩ => match C.E.ti e with | some j => some (l, i, j.size) | none => none
  | _, _, _ => none
 | _ => none
theorem dR {α : Type} {enc : α → List CV} {l : List α} {ix : Int} {e : α} {c : List CV} {sz : Nat} (he : idx l ix = some e) (h : Vp C o L = some (l.map enc, ix, sz)) (hc : enc e = c) (hlen : c.length = sz) : rd C (mk L G lim) o.op = some ⟨some (.c (.imm c)), [], [], []⟩ := by
 unfold idx at he
 split at he
 ·rename_i h0
  have hi : (l.map enc)[ix.toNat]? = some c := by rw [List.getElem?_map, he, ← hc]; rfl
  unfold Vp at h
  split at h
  ·rename_i T' x y ho
   have hx : ∀ z, (mk L G lim).ev C z = (mk L [] 0).ev C z := fun z => eE rfl z
   rw [ho]
   split at h
   ·rename_i l' k' i' e' z1 z2 z3 h1 h2 h3
    split at h
    ·rename_i j hj
     simp only [Option.some.injEq, Prod.mk.injEq] at h
     obtain ⟨rfl, rfl, rfl⟩ := h
     simp only [rd, hx, h1, h2, h3, hj, h0, if_true, hi, hlen]
     rfl
    ·cases h
   ·rename_i n' l' k' i' e' z1 z2 z3 h1 h2 h3
    split at h
    ·rename_i j hj
     simp only [Option.some.injEq, Prod.mk.injEq] at h
     obtain ⟨rfl, rfl, rfl⟩ := h
     simp only [rd, hx, h1, h2, h3, hj, h0, if_true, hi, hlen]
     rfl
    ·cases h
   ·cases h
  ·cases h
 ·cases he
def Od (C : bP) (o : Oper) (L : List (Nat × AV)) : Option (ByteArray × Int) :=
 match o.op with
 | .index T x y => match (mk L [] 0).ev C x, (mk L [] 0).ev C y, C.E.ti T with
  | some (.c (.v (.string s))), some (.c (.v (.int _ i))), some ⟨.str, _, _, _⟩ => some (s, i)
  | _, _, _ => none
 | _ => none
theorem vG {s : ByteArray} {ix u : Int} (he : wU s ix = some u) (h : Od C o L = some (s, ix)) : rd C (mk L G lim) o.op = some ⟨some (.c (.v (.int .u8 u))), [], [], []⟩ := by
 unfold wU at he
 split at he
 ·rename_i h0
  simp only [Option.map_eq_some_iff] at he
  obtain ⟨w, hw, rfl⟩ := he
  unfold Od at h
  split at h
  ·rename_i T' x y ho
   have hx : ∀ z, (mk L G lim).ev C z = (mk L [] 0).ev C z := fun z => eE rfl z
   rw [ho]
   split at h
   ·rename_i l' k' i' e' z1 h1 h2 h3
    simp only [Option.some.injEq, Prod.mk.injEq] at h
    obtain ⟨rfl, rfl⟩ := h
    simp only [rd, hx, h1, h2, h3, h0, if_true, hw]
    rfl
   ·cases h
  ·cases h
 ·cases he
theorem Ur {s : ByteArray} {ix u : Int} (he : wU s ix = some u) (h : Od C o L = some (s, ix)) (hchk : rJ C ops dr T b i o L D (.c (.v (.int .u8 u))) [] = true) (hL : kM o.dst (some (.c (.v (.int .u8 u)))) L = L') (hD : fN dr D i [] [] = D') (hk : RX C ops dr T b (i + 1) os D' (mk L' G lim) K) : RX C ops dr T b i (o :: os) D (mk L G lim) K :=
 cF (v := .c (.v (.int .u8 u))) (foot := []) (vG he h) hchk hL hD hk
def Zi (C : bP) (o : Oper) (L : List (Nat × AV)) : Option (List (List CV)) :=
 match o.op with
 | .call ⟨.builtin .len, args, ts⟩ => match args[0]?, ts[0]? with
  | some x, some T => match (mk L [] 0).ev C x, C.E.ti T with
   | some (.c (.lit l)), some ⟨.sl _, _, _, _⟩ => some l
   | some (.c (.app _ l)), some ⟨.sl _, _, _, _⟩ => some l
   | _, _ => none
  | _, _ => none
 | _ => none
theorem kR {α : Type} {enc : α → List CV} {l : List α} (h : Zi C o L = some (l.map enc)) : rd C (mk L G lim) o.op = some ⟨some (.c (.v (.int .i64 l.length))), [], [], []⟩ := by
 unfold Zi at h
 split at h
 ·rename_i args ts ho
  have hx : ∀ z, (mk L G lim).ev C z = (mk L [] 0).ev C z := fun z => eE rfl z
  rw [ho]
  split at h
  ·rename_i x T' ha ht
   split at h
   ·rename_i l' e' z1 z2 z3 h1 h2
    obtain rfl := Option.some.inj h
    simp only [rd, ha, ht, hx, h1, h2, List.length_map]
    rfl
   ·rename_i n' l' e' z1 z2 z3 h1 h2
    obtain rfl := Option.some.inj h
    simp only [rd, ha, ht, hx, h1, h2, List.length_map]
    rfl
   ·cases h
  ·cases h
 ·cases h
def yC (C : bP) (ops : Array Oper) (o : Oper) (L : List (Nat × AV)) : Option (FuncId × List AV) :=
 match o.op with
 | .call ⟨.value (.func F), args, _⟩ => match nX C.n o, gB ops o (fun t => L.lookup t), Oa C (mk L [] 0) args.toList with
  | true, some true, some As => some (F, As)
  | _, _, _ => none
 | _ => none
theorem Ba {C : bP} {s s' : St} (h1 : s.fr = s'.fr) : ∀ l, Oa C s l = Oa C s' l
 | [] => rfl
 | x :: l => by simp only [Oa, eE h1 x, Ba h1 l]
theorem Vf {nm : Nat} {H : Nat → Option aY} : yV 0 id none nm [] [] H :=
 ⟨by simp, by simp, by simp, by simp, by simp, by simp⟩
theorem Uu {F : FuncId} {As Bs : List AV} {r v : AV} (h : yC C ops o L = some (F, As)) (hF : bQ C.E F) (hB : uF As = some Bs) (hc : cN C.E F 0 Bs [] r []) (hr : r.pub = some v) (hchk : gR dr T b i D (some v) [] [] [] = true) (hL : kM o.dst (some v) L = L') (hD : fN dr D i [] [] = D') (hk : RX C ops dr T b (i + 1) os D' (mk L' G lim) K) : RX C ops dr T b i (o :: os) D (mk L G lim) K := by
 subst hL hD
 unfold yC at h
 split at h
 ·rename_i F' args ts ho
  split at h
  ·rename_i As' h1 h2 h3
   simp only [Option.some.injEq, Prod.mk.injEq] at h
   obtain ⟨rfl, rfl⟩ := h
   have hA : Oa C (mk L G lim) args.toList = some As' := (Ba (s := mk L G lim) (s' := mk L [] 0) rfl _).trans h3
   have hAB : uQ id As' Bs := by
    have key : ∀ (As Bs : List AV), uF As = some Bs → uQ id As Bs := by
     intro As
     induction As with
     | nil => intro Bs hB; simp only [uF, Option.some.injEq] at hB; subst hB; trivial
     | cons A As ih =>
      intro Bs hB
      simp only [uF] at hB
      split at hB
      ·rename_i y r hy hr
       obtain rfl := Option.some.inj hB
       refine ⟨.inl ?_, ih _ hr⟩
       cases A with
       | tup l => cases hy
       | cnd gs x => cases hy
       | c x => exact hy
       | agg l => exact hy
      ·cases hB
    exact key _ _ hB
   have := fun hi => De (C := C) (ops := ops) (i := i) (o := o) (s := mk L G lim) (nm := 0) hi h2 (dN h1) (args := args.toList) (ts := ts) (by simpa using ho) hF hA hAB hc Vf (.inl hr)
   refine kW this (by simpa [jX, xH] using hchk) ?_
   rw [gJ]
   exact hk
  ·cases h
 ·cases h
end
end Go.Bm
namespace Go.Bm
open Go
def Zm (w h : Bool) : Bool := if w then h else !h
theorem Ga (w c : Bool) : (some c == some w) = Zm w c := by cases w <;> cases c <;> rfl
def oB (ops : Array Oper) (o : Oper) (L : List (Nat × AV)) : Option (List Bool) :=
 match o.guard with
 | none => some []
 | some (j, w) => match (ops[j]?).bind (·.dst) with
  | none => none
  | some t => match L.lookup t with
   | some (.c (.v (.bool c))) => some [Zm w c]
   | some (.cnd gs (.c (.v (.bool c)))) => some (gs ++ [Zm w c])
   | _ => none
def gd {α : Type} [Inhabited α] (e : List Bool) (x : Option α) : Option α := if e.all id = true then x else some default
theorem bT {α : Type} [Inhabited α] {e : List Bool} {x : Option α} {y : α} (h : gd e x = some y) (he : e.all id = true) : x = some y := by
 unfold gd at h; rw [if_pos he] at h; exact h
theorem wS {C : bP} {ops : Array Oper} {o : Oper} {foot : List Nat} {L : List (Nat × AV)} {G : List (Nat × aY)} {lim : Nat} {s' : St} {U : Nat → Prop} {β : Nat → Bk} {μ : bV} {a : Act} {W : World} {e : List Bool} (h : oB ops o L = some e) (ha : rX ops o foot (mk L G lim) s') (hr : nI C s' U β μ a W) : Region.wanted o (yielded ops a.tmps) = e.all id := by
 unfold oB at h
 unfold Region.wanted
 cases hg : o.guard with
 | none => simp only [hg, Option.some.injEq] at h; subst h; rfl
 | some p =>
  obtain ⟨j, w⟩ := p
  simp only [hg] at h ⊢
  cases ht : (ops[j]?).bind (·.dst) with
  | none => simp [ht] at h
  | some t =>
   simp only [ht] at h
   have hfr : s'.fr t = L.lookup t := ha.1 t (List.mem_append_right _ (by simp [hg, ht]))
   have hy : ∀ x, L.lookup t = some x → ∃ v, a.tmps[t]? = some v ∧ cP μ β x v := fun x hx => hr.f.den t x (hfr.trans hx)
   simp only [yielded, ht, Option.bind_some]
   split at h
   ·rename_i c hc
    obtain ⟨v, hv, hd⟩ := hy _ hc
    cases hd
    simp only [Option.some.injEq] at h
    subst h
    simp only [hv, Ga, List.all_cons, List.all_nil, Bool.and_true, id]
   ·rename_i gs c hc
    obtain ⟨v, hv, hd⟩ := hy _ hc
    simp only [Option.some.injEq] at h
    subst h
    simp only [cP] at hd
    rw [List.all_append]
    split at hd
    ·rename_i hgs
     cases hd
     simp only [hv, Ga, hgs, List.all_cons, List.all_nil, Bool.and_true, Bool.true_and, id]
    ·rename_i hgs
     subst hd
     simp only [hv]
     rw [show gs.all id = false by simpa using hgs]
     rfl
   ·cases h
abbrev Ls := List (Nat × AV × Option Nat)
def Ls.st (l : Ls) : List (Nat × AV) := l.map fun q => (q.1, q.2.1)
def Ls.want (e : List Bool) (l : Ls) : List (Option AV) := l.map fun q => some (match q.2.2 with | none => q.2.1 | some m => .cnd (e.take m) q.2.1)
def Ls.have_ (L : List (Nat × AV)) (l : Ls) : List (Option AV) := l.map fun q => L.lookup q.1
def Ls.chk (ops : Array Oper) (o : Oper) (l : Ls) : Bool := l.all fun q => (o.looksAt ops).contains q.1 && q.2.1.plain
theorem Im {μ : bV} {β : Nat → Bk} {x : AV} {v : Value} (h : rT μ β x v) : x.ments = x.ments0 := by
 cases x with
 | cnd gs x => exact h.elim
 | c x => rfl
 | agg l => rfl
 | tup l => rfl
theorem qZ {C : bP} {ops : Array Oper} {o : Oper} {foot : List Nat} {L : List (Nat × AV)} {G : List (Nat × aY)} {lim : Nat} {s' : St} {U : Nat → Prop} {β : Nat → Bk} {μ : bV} {a : Act} {W : World} {e : List Bool} {l : Ls} (he : e.all id = true) (hs : l.have_ L = l.want e) (hc : l.chk ops o = true) (ha : rX ops o foot (mk L G lim) s') (h : nI C s' U β μ a W) :
  nI C ⟨fun t => l.st.lookup t, s'.H, s'.lim⟩ U β μ a W := by
 have key : ∀ t x, l.st.lookup t = some x → (∃ v, a.tmps[t]? = some v ∧ cP μ β x v) ∧ ∀ n, n ∈ x.ments → U n := by
  intro t x hx
  obtain ⟨q, hq, hq1, hq2⟩ : ∃ q, q ∈ l ∧ q.1 = t ∧ q.2.1 = x := by
   have := fI hx
   simp only [Ls.st, List.mem_map, Prod.mk.injEq] at this
   obtain ⟨q, hq, h1, h2⟩ := this
   exact ⟨q, hq, h1, h2⟩
  obtain ⟨j, hj⟩ := List.getElem?_of_mem hq
  have hl : (l.have_ L)[j]? = some (L.lookup q.1) := by simp only [Ls.have_, List.getElem?_map, hj, Option.map_some]
  have hr : (l.want e)[j]? = some (some (match q.2.2 with | none => q.2.1 | some m => .cnd (e.take m) q.2.1)) := by simp only [Ls.want, List.getElem?_map, hj, Option.map_some]
  rw [hs, hr] at hl
  have hl := (Option.some.inj hl).symm
  have hcq := List.all_eq_true.1 hc q hq
  simp only [Bool.and_eq_true, List.contains_eq_mem, decide_eq_true_eq] at hcq
  have hfr : s'.fr t = L.lookup t := by rw [← hq1]; exact ha.1 q.1 hcq.1
  rw [hq1] at hl
  rw [← hq2]
  cases hm : q.2.2 with
  | none =>
   rw [hm] at hl
   exact ⟨h.f.den t _ (hfr.trans hl), h.f.used t _ (hfr.trans hl)⟩
  | some m =>
   rw [hm] at hl
   obtain ⟨v, hv, hd⟩ := h.f.den t _ (hfr.trans hl)
   simp only [cP] at hd
   have htake : (e.take m).all id = true := by
    rw [List.all_eq_true] at he ⊢
    exact fun x hx => he x (List.mem_of_mem_take hx)
   rw [if_pos htake] at hd
   refine ⟨⟨v, hv, zQ hd⟩, fun n hn => h.f.used t _ (hfr.trans hl) n ?_⟩
   rw [Im hd] at hn
   exact hn
 exact ⟨⟨h.f.defers, h.f.size, fun t x hx => (key t x hx).1, fun t x hx => (key t x hx).2⟩, h.w⟩
def Qp (C : bP) (o : Oper) (L : List (Nat × AV)) (G : List (Nat × aY)) (v : AV) (foot : List Nat) : Prop :=
 ∀ (s' : St) (U : Nat → Prop) (β : Nat → Bk) (μ : bV) (a : Act) (W : World), (∀ x, x ∈ o.op.operands → s'.ev C x = (mk L G 0).ev C x) → (∀ n, n ∈ foot → s'.H n = G.lookup n) → nI C s' U β μ a W →
  ∀ (Q : Exit → Act → World → Prop) (K : Act → World → Prop), (∀ μ' W' y, WR C s'.H U β μ' W' → μ.le μ' → rT μ' β v y → K (a.put o.dst y) W') → o.wp C.E.P a W K Q
theorem So {C : bP} {o : Oper} {L : List (Nat × AV)} {G : List (Nat × aY)} {v : AV} {foot : List Nat} (hp : v.plain = true) (h : rd C (mk L G 0) o.op = some ⟨some v, [], foot, []⟩) : Qp C o L G v foot := by
 obtain ⟨h1, h2, v', h3, h4⟩ := Dc h
 obtain rfl := Option.some.inj h3
 intro s' U β μ a W he hf hr Q K hK
 obtain ⟨y, hy, hd⟩ := h4 o s' U β μ a W rfl he hf hr
 unfold Oper.wp
 rw [hy]
 exact hK μ W y hr.w (bV.le_refl μ) (Ht hp hd)
def Uk (e : List Bool) (v : AV) : AV := match e with | [] => v | _ => .cnd e v
theorem tY {C : bP} {ops : Array Oper} {i : Nat} {o : Oper} {L : List (Nat × AV)} {G : List (Nat × aY)} {lim : Nat} {e : List Bool} {l : Ls} {v : AV} {foot : List Nat} (hi : ops[i]? = some o) (hw : oB ops o L = some e) (hd : nX C.n o = true) (hp : v.plain = true) (hs : l.have_ L = l.want e) (hc : l.chk ops o = true) (h : e.all id = true → Qp C o l.st G v foot)
  (hall : o.op.operands.toList.all (fun x => match x with | .tmp t => l.any (fun q => q.1 == t) | _ => true) = true) : tU C ops i o (mk L G lim) (some (.cnd e v)) [] foot [] := by
 intro s' U β μ a W hag _ hm hr Q K hK
 have hd' := dN hd
 have hmv : ∀ n, n ∈ v.ments → U n := fun n hn => by
  have := hm.1 (.cnd e v) rfl n (by
   show n ∈ v.ments0
   cases v with
   | cnd gs x => cases hp
   | c x => exact hn
   | agg l => exact hn
   | tup l => exact hn)
  simpa using this
 unfold wpOp
 simp only [hi]
 rw [wS hw hag hr]
 by_cases he : e.all id = true
 ·rw [if_pos he]
  left
  have hr2 := qZ he hs hc hag hr
  refine h he ⟨fun t => l.st.lookup t, s'.H, s'.lim⟩ U β μ a W (fun x hx => ?_) (fun n hn => hag.2 n hn) hr2 Q K fun μ' W' y hwr hmu hy => hK β μ' _ W' ⟨?_, hwr.weaken fun n hn => .inl hn⟩
  ·cases x with
   | tmp t => rfl
   | _ => rfl
  ·refine (FR.put (hr.f.mono (fun _ _ => rfl) hmu) hd' fun x hx => ?_).weaken fun n hn => .inl hn
   obtain rfl := Option.some.inj hx
   refine ⟨?_, fun n hn => hmv n ?_⟩
   ·simp only [cP]; rw [if_pos he]; exact hy
   ·rw [Im hy]; exact hn
 ·rw [if_neg he]
  refine hK β μ _ W ⟨?_, hr.w.weaken fun n hn => .inl hn⟩
  refine (FR.put hr.f hd' fun x hx => ?_).weaken fun n hn => .inl hn
  obtain rfl := Option.some.inj hx
  refine ⟨?_, fun n hn => hmv n ?_⟩
  ·simp only [cP]; rw [if_neg he]; trivial
  ·cases v with
   | cnd gs x => cases hp
   | c x => exact hn
   | agg l => exact hn
   | tup l => exact hn
section
variable {C : bP} {ops : Array Oper} {dr : Bool} {T : List (List Nat)} {b i : Nat} {o : Oper} {os : List Oper} {D D' : List (Nat × Fx)} {L L' : List (Nat × AV)} {G G' : List (Nat × aY)} {lim : Nat} {K : St → Prop}
def yL (C : bP) (ops : Array Oper) (dr : Bool) (T : List (List Nat)) (b i : Nat) (o : Oper) (D : List (Nat × Fx)) (e : List Bool) (l : Ls) (v : AV) (foot : List Nat) : Bool :=
 nX C.n o && v.plain && l.chk ops o && gR dr T b i D (some (.cnd e v)) [] foot [] && o.op.operands.toList.all (fun x => match x with | .tmp t => l.any (fun q => q.1 == t) | _ => true)
theorem jW {e : List Bool} (l : Ls) {v : AV} {foot : List Nat} (hw : oB ops o L = some e) (hs : l.have_ L = l.want e) (hchk : yL C ops dr T b i o D e l v foot = true) (h : e.all id = true → rd C (mk l.st G 0) o.op = some ⟨some v, [], foot, []⟩) (hL : kM o.dst (some (.cnd e v)) L = L') (hD : fN dr D i foot [] = D') (hk : RX C ops dr T b (i + 1) os D' (mk L' G lim) K) : RX C ops dr T b i (o :: os) D (mk L G lim) K := by
 subst hL hD
 simp only [yL, Bool.and_eq_true] at hchk
 obtain ⟨⟨⟨⟨c1, c2⟩, c3⟩, c4⟩, c5⟩ := hchk
 refine kW (fun hi => tY (lim := lim) hi hw c1 c2 hs c3 (fun he => So c2 (h he)) c5) c4 ?_
 rw [gJ]
 exact hk
theorem Rk {e : List Bool} (l l1 l2 : Ls) {c x y : Operand} (ho : o.op = .pick c x y) {g : Bool} {vx vy z : Value} (hi : ops[i]? = some o) (hw : oB ops o L = some e) (hd : nX C.n o = true)
  (hs : l.have_ L = l.want e) (hs1 : l1.have_ L = l1.want (e ++ [g])) (hs2 : l2.have_ L = l2.want (e ++ [!g])) (hc : l.chk ops o = true) (hc1 : l1.chk ops o = true) (hc2 : l2.chk ops o = true)
  (h0 : (mk l.st G 0).ev C c = some (.c (.v (.bool g)))) (h1 : (mk l1.st G 0).ev C x = some (.c (.v vx))) (h2 : (mk l2.st G 0).ev C y = some (.c (.v vy))) (hz1 : g = true → z = vx) (hz2 : g = false → z = vy) : tU C ops i o (mk L G lim) (some (Uk e (.c (.v z)))) [] [] [] := by
 intro s' U β μ a W hag _ hm hr Q K hK
 have hd' := dN hd
 have hmz : ∀ n, n ∈ (Uk e (.c (.v z))).ments → U n := fun n hn => by
  unfold Uk at hn
  split at hn <;> simp [AV.ments, AV.ments0, AV.ments1, CV.ments, CV.ments1] at hn
 have hev : ∀ (l : Ls) (x : Operand), (mk l.st G 0).ev C x = St.ev C ⟨fun t => l.st.lookup t, s'.H, s'.lim⟩ x := fun l x => by cases x <;> rfl
 unfold wpOp
 simp only [hi]
 rw [wS hw hag hr]
 by_cases he : e.all id = true
 ·rw [if_pos he]
  left
  have e1 := dV (St.ev_den (qZ he hs hc hag hr) ((hev l c).symm.trans h0))
  have e2 : a.eval (if g then x else y) = z := by
   cases hg : g with
   | true =>
    rw [hz1 hg]
    exact dV (St.ev_den (qZ (by rw [List.all_append, he, hg]; rfl) hs1 hc1 hag hr) ((hev l1 x).symm.trans h1))
   | false =>
    rw [hz2 hg]
    exact dV (St.ev_den (qZ (by rw [List.all_append, he, hg]; rfl) hs2 hc2 hag hr) ((hev l2 y).symm.trans h2))
  unfold Oper.wp
  have hrun : (execOp a.eval o).run C.E.P W = .ok (.value z) W := by
   simp only [execOp, ho, e1, asBool]
   rw [← e2]
   cases g <;> rfl
  rw [hrun]
  refine hK β μ _ W ⟨?_, hr.w.weaken fun n hn => .inl hn⟩
  refine (FR.put hr.f hd' fun q hq => ?_).weaken fun n hn => .inl hn
  obtain rfl := Option.some.inj hq
  refine ⟨?_, hmz⟩
  unfold Uk
  split
  ·exact .v z
  ·simp only [cP]; rw [if_pos he]; exact .v z
 ·rw [if_neg he]
  refine hK β μ _ W ⟨?_, hr.w.weaken fun n hn => .inl hn⟩
  refine (FR.put hr.f hd' fun q hq => ?_).weaken fun n hn => .inl hn
  obtain rfl := Option.some.inj hq
  refine ⟨?_, hmz⟩
  unfold Uk
  split
  ·exact absurd rfl he
  ·simp only [cP]; rw [if_neg he]; trivial
def Oq (C : bP) (o : Oper) (l l1 l2 : Ls) : Option (Bool × Value × Value) :=
 match o.op with
 | .pick c x y => match (mk l.st [] 0).ev C c, (mk l1.st [] 0).ev C x, (mk l2.st [] 0).ev C y with
  | some (.c (.v (.bool g))), some (.c (.v vx)), some (.c (.v vy)) => some (g, vx, vy)
  | _, _, _ => none
 | _ => none
def Ig (C : bP) (ops : Array Oper) (dr : Bool) (T : List (List Nat)) (b i : Nat) (o : Oper) (D : List (Nat × Fx)) (l l1 l2 : Ls) : Bool :=
 nX C.n o && l.chk ops o && l1.chk ops o && l2.chk ops o && gR dr T b i D none [] [] []
theorem Wj {e : List Bool} (l l1 l2 : Ls) {g : Bool} {vx vy z : Value} {v : AV} (hw : oB ops o L = some e) (hs : l.have_ L = l.want e) (hp : Oq C o l l1 l2 = some (g, vx, vy)) (hs1 : l1.have_ L = l1.want (e ++ [g])) (hs2 : l2.have_ L = l2.want (e ++ [!g])) (hchk : Ig C ops dr T b i o D l l1 l2 = true)
  (hz1 : g = true → z = vx) (hz2 : g = false → z = vy) (hv : Uk e (.c (.v z)) = v) (hL : kM o.dst (some v) L = L') (hD : fN dr D i [] [] = D') (hk : RX C ops dr T b (i + 1) os D' (mk L' G lim) K) : RX C ops dr T b i (o :: os) D (mk L G lim) K := by
 subst hL hD hv
 simp only [Ig, Bool.and_eq_true] at hchk
 obtain ⟨⟨⟨⟨c1, c2⟩, c3⟩, c4⟩, c5⟩ := hchk
 unfold Oq at hp
 split at hp
 ·rename_i c x y ho
  split at hp
  ·rename_i g' vx' vy' p1 p2 p3
   simp only [Option.some.injEq, Prod.mk.injEq] at hp
   obtain ⟨rfl, rfl, rfl⟩ := hp
   have hev : ∀ (l : Ls) (x : Operand), (mk l.st G 0).ev C x = (mk l.st [] 0).ev C x := fun l x => eE rfl x
   refine kW (fun hi => Rk (lim := lim) l l1 l2 ho hi hw c1 hs hs1 hs2 c2 c3 c4 ((hev l c).trans p1) ((hev l1 x).trans p2) ((hev l2 y).trans p3) hz1 hz2) ?_ ?_
   ·have : gR dr T b i D (some (Uk e (.c (.v z)))) [] [] [] = gR dr T b i D none [] [] [] := by
     have hm : (Uk e (.c (.v z))).ments = [] := by unfold Uk; split <;> rfl
     unfold gR
     simp only [hm, List.all_nil]
    rw [this]; exact c5
   ·rw [gJ]
    exact hk
  ·cases hp
 ·cases hp
end
end Go.Bm
namespace Go.Bm
open Go
abbrev I (n : Int) : CV := .v (.int .i64 n)
abbrev U8 (n : Int) : CV := .v (.int .u8 n)
abbrev I32 (n : Int) : CV := .v (.int .i32 n)
abbrev Bo (b : Bool) : CV := .v (.bool b)
abbrev Sx (s : ByteArray) : CV := .v (.string s)
abbrev bY : CV := .v (.slice none 0 0)
def aJ (n : Int) : List CV := [I n]
def Qo (n : Int) : List CV := [U8 n]
def nH (n : Int) : List CV := [I32 n]
def eB (b : Bool) : List CV := [Bo b]
def eS (s : ByteArray) : List CV := [Sx s]
def eL {α : Type} (e : α → List CV) (l : List α) : List CV := [.lit (List.map e l)]
def eM {α β : Type} (k : α → Value) (e : β → List CV) (p : α × β) : Value × List CV := (k p.1, e p.2)
section
variable {C : bP} {ops : Array Oper} {dr : Bool} {T : List (List Nat)} {b i : Nat} {o : Oper} {os : List Oper} {D D' : List (Nat × Fx)} {L L' : List (Nat × AV)} {G G' : List (Nat × aY)} {lim : Nat} {K : St → Prop}
def sR (k : Nat) (σ : List (Nat × Nat)) (Gc Gf : List (Nat × aY)) : Bool :=
 (Gc.map (·.1) == List.range k) && wA ((List.range k).map (dL σ)) && Gf.all (fun p => p.2.ments.all fun m => decide (m < k))
theorem yP {k : Nat} {σ : List (Nat × Nat)} {Gc Gf : List (Nat × aY)} {H : Nat → Option aY} (h : sR k σ Gc Gf = true) (ho : Gc.map (fun p => H (dL σ p.1)) = Gc.map (fun p => some (p.2.ren (dL σ)))) : yV k (dL σ) none 0 Gc Gf H := by
 simp only [sR, Bool.and_eq_true, beq_iff_eq] at h
 obtain ⟨⟨h1, h2⟩, h3⟩ := h
 refine ⟨fun p hp => ?_, fun n => ?_, fun n m hn hm he => ?_, fun p hp m hm => ?_, by simp, by simp⟩
 ·obtain ⟨j, hj⟩ := List.getElem?_of_mem hp
  have := congrArg (fun l => l[j]?) ho
  simpa only [List.getElem?_map, hj, Option.map_some, Option.some.injEq] using this
 ·have key : ∀ (L : List (Nat × aY)), n ∈ L.map (·.1) ↔ ∃ o, L.lookup n = some o := by
   intro L
   induction L with
   | nil => simp
   | cons p L ih =>
    rw [List.lookup_cons]
    by_cases e : n = p.1
    ·simp [e]
    ·have e1 : (n == p.1) = false := by simpa using e
     rw [e1, ← ih]; simp [e]
  rw [← key, h1]; simp
 ·have hd := qG h2
  rw [List.pairwise_map] at hd
  by_cases e : n = m
  ·exact e
  ·exfalso
   rcases Nat.lt_or_gt_of_ne e with hlt | hlt
   ·have := List.pairwise_iff_getElem.1 hd n m (by simpa using hn) (by simpa using hm) hlt
    simp only [List.getElem_range] at this
    exact this he
   ·have := List.pairwise_iff_getElem.1 hd m n (by simpa using hm) (by simpa using hn) hlt
    simp only [List.getElem_range] at this
    exact this he.symm
 ·have := List.all_eq_true.1 (List.all_eq_true.1 h3 p hp) m hm
  exact .inl (by simpa using this)
theorem Tc {F : FuncId} {As Bs : List AV} {σ : List (Nat × Nat)} {k : Nat} {Gc Gf : List (Nat × aY)} {r v : AV} (h : yC C ops o L = some (F, As)) (hF : bQ C.E F) (hB : uQ (dL σ) As Bs) (hc : cN C.E F k Bs Gc r Gf) (hok : sR k σ Gc Gf = true) (ho : Gc.map (fun p => G.lookup (dL σ p.1)) = Gc.map (fun p => some (p.2.ren (dL σ)))) (hr : r.pub = some v)
  (hchk : gR dr T b i D (some v) (jX (dL σ) Gc Gf none) (Gc.map fun p => dL σ p.1) [] = true) (hL : kM o.dst (some v) L = L') (hG : sI (jX (dL σ) Gc Gf none) G = G') (hD : fN dr D i (Gc.map fun p => dL σ p.1) (jX (dL σ) Gc Gf none) = D') (hk : RX C ops dr T b (i + 1) os D' (mk L' G' lim) K) : RX C ops dr T b i (o :: os) D (mk L G lim) K := by
 subst hL hD hG
 unfold yC at h
 split at h
 ·rename_i F' args ts ho'
  split at h
  ·rename_i As' h1 h2 h3
   simp only [Option.some.injEq, Prod.mk.injEq] at h
   obtain ⟨rfl, rfl⟩ := h
   have hA : Oa C (mk L G lim) args.toList = some As' := (Ba (s := mk L G lim) (s' := mk L [] 0) rfl _).trans h3
   have := fun hi => De (C := C) (ops := ops) (i := i) (o := o) (s := mk L G lim) (nm := 0) hi h2 (dN h1) (args := args.toList) (ts := ts) (by simpa using ho') hF hA hB hc (yP hok ho) (.inl hr)
   refine kW this (by simpa [xH] using hchk) ?_
   rw [gJ]
   exact hk
  ·cases h
 ·cases h
end
end Go.Bm
namespace Go.Bm
open Go
theorem uY {α : Type} {sz : Nat} : ∀ {l : List (List α)}, (∀ e, e ∈ l → e.length = sz) → ∀ (i j : Nat) (e : List α) (x : α), l[i]? = some e → e[j]? = some x → l.flatten[i * sz + j]? = some x
 | [], _, i, j, e, x, hi, _ => by simp at hi
 | d :: l, h, 0, j, e, x, hi, hj => by
  simp only [List.getElem?_cons_zero, Option.some.injEq] at hi
  subst hi
  rw [List.flatten_cons, Nat.zero_mul, Nat.zero_add, List.getElem?_append_left (List.getElem?_eq_some_iff.1 hj).1]
  exact hj
 | d :: l, h, i + 1, j, e, x, hi, hj => by
  have hd := h d (List.mem_cons_self ..)
  rw [List.flatten_cons, List.getElem?_append_right (by rw [hd, Nat.add_mul]; omega), hd, show (i + 1) * sz + j - sz = i * sz + j by rw [Nat.add_mul]; omega]
  exact uY (fun e he => h e (List.mem_cons_of_mem _ he)) i j e x (by simpa using hi) hj
theorem uM {α : Type} {sz : Nat} : ∀ {l : List (List α)}, (∀ e, e ∈ l → e.length = sz) → l.flatten.length = l.length * sz
 | [], _ => by simp
 | d :: l, h => by rw [List.flatten_cons, List.length_append, h d (List.mem_cons_self ..), uM fun e he => h e (List.mem_cons_of_mem _ he), List.length_cons, Nat.add_mul]; omega
theorem Lp {sz : Nat} (hsz : 0 < sz) {l : List (List CV)} (h : ∀ e, e ∈ l → e.length = sz) {p : Nat} {x : CV} (hp : l.flatten[p]? = some x) : ∃ e, l[p / sz]? = some e ∧ e[p % sz]? = some x := by
 have hlt : p < l.length * sz := by rw [← uM h]; exact (List.getElem?_eq_some_iff.1 hp).1
 have hi : p / sz < l.length := Nat.div_lt_of_lt_mul (by rw [Nat.mul_comm]; exact hlt)
 have he := List.getElem?_eq_getElem hi
 have hm := h _ (List.getElem_mem hi)
 have hj : p % sz < (l[p / sz]).length := by rw [hm]; exact Nat.mod_lt _ hsz
 refine ⟨_, he, ?_⟩
 have := uY h (p / sz) (p % sz) _ _ he (List.getElem?_eq_getElem hj)
 rw [show p / sz * sz + p % sz = p by rw [Nat.mul_comm]; exact Nat.div_add_mod p sz, hp] at this
 rw [List.getElem?_eq_getElem hj, this]
theorem vC {μ : bV} {l : List (List CV)} {y : Value} {sz : Nat} (hsz : 0 < sz) (hl : ∀ e, e ∈ l → e.length = sz) (h : cA μ (.lit l) y) : ∃ (a : Option Addr) (c : Nat) (us : List Value), y = .slice a l.length c ∧ us.length = l.length * sz ∧ (l ≠ [] → ∃ b off, a = some ⟨b, off, none⟩ ∧ ∀ p u, us[p]? = some u → μ.c b (off + p) = some u) ∧
  (∀ u, u ∈ us → u.oneCell' = true) ∧ ∀ (p : Nat) (x : CV), l.flatten[p]? = some x → ∃ u, us[p]? = some u ∧ cA μ x u := by
 cases h with
 | nil a c => exact ⟨a, c, [], rfl, by simp, by simp, by simp, by simp⟩
 | lit l b off c sz' w hc hz hw hd =>
  by_cases h0 : l = []
  ·subst h0; exact ⟨_, c, [], rfl, by simp, by simp, by simp, by simp⟩
  ·have hsz' : sz' = sz := by
    obtain ⟨e, l', rfl⟩ := List.exists_cons_of_ne_nil h0
    exact (hz 0 e rfl).symm.trans (hl e (List.mem_cons_self ..))
   subst hsz'
   have key : ∀ (p : Nat) (x : CV), l.flatten[p]? = some x → μ.c b (off + p) = some (w (p / sz') (p % sz')) ∧ (w (p / sz') (p % sz')).oneCell' = true ∧ cA μ x (w (p / sz') (p % sz')) := by
    intro p x hp
    obtain ⟨e, he, hx⟩ := Lp hsz hl hp
    have := hw _ _ e x he hx
    rw [show off + p / sz' * sz' + p % sz' = off + p by rw [Nat.add_assoc, Nat.mul_comm, Nat.div_add_mod]] at this
    exact ⟨this.1, this.2, hd _ _ e x he hx⟩
   have hlen := uM hl
   refine ⟨_, c, (List.range (l.length * sz')).map fun p => w (p / sz') (p % sz'), rfl, by simp, fun _ => ⟨b, off, rfl, fun p u hu => ?_⟩, fun u hu => ?_, fun p x hp => ?_⟩
   ·rw [List.getElem?_map] at hu
    simp only [Option.map_eq_some_iff] at hu
    obtain ⟨q, hq, rfl⟩ := hu
    obtain ⟨hq1, hq2⟩ := List.getElem?_eq_some_iff.1 hq
    simp at hq1 hq2
    subst hq2
    obtain ⟨x, hx⟩ : ∃ x, l.flatten[p]? = some x := ⟨_, List.getElem?_eq_getElem (by omega)⟩
    exact (key p x hx).1
   ·obtain ⟨p, hp, rfl⟩ := List.mem_map.1 hu
    obtain ⟨x, hx⟩ : ∃ x, l.flatten[p]? = some x := ⟨_, List.getElem?_eq_getElem (by rw [hlen]; simpa using hp)⟩
    exact (key p x hx).2.1
   ·have hlt := (List.getElem?_eq_some_iff.1 hp).1
    exact ⟨_, by rw [List.getElem?_map, List.getElem?_range (by omega)]; rfl, (key p x hp).2.2⟩
theorem pF (k : Bk) (len : Nat) : (k.sl len).ownBlock = if k.nil then none else some k.blk := by
 unfold Bk.sl; split <;> rfl
theorem Jf {E : oD} {μ : bV} {W : World} {T e ty : TypeId} {j : TI} {z1 z2 : Nat} {z3 : List Value} (hT : E.ti T = some ⟨.sl e, z1, z2, z3⟩) (hj : E.ti e = some j) (hpos : 0 < j.size) (hz : j.zero.length = j.size) (himm : fF μ W) {k : Bk} {l els : List (List CV)} {y : Value}
  (hown : (k.nil = true ∧ l = []) ∨ (k.nil = false ∧ (∃ vs : Array Value, W.heap[k.blk]? = some (.cells vs e (0, 0)) ∧ vs.size = k.cap * j.size ∧ k.cap ≤ maxLen ∧ l.length ≤ k.cap) ∧ ∀ i, l.length * j.size ≤ i → μ.c k.blk i = none))
  (hv : cA μ (.lit l) (k.sl l.length)) (hy : cA μ (.lit els) y) (hlen : ∀ x, x ∈ l ++ els → x.length = j.size) (h63 : l.length + els.length ≤ maxLen) (hbytes : (l.length + els.length) * j.bytes ≤ 140737488355328) (hkm : k.nil = false → μ.m k.blk = none) :
  ∃ (v' : Value) (W' : World) (k' : Bk) (μ' : bV), (Builtin.append_ #[T, T] ty #[k.sl l.length, y]).run E.P W = .ok v' W' ∧ v' = k'.sl (l ++ els).length ∧ cA μ' (.lit (l ++ els)) v' ∧
   ((k'.nil = true ∧ (l ++ els).length = 0) ∨ (k'.nil = false ∧ ∃ vs : Array Value, W'.heap[k'.blk]? = some (.cells vs e (0, 0)) ∧ vs.size = k'.cap * j.size ∧ k'.cap ≤ maxLen ∧ (l ++ els).length ≤ k'.cap)) ∧
   (k'.nil = false → μ'.m k'.blk = none ∧ ∀ i, (l ++ els).length * j.size ≤ i → μ'.c k'.blk i = none) ∧ fF μ' W' ∧ iA μ μ' (if k'.nil then none else some k'.blk) ∧ (k'.nil = false → W.heap.size ≤ k'.blk ∨ (k.nil = false ∧ k.blk = k'.blk)) ∧
   W'.os = W.os ∧ W'.tape = W.tape ∧ W'.output = W.output ∧ W.heap.size ≤ W'.heap.size ∧ ∀ b, b < W.heap.size → (k.nil = false → b ≠ k.blk) → W'.heap[b]? = W.heap[b]? := by
 have hl1 : ∀ x, x ∈ l → x.length = j.size := fun x hx => hlen x (List.mem_append_left _ hx)
 have hl2 : ∀ x, x ∈ els → x.length = j.size := fun x hx => hlen x (List.mem_append_right _ hx)
 obtain ⟨inf, i1, i2, i3, zv, i4, i5, _⟩ := (E.ok e j hj).info
 have hu : E.P.underlying T = some (.slice e) := (E.ok T _ hT).k
 have hzs : zv.cells.size = j.size := by rw [← hz, ← i5]; simp
 obtain ⟨a1, c1, xs, e1, x1, x2, x3, x4⟩ := vC hpos hl1 hv
 obtain ⟨a2, c2, us, rfl, u1, u2, u3, u4⟩ := vC hpos hl2 hy
 have hrow : W.ownsRow 0 e j.size (k.sl l.length) l.length xs := by
  refine ⟨x1, ?_⟩
  rcases hown with ⟨h0, rfl⟩ | ⟨h0, ⟨vs, h1, h2, h3, h4⟩, h5⟩
  ·exact .inl ⟨by unfold Bk.sl; rw [if_pos h0], rfl⟩
  ·refine .inr ⟨k.blk, k.cap, vs, by unfold Bk.sl; rw [if_neg (by simp [h0])], Nat.zero_le _, h1, h4, h3, h2, ?_⟩
   have hle : l.length * j.size ≤ vs.size := by rw [h2]; exact Nat.mul_le_mul_right _ h4
   refine List.ext_getElem? fun p => ?_
   rw [List.getElem?_take]
   by_cases hp : p < l.length * j.size
   ·rw [if_pos hp]
    have hne : l ≠ [] := by rintro rfl; simp at hp
    obtain ⟨b, off, ha, hb⟩ := x2 hne
    have : b = k.blk ∧ off = 0 := by
     rw [ha] at e1
     unfold Bk.sl at e1
     rw [if_neg (by simp [h0])] at e1
     injection e1 with e2 _ _
     injection e2 with e2
     injection e2 with e3 e4
     exact ⟨e3.symm, e4.symm⟩
    obtain ⟨rfl, rfl⟩ := this
    obtain ⟨u, hu'⟩ : ∃ u, xs[p]? = some u := ⟨_, List.getElem?_eq_getElem (by omega)⟩
    have hc := rL himm (hb p u hu')
    rw [Nat.zero_add, sL h1] at hc
    rw [hu', Array.getElem?_toList, hc]
   ·rw [if_neg hp, List.getElem?_eq_none (by omega)]
 have grew : ∀ (ad : Addr) (m c : Nat) (news : List Value) (v' : Value) (w' : World), news.length = m * j.size → (∀ p u, news[p]? = some u → W.cell? (ad.add p) = some u) → (∀ u, u ∈ news → u.oneCell' = true) → l.length + m ≤ maxLen → (l.length + m) * j.bytes ≤ 140737488355328 →
   (Builtin.append_ #[T, T] ty #[k.sl l.length, .slice (some ad) m c]).run E.P W = .ok v' w' → W.grownBy w' (k.sl l.length).ownBlock → v'.ownBlock = some W.heap.size → ∀ b, b < W.heap.size → w'.heap[b]? = W.heap[b]? := by
  intro ad m c news v' w' hnl hnews hone hm1 hm2 hrun hg hat b hb
  rcases hown with ⟨h0, rfl⟩ | ⟨h0, ⟨vs, h1, h2, h3, h4⟩, h5⟩
  ·exact hg.block b hb (by rw [pF, h0]; simp)
  ·have hks : k.sl l.length = .slice (some ⟨k.blk, 0, none⟩) l.length k.cap := by unfold Bk.sl; rw [if_neg (by simp [h0])]
   have hklt : k.blk < W.heap.size := (Array.getElem?_eq_some_iff.1 h1).1
   rw [hks] at hrun
   have hnl' : news.length = m * inf.size := by rw [i2]; exact hnl
   by_cases hroom : l.length + m ≤ k.cap
   ·have hfit : l.length * inf.size + news.length ≤ vs.size := by rw [hnl', h2, i2, ← Nat.add_mul]; exact Nat.mul_le_mul_right _ hroom
    have := run_append_room (P := E.P) W T ty e inf hu i1 k.blk l.length k.cap vs h1 ad m c news hnl' hnews hone hroom hfit
    rw [hrun] at this
    injection this with e1 e2
    subst e1
    simp only [Value.ownBlock, Option.some.injEq] at hat
    omega
   ·have holds : ∀ p u, xs[p]? = some u → W.cell? ((⟨k.blk, 0, none⟩ : Addr).add p) = some u := (hks ▸ hrow).cells (g := k.blk) rfl
    have := run_append_grow (P := E.P) W T ty e inf zv hu i1 i4 ⟨k.blk, 0, none⟩ l.length k.cap xs (by rw [i2]; exact x1) holds ad m c news hnl' hnews (by omega) (by simp only [maxLen] at hm1; omega) (growslice_fits (by omega) (by rw [i3]; exact hm2))
    rw [hrun] at this
    injection this with e1 e2
    rw [e2]
    rw [heap_alloc_old]
    ·rfl
    ·simpa using hb
 have main : ∃ v' w', (Builtin.append_ #[T, T] ty #[k.sl l.length, .slice a2 els.length c2]).run E.P W = .ok v' w' ∧ w'.ownsRow 0 e j.size v' (l.length + els.length) (xs ++ us) ∧ W.grownBy w' (k.sl l.length).ownBlock ∧ (v'.ownBlock = (k.sl l.length).ownBlock ∨ (v'.ownBlock = some W.heap.size ∧ ∀ b, b < W.heap.size → w'.heap[b]? = W.heap[b]?)) := by
  by_cases hne : els = []
  ·subst hne
   have hus : us = [] := List.eq_nil_of_length_eq_zero (by simpa using u1)
   subst hus
   cases a2 with
   | none =>
    refine ⟨k.sl l.length, W, ?_, ?_, ⟨rfl, rfl, rfl, Nat.le_refl _, fun _ _ _ => rfl⟩, .inl rfl⟩
    ·rcases hown with ⟨h0, rfl⟩ | ⟨h0, ⟨vs, _, _, _, h4⟩, _⟩
     ·unfold Bk.sl
      rw [if_pos h0]
      simp [Builtin.append_, run_underlying hu, sizeOf, typeInfo, i1, Builtin.lenOf, Builtin.firstCells]
     ·unfold Bk.sl
      rw [if_neg (by simp [h0])]
      simp [Builtin.append_, run_underlying hu, sizeOf, typeInfo, i1, Builtin.lenOf, Builtin.firstCells, h4, storeCells]
    ·simpa using hrow
   | some ad =>
    obtain ⟨v', w', h1, h2, h3, _, h4⟩ := run_append_own_at (P := E.P) W 0 T ty e inf zv j.size j.bytes hu i1 i4 i2 i3 hzs hpos _ _ xs hrow ad 0 c2 [] (by simp) (by simp) (by simp) (by simpa using h63) (by simpa using hbytes) (Nat.zero_le _)
    exact ⟨v', w', h1, h2, h3, h4.imp id fun h5 => ⟨h5, grew ad 0 c2 [] v' w' (by simp) (by simp) (by simp) (by simpa using h63) (by simpa using hbytes) h1 h3 h5⟩⟩
  ·obtain ⟨b, off, rfl, hb⟩ := u2 hne
   have hnews : ∀ p u, us[p]? = some u → W.cell? ((⟨b, off, none⟩ : Addr).add p) = some u := fun p u hu' => by rw [oX]; exact rL himm (hb p u hu')
   obtain ⟨v', w', h1, h2, h3, _, h4⟩ := run_append_own_at (P := E.P) W 0 T ty e inf zv j.size j.bytes hu i1 i4 i2 i3 hzs hpos _ _ xs hrow ⟨b, off, none⟩ els.length c2 us u1 hnews (fun u hu' => u3 u hu') h63 hbytes (Nat.zero_le _)
   exact ⟨v', w', h1, h2, h3, h4.imp id fun h5 => ⟨h5, grew _ _ c2 us v' w' u1 hnews (fun u hu' => u3 u hu') h63 hbytes h1 h3 h5⟩⟩
 obtain ⟨v', W', hrun, ⟨hxl, hrow'⟩, hg, hat⟩ := main
 have hfl : ∀ (p : Nat) (x : CV), (l ++ els).flatten[p]? = some x → ∃ u, (xs ++ us)[p]? = some u ∧ u.oneCell' = true ∧ cA μ x u := by
  intro p x hp
  rw [List.flatten_append] at hp
  by_cases hlt : p < l.flatten.length
  ·rw [List.getElem?_append_left hlt] at hp
   obtain ⟨u, h1, h2⟩ := x4 p x hp
   exact ⟨u, by rw [List.getElem?_append_left (by rw [x1, ← uM hl1]; exact hlt)]; exact h1, x3 u (List.mem_of_getElem? h1), h2⟩
  ·rw [List.getElem?_append_right (by omega)] at hp
   obtain ⟨u, h1, h2⟩ := u4 _ x hp
   refine ⟨u, ?_, u3 u (List.mem_of_getElem? h1), h2⟩
   have := uM hl1
   rw [List.getElem?_append_right (by omega), x1, ← this]; exact h1
 have hfr : ∀ b, b < W.heap.size → (k.nil = false → b ≠ k.blk) → W'.heap[b]? = W.heap[b]? := fun b hb hne => hg.block b hb (by
  rw [pF]
  split
  ·simp
  ·rename_i h0
   intro he
   exact hne (by simpa using h0) (Option.some.inj he))
 rcases hrow' with ⟨rfl, h0⟩ | ⟨g, cap, cur, rfl, _, hh, hnc, hcm, hcs, htk⟩
 ·have hl0 : l = [] := List.eq_nil_of_length_eq_zero (by omega)
  have he0 : els = [] := List.eq_nil_of_length_eq_zero (by omega)
  subst hl0 he0
  have hknil : k.nil = true := by
   cases hq : k.nil with
   | true => rfl
   | false =>
    rw [pF, hq] at hat
    rcases hat with hat | ⟨hat, _⟩ <;> simp [Value.ownBlock] at hat
  refine ⟨.slice none 0 0, W', ⟨0, 0, true, 0⟩, μ, hrun, rfl, .nil none 0, .inl ⟨rfl, rfl⟩, fun h => by simp at h, ?_, iA.refl μ _, fun h => by simp at h, hg.os, hg.tape, hg.output, hg.size, hfr⟩
  exact himm.ext fun b hb => hfr b hb (by simp [hknil])
 ·have hbk : (W.heap.size ≤ g ∧ ∀ b, b < W.heap.size → W'.heap[b]? = W.heap[b]?) ∨ (k.nil = false ∧ k.blk = g) := by
   rw [pF] at hat
   rcases hat with hat | ⟨hat, hsame⟩
   ·right
    cases hq : k.nil with
    | true => rw [hq] at hat; simp [Value.ownBlock] at hat
    | false => rw [hq] at hat; simp [Value.ownBlock] at hat; exact ⟨rfl, hat.symm⟩
   ·left
    simp [Value.ownBlock] at hat
    exact ⟨by omega, hsame⟩
  have hxl' : (xs ++ us).length = (l.length + els.length) * j.size := hxl
  have hcell : ∀ p u, (xs ++ us)[p]? = some u → cur[p]? = some u := fun p u hp => by
   rw [← htk, List.getElem?_take] at hp
   split at hp
   ·rw [Array.getElem?_toList] at hp; exact hp
   ·cases hp
  have hold : ∀ i v, μ.c g i = some v → cur[i]? = some v ∧ i < l.length * j.size := fun i v hi => by
   rcases hbk with ⟨hge, _⟩ | ⟨h0, rfl⟩
   ·have := nQ himm hi; omega
   ·rcases hown with ⟨h1, _⟩ | ⟨_, ⟨vs, h1, h2, h3, h4⟩, h5⟩
    ·rw [h0] at h1; cases h1
    ·have hlt : i < l.length * j.size := by
      rcases Nat.lt_or_ge i (l.length * j.size) with h | h
      ·exact h
      ·rw [h5 i h] at hi; cases hi
     refine ⟨?_, hlt⟩
     have hne : l ≠ [] := by rintro rfl; simp at hlt
     obtain ⟨b, off, ha, hb⟩ := x2 hne
     have : b = k.blk ∧ off = 0 := by
      rw [ha] at e1
      unfold Bk.sl at e1
      rw [if_neg (by simp [h0])] at e1
      injection e1 with e2 _ _
      injection e2 with e2
      injection e2 with e3 e4
      exact ⟨e3.symm, e4.symm⟩
     obtain ⟨rfl, rfl⟩ := this
     obtain ⟨u, hu'⟩ : ∃ u, xs[i]? = some u := ⟨_, List.getElem?_eq_getElem (by omega)⟩
     have := hb i u hu'
     rw [Nat.zero_add, hi] at this
     rw [Option.some.inj this]
     exact hcell i u (by rw [List.getElem?_append_left (by omega)]; exact hu')
  have hgr : iA μ (fA μ g (fun i => (xs ++ us)[i]?)) (some g) := pS fun i v hi => by
   cases hq : μ.c g i with
   | none => exact .inl rfl
   | some v' =>
    have := (hold i v' hq).1
    rw [hcell i v hi] at this
    exact .inr this.symm
  have himm' : fF (fA μ g (fun i => (xs ++ us)[i]?)) W' := by
   refine ⟨fun b i v hb => ?_, fun b es clk hb => ?_⟩
   ·by_cases hbe : b = g
    ·subst hbe
     simp only [fA, if_true] at hb
     refine ⟨cur, e, (0, 0), hh, ?_⟩
     split at hb
     ·rename_i w hw; rw [← hb]; exact hcell i w hw
     ·exact (hold i v hb).1
    ·simp only [fA, if_neg hbe] at hb
     have hlt := nQ himm hb
     have : W'.heap[b]? = W.heap[b]? := by
      rcases hbk with ⟨_, hs⟩ | ⟨_, h2⟩
      ·exact hs b hlt
      ·exact hfr b hlt fun _ hb' => hbe (hb'.trans h2)
     rw [this]
     exact himm.c b i v hb
   ·have hb' : μ.m b = some (es, clk) := hb
    have hlt := qM himm hb'
    rw [hfr b hlt fun h0 hbk' => ?_]
    ·exact himm.m b es clk hb'
    ·rw [hbk', hkm h0] at hb'; cases hb'
  have hlen2 : (l ++ els).length = l.length + els.length := List.length_append
  refine ⟨_, W', ⟨g, cap, false, 0⟩, fA μ g (fun i => (xs ++ us)[i]?), hrun, by rw [hlen2]; rfl, ?_, .inr ⟨rfl, cur, hh, hcs, hcm, by rw [hlen2]; exact hnc⟩, fun _ => ⟨?_, fun i hi => ?_⟩, himm', hgr, fun _ => ?_, hg.os, hg.tape, hg.output, hg.size, hfr⟩
  ·have := cA.lit (μ := fA μ g (fun i => (xs ++ us)[i]?)) (l ++ els) g 0 cap j.size (fun i p => (xs ++ us).getD (i * j.size + p) undef) (by rw [hlen2]; exact hnc) (fun i x hx => hlen x (List.mem_of_getElem? hx)) (fun i p x y hx hy => ?_) (fun i p x y hx hy => ?_)
   ·rw [hlen2] at this; exact this
   ·obtain ⟨u, h1, h2, h3⟩ := hfl _ y (uY hlen i p x y hx hy)
    have e1 : (xs ++ us).getD (i * j.size + p) undef = u := by rw [List.getD_eq_getElem?_getD, h1]; rfl
    rw [e1, Nat.zero_add]
    exact ⟨by simp only [fA, if_true, h1], h2⟩
   ·obtain ⟨u, h1, h2, h3⟩ := hfl _ y (uY hlen i p x y hx hy)
    have e1 : (xs ++ us).getD (i * j.size + p) undef = u := by rw [List.getD_eq_getElem?_getD, h1]; rfl
    rw [e1]
    exact h3.mono hgr.le
  ·show μ.m g = none
   rcases hbk with ⟨hge, _⟩ | ⟨h0, rfl⟩
   ·cases hq : μ.m g with
    | none => rfl
    | some x => have := qM himm hq; omega
   ·exact hkm h0
  ·simp only [fA, if_true]
   rw [List.getElem?_eq_none (by rw [hxl']; rw [hlen2] at hi; exact hi)]
   show μ.c g i = none
   cases hq : μ.c g i with
   | none => rfl
   | some v =>
    have := (hold i v hq).2
    rw [hlen2, Nat.add_mul] at hi
    omega
  ·rcases hbk with ⟨hge, _⟩ | h
   ·exact .inl hge
   ·exact .inr h
def Mq (nm : Nat) (e sz k : Nat) (old : Option Nat) : List (Nat × Option aY) := (nm, some (.tok e sz k)) :: (match old with | none => [] | some m => [(m, none)])
def Pk (old : Option Nat) : List Nat := match old with | none => [] | some m => [m]
theorem Mi {C : bP} {ops : Array Oper} {i : Nat} {o : Oper} {s : St} {n : Nat} (hi : ops[i]? = some o) (hw : gB ops o s.fr = some true) (hd : ∀ d, o.dst = some d → d < C.n) {x y : Operand} {T e : TypeId} {j : TI} {z1 z2 : Nat} {z3 : List Value} (ho : o.op = .call ⟨.builtin .append, #[x, y], #[T, T]⟩)
  (hT : C.E.ti T = some ⟨.sl e, z1, z2, z3⟩) (hj : C.E.ti e = some j) (hpos : 0 < j.size) (hz : j.zero.length = j.size) {l els l2 : List (List CV)} (old : Option Nat)
  (hx : match old with | none => s.ev C x = some (.c (.v (.slice none 0 0))) ∧ l = [] | some m => s.ev C x = some (.c (.app m l)) ∧ s.H m = some (.tok e j.size l.length))
  (hy : s.ev C y = some (.c (.lit els)) ∨ ∃ m, s.ev C y = some (.c (.app m els))) (hlen : ∀ x, x ∈ l ++ els → x.length = j.size) (h63 : l.length + els.length ≤ maxLen) (hbytes : (l.length + els.length) * j.bytes ≤ 140737488355328) (hl2 : l ++ els = l2) :
  tU C ops i o s (some (.c (.app n l2))) (Mq n e j.size l2.length old) (Pk old) [n] := by
 subst hl2
 refine qN hi hw hd fun s' U β μ a W hag hn hm hr => ?_
 have hnU : ¬ U n := hn n (by simp)
 have hox : x ∈ o.op.operands := by rw [ho]; simp [Op.operands, Call.operands]
 have hoy : y ∈ o.op.operands := by rw [ho]; simp [Op.operands, Call.operands]
 obtain ⟨k, hkx, hkv, hkown, hkm, hkold⟩ : ∃ k : Bk, a.eval x = k.sl l.length ∧ cA μ (.lit l) (k.sl l.length) ∧
   ((k.nil = true ∧ l = []) ∨ (k.nil = false ∧ (∃ vs : Array Value, W.heap[k.blk]? = some (.cells vs e (0, 0)) ∧ vs.size = k.cap * j.size ∧ k.cap ≤ maxLen ∧ l.length ≤ k.cap) ∧ ∀ i, l.length * j.size ≤ i → μ.c k.blk i = none)) ∧ (k.nil = false → μ.m k.blk = none) ∧
   (k.nil = false → ∃ m ob, old = some m ∧ s'.H m = some ob ∧ (β m).nil = false ∧ (β m).blk = k.blk) := by
  cases old with
  | none =>
   obtain ⟨h1, rfl⟩ := hx
   have e1 := dV (St.ev_den hr ((St.ev_agree (C := C) hag hox).trans h1))
   exact ⟨⟨0, 0, true, 0⟩, e1, .nil _ _, .inl ⟨rfl, rfl⟩, by simp, by simp⟩
  | some m =>
   obtain ⟨h1, h2⟩ := hx
   obtain ⟨e1, e2⟩ := qJ (St.ev_den hr ((St.ev_agree (C := C) hag hox).trans h1))
   have hH : s'.H m = some (.tok e j.size l.length) := (hag.2 m (by simp [Pk])).trans h2
   refine ⟨β m, e2, e2 ▸ e1, ?_, fun h0 => (hr.w.sep m _ hH h0).1, fun h0 => ⟨m, _, rfl, hH, h0, rfl⟩⟩
   rcases hr.w.own m _ hH with ⟨h3, h4⟩ | ⟨h3, vs, h4, h5, h6, h7⟩
   ·exact .inl ⟨h3, List.eq_nil_of_length_eq_zero h4⟩
   ·exact .inr ⟨h3, ⟨vs, h4, h5, h6, h7⟩, (hr.w.sep m _ hH h3).2⟩
 have hyd : cA μ (.lit els) (a.eval y) := by
  rcases hy with h1 | ⟨m, h1⟩
  ·exact St.ev_den hr ((St.ev_agree (C := C) hag hoy).trans h1)
  ·exact (qJ (St.ev_den hr ((St.ev_agree (C := C) hag hoy).trans h1))).1
 obtain ⟨v', W', k', μ', hrun, r1, r2, r3, r4, r5, r6, r7, r8, r9, r10, r11, r12⟩ := Jf (ty := o.type) hT hj hpos hz hr.w.imm hkown hkv hyd hlen h63 hbytes hkm
 refine ⟨v', W', vK β n k', μ', .inl ?_, fun q hq => ?_, fun m hm => eP (fun e => hnU (e ▸ hm)), r6.le, ?_⟩
 ·rw [gU ho]
  simp only [List.map_toArray, List.map_cons, List.map_nil, hkx]
  unfold builtin
  rw [Sem.run_bind, hrun]
  rfl
 ·cases hq
  refine ⟨r2, ?_⟩
  rw [dT]; exact r1
 ·refine hr.w.put_new (old := old) (ob := .tok e j.size (l ++ els).length) hnU (fun q => ?_) r8 r9 r10 r11 (fun b hb hne => r12 b hb fun h0 hbk => ?_) (by simp [aY.ments]) r6 r5 ?_ (fun h0 => r4 h0) (fun h0 => ?_)
  ·cases old with
   | none => exact (nL q s'.H).trans (by simp)
   | some m =>
    refine (Bz q s'.H).trans ?_
    by_cases e1 : q = n
    ·simp [e1]
    ·by_cases e2 : q = m
     ·subst e2; simp [e1]
     ·simp [e1, e2, Ne.symm e2]
  ·obtain ⟨m, ob, h1, h2, h3, h4⟩ := hkold h0
   exact hne m ob h1 h2 h3 (hbk.trans h4.symm)
  ·rcases r3 with ⟨h1, h2⟩ | ⟨h1, vs, h2, h3, h4, h5⟩
   ·exact .inl ⟨h1, h2⟩
   ·exact .inr ⟨h1, vs, h2, h3, h4, h5⟩
  ·rcases r7 h0 with h1 | ⟨h1, h2⟩
   ·exact .inl h1
   ·obtain ⟨m, ob, g1, g2, g3, g4⟩ := hkold h1
    exact .inr ⟨m, ob, g1, g2, g3, g4.trans h2⟩
def pE {α : Type} (bytes : Nat) (l els : List α) : Option (List α) := if (l.length + els.length) * bytes ≤ 140737488355328 ∧ l.length + els.length ≤ 9223372036854775807 then some (l ++ els) else none
section
variable {C : bP} {ops : Array Oper} {dr : Bool} {T : List (List Nat)} {b i : Nat} {o : Oper} {os : List Oper} {D D' : List (Nat × Fx)} {L L' : List (Nat × AV)} {G G' : List (Nat × aY)} {lim : Nat} {K : St → Prop}
def appC (C : bP) (x y : Operand) (T e : TypeId) (j : TI) (L : List (Nat × AV)) (G : List (Nat × aY)) : Option (Option Nat × Nat × Nat × Nat × List (List CV) × List (List CV) × Nat) :=
 if decide (0 < j.size) && Nat.beq j.zero.length j.size then
  match (mk L G 0).ev C y with
  | some (.c (.lit els)) => match (mk L G 0).ev C x with
   | some (.c (.v (.slice none 0 0))) => some (none, e, j.size, j.bytes, [], els, 0)
   | some (.c (.app m l)) => match G.lookup m with
    | some (.tok e' sz k) => if Nat.beq e e' && Nat.beq sz j.size then some (some m, e, j.size, j.bytes, l, els, k) else none
    | _ => none
   | _ => none
  | some (.c (.app _ els)) => match (mk L G 0).ev C x with
   | some (.c (.v (.slice none 0 0))) => some (none, e, j.size, j.bytes, [], els, 0)
   | some (.c (.app m l)) => match G.lookup m with
    | some (.tok e' sz k) => if Nat.beq e e' && Nat.beq sz j.size then some (some m, e, j.size, j.bytes, l, els, k) else none
    | _ => none
   | _ => none
  | _ => none
 else none
def Wk (C : bP) (T : TypeId) : Option (TypeId × TI) := match C.E.ti T with
 | some ⟨.sl e, _, _, _⟩ => match C.E.ti e with | some j => some (e, j) | none => none
 | _ => none
def appB (C : bP) (ops : Array Oper) (o : Oper) (L : List (Nat × AV)) (G : List (Nat × aY)) : Option (Option Nat × Nat × Nat × Nat × List (List CV) × List (List CV) × Nat) :=
 match o.op with
 | .call ⟨.builtin .append, args, ts⟩ => match args.toList, ts.toList, Wk C (ts.getD 0 0), gB ops o (fun t => L.lookup t), nX C.n o with
  | [x, y], [T, T'], some (e, j), some true, true => if Nat.beq T T' then appC C x y T e j L G else none
  | _, _, _, _, _ => none
 | _ => none
theorem cB {α : Type} {enc : α → List CV} {l els r : List α} {old : Option Nat} {e sz bytes k nm : Nat} (he : pE bytes l els = some r) (h : appB C ops o L G = some (old, e, sz, bytes, l.map enc, els.map enc, k)) (hk0 : k = l.length) (hlen : ∀ x, (enc x).length = sz) (hnm : b + i = nm)
  (hchk : gR dr T b i D (some (.c (.app nm (r.map enc)))) (Mq nm e sz r.length old) (Pk old) [nm] = true) (hL : kM o.dst (some (.c (.app nm (r.map enc)))) L = L') (hG : sI (Mq nm e sz r.length old) G = G') (hD : fN dr D i (Pk old) (Mq nm e sz r.length old) = D') (hk : RX C ops dr T b (i + 1) os D' (mk L' G' lim) K) : RX C ops dr T b i (o :: os) D (mk L G lim) K := by
 subst hL hD hG hnm
 unfold pE at he
 split at he
 ·rename_i hb
  obtain rfl := Option.some.inj he
  have hr0 : l.map enc ++ els.map enc = (l ++ els).map enc := List.map_append.symm
  have hall : ∀ x, x ∈ l.map enc ++ els.map enc → x.length = sz := fun x hx => by
   rw [hr0] at hx
   obtain ⟨y, _, rfl⟩ := List.mem_map.1 hx
   exact hlen y
  have hev : ∀ x, (mk L G lim).ev C x = (mk L G 0).ev C x := fun x => eE rfl x
  have hml : ((l ++ els).map enc).length = (l ++ els).length := List.length_map ..
  unfold appB at h
  split at h
  ·rename_i args ts ho0
   split at h
   ·rename_i x y T1 T2 e0 j0 hax hts hap hw hc2
    split at h
    ·rename_i hc1
     have hTT := Nat.eq_of_beq_eq_true hc1
     subst hTT
     have ho : o.op = .call ⟨.builtin .append, #[x, y], #[T1, T1]⟩ := by
      rw [ho0, ← Array.toArray_toList (xs := args), ← Array.toArray_toList (xs := ts), hax, hts]
     have hts0 : ts.getD 0 0 = T1 := by
      have : ts = #[T1, T1] := by rw [← Array.toArray_toList (xs := ts), hts]
      rw [this]; rfl
     rw [hts0] at hap
     unfold Wk at hap
     split at hap
     ·rename_i e' z1 z2 z3 hT
      split at hap
      ·rename_i j hj
       simp only [Option.some.injEq, Prod.mk.injEq] at hap
       obtain ⟨rfl, rfl⟩ := hap
       unfold appC at h
       split at h
       ·rename_i hpz
        simp only [Bool.and_eq_true, decide_eq_true_eq] at hpz
        obtain ⟨hpos, hzz⟩ := hpz
        have hzz := Nat.eq_of_beq_eq_true hzz
        have fin : ∀ (old : Option Nat), (match old with | none => (mk L G lim).ev C x = some (.c (.v (.slice none 0 0))) ∧ l.map enc = [] | some m => (mk L G lim).ev C x = some (.c (.app m (l.map enc))) ∧ (mk L G lim).H m = some (.tok e' j.size (l.map enc).length)) →
          ((mk L G lim).ev C y = some (.c (.lit (els.map enc))) ∨ ∃ m, (mk L G lim).ev C y = some (.c (.app m (els.map enc)))) → j.size = sz → j.bytes = bytes → e' = e →
          gR dr T b i D (some (.c (.app (b + i) ((l ++ els).map enc)))) (Mq (b + i) e sz (l ++ els).length old) (Pk old) [b + i] = true →
          RX C ops dr T b (i + 1) os (fN dr D i (Pk old) (Mq (b + i) e sz (l ++ els).length old)) (mk (kM o.dst (some (.c (.app (b + i) ((l ++ els).map enc)))) L) (sI (Mq (b + i) e sz (l ++ els).length old) G) lim) K → RX C ops dr T b i (o :: os) D (mk L G lim) K := by
         intro old hx hy e1 e2 e3 hchk hk
         subst e1 e2 e3
         have := fun hi => Mi (C := C) (ops := ops) (i := i) (o := o) (s := mk L G lim) (n := b + i) hi hw (dN hc2) ho hT hj hpos hzz old hx hy hall (by simp only [List.length_map, maxLen]; exact hb.2) (by simpa only [List.length_map] using hb.1) hr0
         rw [hml] at this
         refine kW this hchk ?_
         rw [gJ]
         exact hk
        split at h
        ·rename_i els' hy
         split at h
         ·rename_i hx
          simp only [Option.some.injEq, Prod.mk.injEq] at h
          obtain ⟨rfl, h2, h3, h4, h5, h6, _⟩ := h
          exact fin none ⟨(hev x).trans hx, h5.symm⟩ (.inl ((hev y).trans (h6 ▸ hy))) h3 h4 h2 hchk hk
         ·rename_i m l' hx
          split at h
          ·rename_i e2 s2 k2 hm
           split at h
           ·rename_i hcc
            simp only [Bool.and_eq_true] at hcc
            have q1 := Nat.eq_of_beq_eq_true hcc.1
            have q2 := Nat.eq_of_beq_eq_true hcc.2
            subst q1 q2
            simp only [Option.some.injEq, Prod.mk.injEq] at h
            obtain ⟨rfl, h2, h3, h4, h5, h6, h7⟩ := h
            subst h5 h6 h7
            refine fin (some m) ⟨(hev x).trans hx, ?_⟩ (.inl ((hev y).trans hy)) h3 h4 h2 hchk hk
            rw [List.length_map, ← hk0]; exact hm
           ·cases h
          ·cases h
         ·cases h
        ·rename_i m2 els' hy
         split at h
         ·rename_i hx
          simp only [Option.some.injEq, Prod.mk.injEq] at h
          obtain ⟨rfl, h2, h3, h4, h5, h6, _⟩ := h
          exact fin none ⟨(hev x).trans hx, h5.symm⟩ (.inr ⟨m2, (hev y).trans (h6 ▸ hy)⟩) h3 h4 h2 hchk hk
         ·rename_i m l' hx
          split at h
          ·rename_i e2 s2 k2 hm
           split at h
           ·rename_i hcc
            simp only [Bool.and_eq_true] at hcc
            have q1 := Nat.eq_of_beq_eq_true hcc.1
            have q2 := Nat.eq_of_beq_eq_true hcc.2
            subst q1 q2
            simp only [Option.some.injEq, Prod.mk.injEq] at h
            obtain ⟨rfl, h2, h3, h4, h5, h6, h7⟩ := h
            subst h5 h6 h7
            refine fin (some m) ⟨(hev x).trans hx, ?_⟩ (.inr ⟨m2, (hev y).trans hy⟩) h3 h4 h2 hchk hk
            rw [List.length_map, ← hk0]; exact hm
           ·cases h
          ·cases h
         ·cases h
        ·cases h
       ·cases h
      ·cases hap
     ·cases hap
    ·cases h
   ·cases h
  ·cases h
 ·cases he
end
end Go.Bm
namespace Go.Bm
open Go
def nz (b : Int) : Option Int := if b = 0 then none else some b
section
variable {C : bP} {ops : Array Oper} {dr : Bool} {T : List (List Nat)} {b i : Nat} {o : Oper} {os : List Oper} {D D' : List (Nat × Fx)} {L L' : List (Nat × AV)} {G G' : List (Nat × aY)} {lim : Nat} {K : St → Prop}
def xZ (C : bP) (o : Oper) (L : List (Nat × AV)) : Option (FuncId × List AV) :=
 match o.op with
 | .call ⟨.value (.func F), args, _⟩ => match Oa C (mk L [] 0) args.toList with
  | some As => some (F, As)
  | none => none
 | _ => none
theorem yZ : ∀ {As Bs : List AV}, uF As = some Bs → uQ id As Bs
 | [], Bs, hB => by simp only [uF, Option.some.injEq] at hB; subst hB; trivial
 | A :: As, Bs, hB => by
  simp only [uF] at hB
  split at hB
  ·rename_i y r hy hr
   obtain rfl := Option.some.inj hB
   refine ⟨.inl ?_, yZ hr⟩
   cases A with
   | tup l => cases hy
   | cnd gs x => cases hy
   | c x => exact hy
   | agg l => exact hy
  ·cases hB
theorem Td {F : FuncId} {As Bs : List AV} {r v : AV} (h : xZ C o L = some (F, As)) (hF : bQ C.E F) (hB : uF As = some Bs) (hc : cN C.E F 0 Bs [] r []) (hr : r.pub = some v) : Qp C o L G v [] := by
 unfold xZ at h
 split at h
 ·rename_i F' args ts ho
  split at h
  ·rename_i As' h3
   simp only [Option.some.injEq, Prod.mk.injEq] at h
   obtain ⟨rfl, rfl⟩ := h
   intro s' U β μ a W he _ hrel Q K hK
   unfold Oper.wp
   rw [wH (args := args) (ts := ts) hF ho, Oper.upon_enter]
   obtain ⟨ea, eb⟩ := xL h3
   obtain ⟨g1, g2⟩ := sC (yZ hB)
   rw [show args.map a.eval = (args.toList.map a.eval).toArray from by rw [← Array.toList_map, Array.toArray_toList]]
   have hden : oU μ β Bs (args.toList.map a.eval) := by
    refine ⟨by rw [List.length_map, ← g1, ea], fun j B hj => ?_⟩
    obtain ⟨A, hA', hAB⟩ := g2 j B hj
    obtain ⟨x, hx, hxA⟩ := eb j A hA'
    have hd : cP μ β A (a.eval x) := St.ev_den hrel ((he x (by rw [ho]; simp only [Op.operands, Call.operands]; have := List.mem_of_getElem? hx; simp only [Array.mem_toList_iff] at this; simp [this])).trans ((eE rfl x).trans hxA))
    refine ⟨a.eval x, by simp [hx], ?_⟩
    rcases hAB with h1 | ⟨h1, h2⟩
    ·exact (hO h1 hd).den
    ·subst h1
     have := (rM (ρ := id) h2).1 hd
     exact this
   refine (hc β μ W _ hrel.w.imm hrel.w.glob ⟨fun n o hn => (nomatch hn), fun n m o p hn => (nomatch hn), fun n o hn => (nomatch hn)⟩ hden).mono ?_
   rintro e W' ⟨y, r', G', β'c, μ', rfl, ⟨hrr, _⟩, hy0, hleft⟩
   have hy : cP μ' β'c r y := by
    rcases hrr with rfl | hrr
    ·exact hy0
    ·exact (hO hrr hy0).den
   have hwr := hrel.w.call (σ := id) (Gc := fun _ => none) (H' := s'.H) (Gf := []) (nw := none) (nm := 0) hleft (fun n p hn => (nomatch hn)) (fun n => by simp) (fun n m hn => by omega) (fun n p hn => (nomatch hn)) (fun k' hk' => (nomatch hk')) ⟨fun n hn => by omega, fun k' hk' => (nomatch hk'), fun j _ _ => rfl⟩
   refine hK μ' W' y (hwr.weaken fun n hn => ?_) hleft.le ((hO hr hy).denT)
   rcases hn with hn | hn
   ·exact hn
   ·simp [xH] at hn
  ·cases h
 ·cases h
theorem Ub {e : List Bool} (l : Ls) {F : FuncId} {As Bs : List AV} {r v : AV} (hw : oB ops o L = some e) (hs : l.have_ L = l.want e) (hchk : yL C ops dr T b i o D e l v [] = true) (h : xZ C o l.st = some (F, As)) (hF : bQ C.E F) (hB : uF As = some Bs) (hc : e.all id = true → cN C.E F 0 Bs [] r []) (hr : r.pub = some v)
  (hL : kM o.dst (some (.cnd e v)) L = L') (hD : fN dr D i [] [] = D') (hk : RX C ops dr T b (i + 1) os D' (mk L' G lim) K) : RX C ops dr T b i (o :: os) D (mk L G lim) K := by
 subst hL hD
 simp only [yL, Bool.and_eq_true] at hchk
 obtain ⟨⟨⟨⟨c1, c2⟩, c3⟩, c4⟩, c5⟩ := hchk
 refine kW (fun hi => tY (lim := lim) hi hw c1 c2 hs c3 (fun he => Td h hF hB (hc he) hr) c5) c4 ?_
 rw [gJ]
 exact hk
def Vw (C : bP) (o : Oper) (L : List (Nat × AV)) : Option (Bool × IntKind × Int × Int) :=
 match o.op with
 | .binOp .quo _ x y _ => match (mk L [] 0).ev C x, (mk L [] 0).ev C y with
  | some (.c (.v (.int j a))), some (.c (.v (.int k b))) => if j == k then some (true, j, a, b) else none
  | _, _ => none
 | .binOp .rem _ x y _ => match (mk L [] 0).ev C x, (mk L [] 0).ev C y with
  | some (.c (.v (.int j a))), some (.c (.v (.int k b))) => if j == k then some (false, j, a, b) else none
  | _, _ => none
 | _ => none
theorem Xz {k : IntKind} {x y d : Int} (he : nz y = some d) (h : Vw C o L = some (true, k, x, y)) : rd C (mk L G lim) o.op = some ⟨some (.c (.v (.int k (k.wrap (x.tdiv y))))), [], [], []⟩ := by
 have hy : y ≠ 0 := by intro e; simp [nz, e] at he
 have hx : ∀ z, (mk L G lim).ev C z = (mk L [] 0).ev C z := fun z => eE rfl z
 unfold Vw at h
 split at h
 ·rename_i T' p q T'' ho
  rw [ho]
  split at h
  ·rename_i j a k' b' h1 h2
   split at h
   ·rename_i hjk
    simp only [Option.some.injEq, Prod.mk.injEq, true_and] at h
    obtain ⟨rfl, rfl, rfl⟩ := h
    simp only [rd, hx, h1, h2, yH, wF, hjk, Cw, if_true, hy, if_false, Value.isBoo, Bool.false_eq_true]
    rfl
   ·cases h
  ·cases h
 ·split at h
  ·split at h
   ·simp at h
   ·cases h
  ·cases h
 ·cases h
theorem Sr {k : IntKind} {x y d : Int} (he : nz y = some d) (h : Vw C o L = some (false, k, x, y)) : rd C (mk L G lim) o.op = some ⟨some (.c (.v (.int k (x.tmod y)))), [], [], []⟩ := by
 have hy : y ≠ 0 := by intro e; simp [nz, e] at he
 have hx : ∀ z, (mk L G lim).ev C z = (mk L [] 0).ev C z := fun z => eE rfl z
 unfold Vw at h
 split at h
 ·split at h
  ·split at h
   ·simp at h
   ·cases h
  ·cases h
 ·rename_i T' p q T'' ho
  rw [ho]
  split at h
  ·rename_i j a k' b' h1 h2
   split at h
   ·rename_i hjk
    simp only [Option.some.injEq, Prod.mk.injEq, true_and] at h
    obtain ⟨rfl, rfl, rfl⟩ := h
    simp only [rd, hx, h1, h2, yH, wF, hjk, Cw, if_true, hy, if_false, Value.isBoo, Bool.false_eq_true]
    rfl
   ·cases h
  ·cases h
 ·cases h
def bsB (C : bP) (ops : Array Oper) (o : Oper) (L : List (Nat × AV)) : Option (Nat × Nat × Nat × List CV) :=
 match o.op with
 | .buildSlice Ty len parts => match nX C.n o, gB ops o (fun t => L.lookup t), iR C (mk L [] 0) Ty len parts with
  | true, some true, some (e, sz, r) => some (e, sz, len, r)
  | _, _, _ => none
 | _ => none
theorem Cm {s s' : St} (h1 : s.fr = s'.fr) (Ty len : Nat) (parts : Array (Nat × Operand)) : iR C s Ty len parts = iR C s' Ty len parts := by
 unfold iR
 simp only [eE h1]
theorem pO {e sz len nm : Nat} {r : List CV} {l' : List (List CV)} (h : bsB C ops o L = some (e, sz, len, r)) (hl : tM sz len r = l') (hn : b + i = nm) (hchk : gR dr T b i D (some (.c (.app nm l'))) [(nm, some (.tok e sz len))] [] [nm] = true) (hL : kM o.dst (some (.c (.app nm l'))) L = L') (hG : sI [(nm, some (.tok e sz len))] G = G') (hD : fN dr D i [] [(nm, some (.tok e sz len))] = D')
  (hk : RX C ops dr T b (i + 1) os D' (mk L' G' lim) K) : RX C ops dr T b i (o :: os) D (mk L G lim) K := by
 subst hL hG hD hn hl
 unfold bsB at h
 split at h
 ·rename_i Ty len' parts ho
  split at h
  ·rename_i e' sz' r' h1 h2 h3
   simp only [Option.some.injEq, Prod.mk.injEq] at h
   obtain ⟨rfl, rfl, rfl, rfl⟩ := h
   have h3' : iR C (mk L G lim) Ty len' parts = some (e', sz', r') := (Cm rfl ..).trans h3
   refine kW (fun hi => vA (n := b + i) hi (s := mk L G lim) h2 (dN h1) ho h3') hchk ?_
   rw [gJ]
   exact hk
  ·cases h
 ·cases h
theorem tU.less {v v2 : AV} {wr : List (Nat × Option aY)} {foot new : List Nat} {s : St} (h : tU C ops i o s (some v) wr foot new) (hv : ∀ μ β y, cP μ β v y → cP μ β v2 y) (hm : v.ments = v2.ments) : tU C ops i o s (some v2) wr foot new := by
 intro s' U β μ a W hag hnew hment hrel Q K hK
 refine h s' U β μ a W hag hnew ⟨fun x hx n hn => ?_, hment.2⟩ hrel Q K fun β' μ' a' W' hr' => hK β' μ' a' W' ⟨⟨hr'.f.defers, hr'.f.size, fun t x ht => ?_, fun t x ht => ?_⟩, hr'.w⟩
 ·cases hx
  rw [hm] at hn
  exact hment.1 v2 rfl n hn
 ·cases hd : o.dst with
  | none => exact hr'.f.den t x (by simp only [St.app, hd] at ht ⊢; exact ht)
  | some d =>
   simp only [St.app, hd] at ht
   by_cases e : t = d
   ·rw [if_pos e] at ht
    obtain rfl := Option.some.inj ht
    obtain ⟨y, hy, hyd⟩ := hr'.f.den t v (by simp only [St.app, hd]; rw [if_pos e])
    exact ⟨y, hy, hv _ _ _ hyd⟩
   ·rw [if_neg e] at ht
    exact hr'.f.den t x (by simp only [St.app, hd]; rw [if_neg e]; exact ht)
 ·cases hd : o.dst with
  | none => exact hr'.f.used t x (by simp only [St.app, hd] at ht ⊢; exact ht)
  | some d =>
   simp only [St.app, hd] at ht
   by_cases e : t = d
   ·rw [if_pos e] at ht
    obtain rfl := Option.some.inj ht
    intro n hn
    exact hr'.f.used t v (by simp only [St.app, hd]; rw [if_pos e]) n (by rw [hm]; exact hn)
   ·rw [if_neg e] at ht
    exact hr'.f.used t x (by simp only [St.app, hd]; rw [if_neg e]; exact ht)
theorem Ka {μ : bV} {l c r : List CV} {y : Value} (h : cA μ (.imm l) y) (hl : l = c ++ r) : cA μ (.imm c) y := by
 subst hl
 cases h with
 | imm _ b o w hw hd => exact .imm c b o w (fun j x hj => hw j x (by rw [List.getElem?_append_left (List.getElem?_eq_some_iff.1 hj).1]; exact hj)) fun j x hj => hd j x (by rw [List.getElem?_append_left (List.getElem?_eq_some_iff.1 hj).1]; exact hj)
theorem xO {sz : Nat} : ∀ {l : List (List CV)} {i : Nat} {e : List CV}, (∀ x, x ∈ l → x.length = sz) → l[i]? = some e → ∃ r, l.flatten.drop (i * sz) = e ++ r
 | [], i, e, _, h => by simp at h
 | d :: l, 0, e, _, h => by
  simp only [List.getElem?_cons_zero, Option.some.injEq] at h
  subst h
  exact ⟨l.flatten, by simp⟩
 | d :: l, i + 1, e, hl, h => by
  obtain ⟨r, hr⟩ := xO (fun x hx => hl x (List.mem_cons_of_mem _ hx)) (by simpa using h : l[i]? = some e)
  refine ⟨r, ?_⟩
  have hd := hl d (List.mem_cons_self ..)
  rw [List.flatten_cons, Nat.add_mul, Nat.one_mul, ← hr]
  rw [show i * sz + sz = d.length + i * sz by omega, ← List.drop_drop, List.drop_left]
def Iz (C : bP) (o : Oper) (L : List (Nat × AV)) : Option (List CV × Int × Nat × Nat) :=
 match o.op with
 | .indexAddr Ty x y => match (mk L [] 0).ev C x, (mk L [] 0).ev C y, C.E.ti Ty with
  | some (.c (.imm l)), some (.c (.v (.int _ i))), some ⟨.arr len e, _, _, _⟩ => match C.E.ti e with | some j => some (l, i, len, j.size) | none => none
  | _, _, _ => none
 | _ => none
theorem Wd {α : Type} {enc : α → List CV} {xs : List α} {ix : Int} {e : α} {c : List CV} {len sz : Nat} (he : idx xs ix = some e) (h : Iz C o L = some ((xs.map enc).flatten, ix, len, sz)) (hn : xs.length = len) (hc : enc e = c) (hsz : ∀ x, (enc x).length = sz) (hchk : rJ C ops dr T b i o L D (.c (.imm c)) [] = true) (hL : kM o.dst (some (.c (.imm c))) L = L') (hD : fN dr D i [] [] = D') (hk : RX C ops dr T b (i + 1) os D' (mk L' G lim) K) : RX C ops dr T b i (o :: os) D (mk L G lim) K := by
 subst hL hD
 unfold idx at he
 split at he
 ·rename_i h0
  have hlt : ix.toNat < len := by rw [← hn]; exact (List.getElem?_eq_some_iff.1 he).1
  obtain ⟨r, hr⟩ := xO (sz := sz) (l := xs.map enc) (i := ix.toNat) (e := c) (fun x hx => by obtain ⟨y, _, rfl⟩ := List.mem_map.1 hx; exact hsz y) (by rw [List.getElem?_map, he, ← hc]; rfl)
  simp only [rJ, Bool.and_eq_true] at hchk
  obtain ⟨⟨c1, c2⟩, c3⟩ := hchk
  have hw : gB ops o (fun t => L.lookup t) = some true := by
   split at c2
   ·assumption
   ·cases c2
  have hrd : rd C (mk L G lim) o.op = some ⟨some (.c (.imm ((xs.map enc).flatten.drop (ix.toNat * sz)))), [], [], []⟩ := by
   unfold Iz at h
   split at h
   ·rename_i T' x y ho
    have hx : ∀ z, (mk L G lim).ev C z = (mk L [] 0).ev C z := fun z => eE rfl z
    rw [ho]
    split at h
    ·rename_i l' k' i' len' e' z1 z2 z3 h1 h2 h3
     split at h
     ·rename_i j hj
      simp only [Option.some.injEq, Prod.mk.injEq] at h
      obtain ⟨rfl, rfl, rfl, rfl⟩ := h
      have hcond : 0 ≤ i' ∧ i' < len' := ⟨h0, by omega⟩
      simp only [rd, hx, h1, h2, h3, hj, hcond, and_self, if_true]
      rfl
     ·cases h
    ·cases h
   ·cases h
  refine kW (fun hi => (Mk hi (s := mk L G lim) hw (dN c1) hrd).less (v2 := .c (.imm c)) (fun μ β y hy => gO (β := β) (Ka (μ := μ) hy hr)) rfl) c3 ?_
  rw [gJ]
  exact hk
 ·cases he
end
end Go.Bm
namespace Go.Bm
open Go
def oE (i : Int) (n : Nat) : Option Nat := if 0 ≤ i ∧ i < n then some i.toNat else none
theorem dP {i : Int} {n k : Nat} (h : oE i n = some k) : k < n := by
 unfold oE at h
 split at h
 ·rename_i h0; obtain rfl := Option.some.inj h; omega
 ·cases h
section
variable {C : bP} {ops : Array Oper} {dr : Bool} {T : List (List Nat)} {b i : Nat} {o : Oper} {os : List Oper} {D D' : List (Nat × Fx)} {L L' : List (Nat × AV)} {G G' : List (Nat × aY)} {lim : Nat} {K : St → Prop}
def Xa (C : bP) (o : Oper) (L : List (Nat × AV)) : Option (List CV × Int × Nat × TI) :=
 match o.op with
 | .index Ty x y => match (mk L [] 0).ev C x, (mk L [] 0).ev C y, C.E.ti Ty with
  | some (.agg l), some (.c (.v (.int _ i))), some ⟨.arr len e, _, _, _⟩ => match C.E.ti e with | some j => some (l, i, len, j) | none => none
  | _, _, _ => none
 | _ => none
theorem Ea {ag : Bool} {n : Nat} {c r : List CV} {v : AV} (hn : c.length = n) (h0 : 0 < n) (h : cut ag n c = some v) : cut ag n (c ++ r) = some v := by
 unfold cut at h ⊢
 cases ag with
 | true =>
  simp only [if_true] at h ⊢
  rw [if_pos (by omega)] at h
  rw [if_pos (by rw [List.length_append]; omega)]
  rw [← h, ← hn, List.take_left, List.take_length]
 | false =>
  simp only [Bool.false_eq_true, if_false] at h ⊢
  cases c with
  | nil => simp at hn; omega
  | cons x c => exact h
theorem Bb {α : Type} {enc : α → List CV} {xs : List α} {ix : Int} {e : α} {len : Nat} {j : TI} {v : AV} (he : idx xs ix = some e) (h : Xa C o L = some ((xs.map enc).flatten, ix, len, j)) (hn : xs.length = len) (hsz : ∀ x, (enc x).length = j.size) (hpos : 0 < j.size) (hv : cut j.k.agg j.size (enc e) = some v) : rd C (mk L G lim) o.op = some ⟨some v, [], [], []⟩ := by
 unfold idx at he
 split at he
 ·rename_i h0
  have hlt : ix.toNat < len := by rw [← hn]; exact (List.getElem?_eq_some_iff.1 he).1
  obtain ⟨r, hr⟩ := xO (sz := j.size) (l := xs.map enc) (i := ix.toNat) (e := enc e) (fun x hx => by obtain ⟨y, _, rfl⟩ := List.mem_map.1 hx; exact hsz y) (by rw [List.getElem?_map, he]; rfl)
  unfold Xa at h
  split at h
  ·rename_i T' x y ho
   have hx : ∀ z, (mk L G lim).ev C z = (mk L [] 0).ev C z := fun z => eE rfl z
   rw [ho]
   split at h
   ·rename_i l' k' i' len' e' z1 z2 z3 h1 h2 h3
    split at h
    ·rename_i j' hj
     simp only [Option.some.injEq, Prod.mk.injEq] at h
     obtain ⟨rfl, rfl, rfl, rfl⟩ := h
     have hcond : 0 ≤ i' ∧ i' < len' := ⟨h0, by omega⟩
     simp only [rd, hx, h1, h2, h3, hj, hcond, and_self, if_true, hr, Ea (hsz e) hpos hv, Option.map_some]
     rfl
    ·cases h
   ·cases h
  ·cases h
 ·cases he
def iaB (C : bP) (o : Oper) (L : List (Nat × AV)) : Option (Nat × Nat × Int × Nat × Nat) :=
 match o.op with
 | .indexAddr Ty x y => match (mk L [] 0).ev C x, (mk L [] 0).ev C y, C.E.ti Ty with
  | some (.c (.ptr n q)), some (.c (.v (.int _ i))), some ⟨.arr len e, _, _, _⟩ => match C.E.ti e with | some j => some (n, q, i, len, j.size) | none => none
  | _, _, _ => none
 | _ => none
theorem Ds {n q len sz k : Nat} {ix : Int} (he : oE ix len = some k) (h : iaB C o L = some (n, q, ix, len, sz)) : rd C (mk L G lim) o.op = some ⟨some (.c (.ptr n (q + k * sz))), [], [], []⟩ := by
 unfold oE at he
 split at he
 ·rename_i h0
  obtain rfl := Option.some.inj he
  unfold iaB at h
  split at h
  ·rename_i T' x y ho
   have hx : ∀ z, (mk L G lim).ev C z = (mk L [] 0).ev C z := fun z => eE rfl z
   rw [ho]
   split at h
   ·rename_i n' q' k' i' len' e' z1 z2 z3 h1 h2 h3
    split at h
    ·rename_i j' hj
     simp only [Option.some.injEq, Prod.mk.injEq] at h
     obtain ⟨rfl, rfl, rfl, rfl, rfl⟩ := h
     simp only [rd, hx, h1, h2, h3, hj, h0, and_self, if_true]
     rfl
    ·cases h
   ·cases h
  ·cases h
 ·cases he
def stB (C : bP) (ops : Array Oper) (o : Oper) (L : List (Nat × AV)) (G : List (Nat × aY)) : Option (Nat × Nat × List CV × Nat × List CV × Nat) :=
 match o.op with
 | .store Ty a x => match o.dst, gB ops o (fun t => L.lookup t), (mk L [] 0).ev C a, (mk L [] 0).ev C x, C.E.ti Ty with
  | none, some true, some (.c (.ptr n off)), some A, some k => match A.cells?, G.lookup n with
   | some lx, some (.blk T0 l) => some (n, off, lx, T0, l, k.size)
   | _, _ => none
  | _, _, _, _, _ => none
 | _ => none
theorem rA {n off T0 sz : Nat} {lx l l2 : List CV} (h : stB C ops o L G = some (n, off, lx, T0, l, sz)) (hlx : lx.length = sz) (hle : off + lx.length ≤ l.length) (hl2 : fL l off lx = l2) (hchk : gR dr T b i D none [(n, some (.blk T0 l2))] [n] [] = true) (hG : sI [(n, some (.blk T0 l2))] G = G') (hD : fN dr D i [n] [(n, some (.blk T0 l2))] = D')
  (hk : RX C ops dr T b (i + 1) os D' (mk L G' lim) K) : RX C ops dr T b i (o :: os) D (mk L G lim) K := by
 subst hG hD hl2
 unfold stB at h
 split at h
 ·rename_i Ty a x ho
  split at h
  ·rename_i n' off' A k h1 h2 h3 h4 h5
   split at h
   ·rename_i lx' T0' l' h6 h7
    simp only [Option.some.injEq, Prod.mk.injEq] at h
    obtain ⟨rfl, rfl, rfl, rfl, rfl, rfl⟩ := h
    refine kW (fun hi => Gq hi (s := mk L G lim) h2 h1 ho ((eE rfl a).trans h3) ((eE rfl x).trans h4) h5 h6 h7 hlx hle) hchk ?_
    rw [gJ, h1]
    exact hk
   ·cases h
  ·cases h
 ·cases h
def ldB (C : bP) (o : Oper) (L : List (Nat × AV)) (G : List (Nat × aY)) : Option (Nat × Nat × List CV × TI) :=
 match o.op with
 | .load Ty x => match (mk L [] 0).ev C x, C.E.ti Ty with
  | some (.c (.ptr n off)), some j => match G.lookup n with
   | some (.blk _ l) => some (n, off, l, j)
   | _ => none
  | _, _ => none
 | _ => none
theorem Rc {n off : Nat} {l : List CV} {j : TI} {v : AV} (h : ldB C o L G = some (n, off, l, j)) (hv : cut j.k.agg j.size (l.drop off) = some v) : rd C (mk L G lim) o.op = some ⟨some v, [], [n], []⟩ := by
 unfold ldB at h
 split at h
 ·rename_i Ty x ho
  have hx : ∀ z, (mk L G lim).ev C z = (mk L [] 0).ev C z := fun z => eE rfl z
  rw [ho]
  split at h
  ·rename_i n' off' j' h1 h2
   split at h
   ·rename_i T0 l' h3
    simp only [Option.some.injEq, Prod.mk.injEq] at h
    obtain ⟨rfl, rfl, rfl, rfl⟩ := h
    have h3' : (mk L G lim).H n' = some (.blk T0 l') := h3
    simp only [rd, hx, h1, h2, h3', hv, Option.map_some]
    rfl
   ·cases h
  ·cases h
 ·cases h
theorem Iy {α : Type} {enc : α → List CV} {xs : List α} {k : Nat} {e : α} {j : TI} {v : AV} {l : List CV} {off : Nat} (he : xs[k]? = some e) (hl : l.drop off = ((xs.map enc).flatten).drop (k * j.size)) (hsz : ∀ x, (enc x).length = j.size) (hpos : 0 < j.size) (hv : cut j.k.agg j.size (enc e) = some v) : cut j.k.agg j.size (l.drop off) = some v := by
 obtain ⟨r, hr⟩ := xO (sz := j.size) (l := xs.map enc) (i := k) (e := enc e) (fun x hx => by obtain ⟨y, _, rfl⟩ := List.mem_map.1 hx; exact hsz y) (by rw [List.getElem?_map, he]; rfl)
 rw [hl, hr]
 exact Ea (hsz e) hpos hv
theorem mI {α : Type} {enc : α → List CV} {xs : List α} {k sz : Nat} {v : α} (hk : k < xs.length) (hsz : ∀ x, (enc x).length = sz) : fL ((xs.map enc).flatten) (k * sz) (enc v) = (((xs.set k v).map enc).flatten) := by
 unfold fL
 induction xs generalizing k with
 | nil => simp at hk
 | cons x xs ih =>
  cases k with
  | zero =>
   simp only [Nat.zero_mul, List.take_zero, List.nil_append, Nat.zero_add, List.map_cons, List.flatten_cons, List.set_cons_zero]
   rw [hsz v, ← hsz x, List.drop_left]
  | succ k =>
   have hx := hsz x
   have := ih (k := k) (by simpa using hk)
   simp only [List.map_cons, List.flatten_cons, List.set_cons_succ]
   rw [← this]
   have e1 : (k + 1) * sz = (enc x).length + k * sz := by rw [hx, Nat.add_mul]; omega
   rw [e1, List.take_length_add_append, Nat.add_assoc, List.drop_length_add_append, List.append_assoc, List.append_assoc]
   simp [List.append_assoc]
theorem Vs {α : Type} {enc : α → List CV} {xs : List α} {ix : Int} {e : α} {len sz : Nat} (he : idx xs ix = some e) (h : Iz C o L = some ((xs.map enc).flatten, ix, len, sz)) (hn : xs.length = len) : rd C (mk L G lim) o.op = some ⟨some (.c (.imm ((xs.map enc).flatten.drop (ix.toNat * sz)))), [], [], []⟩ := by
 unfold idx at he
 split at he
 ·rename_i h0
  have hlt : ix.toNat < len := by rw [← hn]; exact (List.getElem?_eq_some_iff.1 he).1
  unfold Iz at h
  split at h
  ·rename_i T' x y ho
   have hx : ∀ z, (mk L G lim).ev C z = (mk L [] 0).ev C z := fun z => eE rfl z
   rw [ho]
   split at h
   ·rename_i l' k' i' len' e' z1 z2 z3 h1 h2 h3
    split at h
    ·rename_i j hj
     simp only [Option.some.injEq, Prod.mk.injEq] at h
     obtain ⟨rfl, rfl, rfl, rfl⟩ := h
     have hcond : 0 ≤ i' ∧ i' < len' := ⟨h0, by omega⟩
     simp only [rd, hx, h1, h2, h3, hj, hcond, and_self, if_true]
     rfl
    ·cases h
   ·cases h
  ·cases h
 ·cases he
theorem Rz {v v2 : AV} {foot : List Nat} (h : Qp C o L G v foot) (hv : ∀ μ β y, rT μ β v y → rT μ β v2 y) : Qp C o L G v2 foot :=
 fun s' U β μ a W h1 h2 h3 Q K hK => h s' U β μ a W h1 h2 h3 Q K fun μ' W' y g1 g2 g3 => hK μ' W' y g1 g2 (hv _ _ _ g3)
theorem Cx {es : List Bool} (l : Ls) {α : Type} {enc : α → List CV} {xs : List α} {ix : Int} {e : α} {c : List CV} {len sz : Nat} (he : es.all id = true → idx xs ix = some e) (hw : oB ops o L = some es) (hs : l.have_ L = l.want es) (hchk : yL C ops dr T b i o D es l (.c (.imm c)) [] = true)
  (h : Iz C o l.st = some ((xs.map enc).flatten, ix, len, sz)) (hn : xs.length = len) (hc : enc e = c) (hsz : ∀ x, (enc x).length = sz) (hL : kM o.dst (some (.cnd es (.c (.imm c)))) L = L') (hD : fN dr D i [] [] = D') (hk : RX C ops dr T b (i + 1) os D' (mk L' G lim) K) : RX C ops dr T b i (o :: os) D (mk L G lim) K := by
 subst hL hD
 simp only [yL, Bool.and_eq_true] at hchk
 obtain ⟨⟨⟨⟨c1, c2⟩, c3⟩, c4⟩, c5⟩ := hchk
 refine kW (fun hi => tY (lim := lim) hi hw c1 c2 hs c3 (fun hg => ?_) c5) c4 ?_
 ·have he := he hg
  have hrd := Vs (G := G) (lim := 0) he h hn
  unfold idx at he
  split at he
  ·obtain ⟨r, hr⟩ := xO (sz := sz) (l := xs.map enc) (i := ix.toNat) (e := c) (fun x hx => by obtain ⟨y, _, rfl⟩ := List.mem_map.1 hx; exact hsz y) (by rw [List.getElem?_map, he, ← hc]; rfl)
   exact Rz (So rfl hrd) fun μ β y hy => gO (β := β) (Ka (μ := μ) hy hr)
  ·cases he
 ·rw [gJ]
  exact hk
end
end Go.Bm
