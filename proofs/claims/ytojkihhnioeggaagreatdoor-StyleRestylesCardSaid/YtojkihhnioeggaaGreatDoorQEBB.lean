import Derived.Test.YtojkihhnioeggaaGreatDoorQEBA
import Derived.IntWalk
import Derived.Deep.LoopGhost
import Derived.Maps.AppendAt
import Derived.Laws.OwnMore
import Derived.WalkKit
import Derived.WalkSpells
import Derived.WalkLawsBesides
import Derived.Deep.QuietTactic
import Derived.BigQuiet
import Derived.BigRegion
import Derived.Lib.Hide
import Derived.Deep.RegionWith
set_option linter.all false
namespace Go.Bm
open Go
def CV.ren1 (ρ : Nat → Nat) : CV → CV
 | .ptr n o => .ptr (ρ n) o
 | .app n l => .app (ρ n) l
 | .row n => .row (ρ n)
 | .mapr n => .mapr (ρ n)
 | x => x
def CV.ren (ρ : Nat → Nat) : CV → CV
 | .fn f caps => .fn f (caps.map (CV.ren1 ρ))
 | x => x.ren1 ρ
def AV.ren1 (ρ : Nat → Nat) : AV → AV
 | .c x => .c (x.ren ρ)
 | .agg l => .agg (l.map (CV.ren ρ))
 | x => x
def AV.ren (ρ : Nat → Nat) : AV → AV
 | .tup l => .tup (l.map (AV.ren1 ρ))
 | x => x.ren1 ρ
def bH.ren (ρ : Nat → Nat) : bH → bH
 | .blk T l => .blk T (l.map (CV.ren ρ))
 | o => o
def AV.plain : AV → Bool
 | .cnd _ _ => false
 | _ => true
theorem Ph {μ : cL} {β : Nat → Bk} {ρ : Nat → Nat} {x : CV} {v : Value} : pW μ β (x.ren1 ρ) v ↔ pW μ (fun n => β (ρ n)) x v := by
 cases x <;> exact Iff.rfl
theorem Fr {μ : cL} {β : Nat → Bk} {ρ : Nat → Nat} {x : CV} {v : Value} : Kf μ β (x.ren ρ) v ↔ Kf μ (fun n => β (ρ n)) x v := by
 cases x with
 | fn f caps =>
  constructor
  ·rintro ⟨vs, h1, h2, h3⟩
   refine ⟨vs, h1, by simpa using h2, fun j x hj => ?_⟩
   obtain ⟨y, hy, hd⟩ := h3 j (x.ren1 ρ) (by simp [hj])
   exact ⟨y, hy, Ph.1 hd⟩
  ·rintro ⟨vs, h1, h2, h3⟩
   refine ⟨vs, h1, by simpa using h2, fun j x hj => ?_⟩
   rw [List.getElem?_map] at hj
   cases hq : caps[j]? with
   | none => rw [hq] at hj; cases hj
   | some z =>
    rw [hq] at hj
    obtain rfl := Option.some.inj hj
    obtain ⟨y, hy, hd⟩ := h3 j z hq
    exact ⟨y, hy, Ph.2 hd⟩
 | v x => exact Iff.rfl
 | lit l => exact Iff.rfl
 | imm l => exact Iff.rfl
 | lmap ag l => exact Iff.rfl
 | ptr n o => exact Iff.rfl
 | app n l => exact Iff.rfl
 | row n => exact Iff.rfl
 | mapr n => exact Iff.rfl
theorem Bg {μ : cL} {β : Nat → Bk} {ρ : Nat → Nat} {l : List CV} {vs : Array Value} : wQ μ β (l.map (CV.ren ρ)) vs ↔ wQ μ (fun n => β (ρ n)) l vs := by
 constructor
 ·intro h
  exact ⟨by simpa using h.1, fun j x hj => let ⟨y, hy, hd⟩ := h.2 j (x.ren ρ) (by simp [hj]); ⟨y, hy, Fr.1 hd⟩⟩
 ·intro h
  refine ⟨by simpa using h.1, fun j x hj => ?_⟩
  rw [List.getElem?_map] at hj
  cases hq : l[j]? with
  | none => rw [hq] at hj; cases hj
  | some z =>
   rw [hq] at hj
   obtain rfl := Option.some.inj hj
   obtain ⟨y, hy, hd⟩ := h.2 j z hq
   exact ⟨y, hy, Fr.2 hd⟩
theorem Il {μ : cL} {β : Nat → Bk} {ρ : Nat → Nat} {x : AV} {v : Value} : Bq μ β (x.ren1 ρ) v ↔ Bq μ (fun n => β (ρ n)) x v := by
 cases x with
 | c x => exact Fr (x := x)
 | agg l => exact ⟨fun ⟨vs, h1, h2⟩ => ⟨vs, h1, Bg.1 h2⟩, fun ⟨vs, h1, h2⟩ => ⟨vs, h1, Bg.2 h2⟩⟩
 | tup l => exact Iff.rfl
 | cnd gs x => exact Iff.rfl
theorem Ps {μ : cL} {β : Nat → Bk} {ρ : Nat → Nat} {x : AV} {v : Value} : uN μ β (x.ren ρ) v ↔ uN μ (fun n => β (ρ n)) x v := by
 cases x with
 | c x => exact Fr (x := x)
 | agg l => exact Il (x := .agg l)
 | tup l =>
  constructor
  ·rintro ⟨vs, h1, h2, h3⟩
   refine ⟨vs, h1, by simpa using h2, fun j x hj => ?_⟩
   obtain ⟨y, hy, hd⟩ := h3 j (x.ren1 ρ) (by simp [hj])
   exact ⟨y, hy, Il.1 hd⟩
  ·rintro ⟨vs, h1, h2, h3⟩
   refine ⟨vs, h1, by simpa using h2, fun j x hj => ?_⟩
   rw [List.getElem?_map] at hj
   cases hq : l[j]? with
   | none => rw [hq] at hj; cases hj
   | some z =>
    rw [hq] at hj
    obtain rfl := Option.some.inj hj
    obtain ⟨y, hy, hd⟩ := h3 j z hq
    exact ⟨y, hy, Il.2 hd⟩
 | cnd gs x => exact Iff.rfl
theorem Dw {μ : cL} {β : Nat → Bk} {x : AV} {v : Value} (h : uN μ β x v) : dL μ β x v := by
 cases x with
 | cnd gs x => exact h.elim
 | c x => exact h
 | agg l => exact h
 | tup l => exact h
theorem Na {μ : cL} {β : Nat → Bk} {x : AV} {v : Value} (hp : x.plain = true) (h : dL μ β x v) : uN μ β x v := by
 cases x with
 | cnd gs x => cases hp
 | c x => exact h
 | agg l => exact h
 | tup l => exact h
theorem Xu {ρ : Nat → Nat} {x : AV} : (x.ren ρ).plain = x.plain := by cases x <;> rfl
theorem uD {μ : cL} {β : Nat → Bk} {ρ : Nat → Nat} {x : AV} {v : Value} (hp : x.plain = true) : dL μ β (x.ren ρ) v ↔ dL μ (fun n => β (ρ n)) x v :=
 ⟨fun h => Dw (Ps.1 (Na (by rw [Xu]; exact hp) h)), fun h => Dw (Ps.2 (Na hp h))⟩
theorem Fy {μ : cL} {β : Nat → Bk} {W : World} {k : Bk} {ρ : Nat → Nat} {o : bH} : qT μ β W k (o.ren ρ) ↔ qT μ (fun n => β (ρ n)) W k o := by
 cases o with
 | blk T l => exact ⟨fun ⟨h1, vs, h2, h3⟩ => ⟨h1, vs, h2, Bg.1 h3⟩, fun ⟨h1, vs, h2, h3⟩ => ⟨h1, vs, h2, Bg.2 h3⟩⟩
 | tok T sz e => exact Iff.rfl
 | vec T sz l => exact Iff.rfl
 | map ag l => exact Iff.rfl
theorem Bh {μ : cL} {b : Nat} {ρ : Nat → Nat} {o : bH} : tR μ b (o.ren ρ) ↔ tR μ b o := by cases o <;> exact Iff.rfl
theorem Sn {ρ : Nat → Nat} {x : CV} : (x.ren1 ρ).ments1 = x.ments1.map ρ := by cases x <;> rfl
theorem Ds {ρ : Nat → Nat} {x : CV} : (x.ren ρ).ments = x.ments.map ρ := by
 cases x with
 | fn f caps => simp only [CV.ren, CV.ments, List.flatMap_map, List.map_flatMap, Sn]
 | _ => rfl
theorem Ab {ρ : Nat → Nat} {l : List CV} : (l.map (CV.ren ρ)).flatMap CV.ments = (l.flatMap CV.ments).map ρ := by
 simp only [List.flatMap_map, List.map_flatMap, Ds]
theorem Tn {ρ : Nat → Nat} {x : AV} : (x.ren1 ρ).ments1 = x.ments1.map ρ := by
 cases x with
 | c x => exact Ds
 | agg l => exact Ab
 | tup l => rfl
 | cnd gs x => rfl
theorem Hq {ρ : Nat → Nat} {x : AV} (hp : x.plain = true) : (x.ren ρ).ments = x.ments.map ρ := by
 cases x with
 | c x => exact Ds
 | agg l => exact Ab
 | tup l =>
  show (l.map (AV.ren1 ρ)).flatMap AV.ments1 = (l.flatMap AV.ments1).map ρ
  simp only [List.flatMap_map, List.map_flatMap, Tn]
 | cnd gs x => cases hp
theorem Hb {ρ : Nat → Nat} {o : bH} : (o.ren ρ).ments = o.ments.map ρ := by
 cases o with
 | blk T l => exact Ab
 | _ => rfl
def Rp (μ : cL) (l : List CV) (vs : Array Value) : Prop := vs.size = l.length ∧ ∀ (j : Nat) (x : CV), l[j]? = some x → ∃ y, vs[j]? = some y ∧ cQ μ x y
def pD (μ : cL) : AV → Value → Prop
 | .c x, v => cQ μ x v
 | .agg l, v => ∃ vs, v = .agg vs ∧ Rp μ l vs
 | _, _ => False
def zL (μ : cL) : AV → Value → Prop
 | .tup l, v => ∃ vs : Array Value, v = .tuple vs ∧ vs.size = l.length ∧ ∀ (j : Nat) (x : AV), l[j]? = some x → ∃ y, vs[j]? = some y ∧ pD μ x y
 | x, v => pD μ x v
theorem Rp.mono {μ μ' : cL} (h : μ.le μ') {l : List CV} {vs : Array Value} (hd : Rp μ l vs) : Rp μ' l vs := ⟨hd.1, fun j x hj => let ⟨y, hy, k⟩ := hd.2 j x hj; ⟨y, hy, k.mono h⟩⟩
theorem pD.mono {μ μ' : cL} (h : μ.le μ') {x : AV} {v : Value} (hd : pD μ x v) : pD μ' x v := by
 cases x with
 | c x => exact cQ.mono h hd
 | agg l => exact let ⟨vs, h1, h2⟩ := hd; ⟨vs, h1, h2.mono h⟩
 | tup l => exact hd.elim
 | cnd gs x => exact hd.elim
theorem zL.mono {μ μ' : cL} (h : μ.le μ') {x : AV} {v : Value} (hd : zL μ x v) : zL μ' x v := by
 cases x with
 | tup l => exact let ⟨vs, h1, h2, h3⟩ := hd; ⟨vs, h1, h2, fun j x hj => let ⟨y, hy, k⟩ := h3 j x hj; ⟨y, hy, k.mono h⟩⟩
 | c x => exact pD.mono (x := .c x) h hd
 | agg l => exact pD.mono (x := .agg l) h hd
 | cnd gs x => exact hd.elim
theorem pD.den {μ : cL} {β : Nat → Bk} {x : AV} {v : Value} (hd : pD μ x v) : Bq μ β x v := by
 cases x with
 | c x => exact iT (β := β) hd
 | agg l => exact let ⟨vs, h1, h2, h3⟩ := hd; ⟨vs, h1, h2, fun j x hj => let ⟨y, hy, k⟩ := h3 j x hj; ⟨y, hy, iT k⟩⟩
 | tup l => exact hd.elim
 | cnd gs x => exact hd.elim
theorem zL.denT {μ : cL} {β : Nat → Bk} {x : AV} {v : Value} (hd : zL μ x v) : uN μ β x v := by
 cases x with
 | tup l => exact let ⟨vs, h1, h2, h3⟩ := hd; ⟨vs, h1, h2, fun j x hj => let ⟨y, hy, k⟩ := h3 j x hj; ⟨y, hy, k.den⟩⟩
 | c x => exact pD.den (x := .c x) (β := β) hd
 | agg l => exact pD.den (x := .agg l) (β := β) hd
 | cnd gs x => exact hd.elim
theorem zL.den {μ : cL} {β : Nat → Bk} {x : AV} {v : Value} (hd : zL μ x v) : dL μ β x v := Dw hd.denT
theorem Jb {μ : cL} {β : Nat → Bk} {x y : AV} {v : Value} (hp : x.pub1 = some y) (h : Bq μ β x v) : pD μ y v := by
 cases x with
 | c x =>
  simp only [AV.pub1] at hp
  split at hp
  ·rename_i z hz
   obtain rfl := Option.some.inj hp
   exact Bx hz h
  ·cases hp
 | agg l =>
  simp only [AV.pub1] at hp
  split at hp
  ·rename_i r hr
   obtain rfl := Option.some.inj hp
   obtain ⟨vs, rfl, h1, h2⟩ := h
   obtain ⟨h3, h4⟩ := tA hr
   refine ⟨vs, rfl, by rw [h1, h3], fun j y hj => ?_⟩
   obtain ⟨x, hx, hxy⟩ := h4 j y hj
   obtain ⟨z, hz, hd⟩ := h2 j x hx
   exact ⟨z, hz, Bx hxy hd⟩
  ·cases hp
 | tup l => exact h.elim
 | cnd gs x => exact h.elim
theorem Pi : ∀ {l l' : List AV}, xX l = some l' → l'.length = l.length ∧ ∀ (j : Nat) (y : AV), l'[j]? = some y → ∃ x, l[j]? = some x ∧ x.pub1 = some y
 | [], l', h => by simp only [xX, Option.some.injEq] at h; subst h; simp
 | x :: l, l', h => by
  simp only [xX] at h
  split at h
  ·rename_i y r hy hr
   obtain rfl := Option.some.inj h
   obtain ⟨h1, h2⟩ := Pi hr
   refine ⟨by simp [h1], fun j z hj => ?_⟩
   cases j with
   | zero => simp at hj; subst hj; exact ⟨x, rfl, hy⟩
   | succ j => exact h2 j z hj
  ·cases h
theorem jJ {μ : cL} {β : Nat → Bk} {x y : AV} {v : Value} (hp : x.pub = some y) (h : dL μ β x v) : zL μ y v := by
 cases x with
 | tup l =>
  simp only [AV.pub] at hp
  split at hp
  ·rename_i r hr
   obtain rfl := Option.some.inj hp
   obtain ⟨vs, rfl, h1, h2⟩ := h
   obtain ⟨h3, h4⟩ := Pi hr
   refine ⟨vs, rfl, by rw [h1, h3], fun j y hj => ?_⟩
   obtain ⟨x, hx, hxy⟩ := h4 j y hj
   obtain ⟨z, hz, hd⟩ := h2 j x hx
   exact ⟨z, hz, Jb hxy hd⟩
  ·cases hp
 | c x =>
  have := Jb (x := .c x) (y := y) (β := β) hp h
  cases y with
  | tup l => exact this.elim
  | cnd gs x => exact this.elim
  | c y => exact this
  | agg l => exact this
 | agg l =>
  have := Jb (x := .agg l) (y := y) (β := β) hp h
  cases y with
  | tup l => exact this.elim
  | cnd gs x => exact this.elim
  | c y => exact this
  | agg l => exact this
 | cnd gs x => cases hp
theorem Sv {μ : cL} {x : CV} {v : Value} (h : cQ μ x v) : x.ments1 = [] := by
 cases x with
 | ptr n o => nomatch h
 | app n l => nomatch h
 | row n => nomatch h
 | mapr n => nomatch h
 | _ => rfl
theorem Ea {μ : cL} {x : CV} {v : Value} (h : cQ μ x v) : x.ments = [] := by
 cases x with
 | ptr n o => nomatch h
 | app n l => nomatch h
 | row n => nomatch h
 | mapr n => nomatch h
 | fn f caps =>
  generalize hq : CV.fn f caps = q at h
  cases h with
  | fn f' caps' vs w hn hw hd =>
   injection hq with h1 h2
   subst h1 h2
   simp only [CV.ments]
   rw [List.flatMap_eq_nil_iff]
   intro x hx
   obtain ⟨j, hj⟩ := List.getElem?_of_mem hx
   exact Sv (hd j x hj)
  | _ => cases hq
 | _ => rfl
theorem Jp {μ : cL} {l : List CV} {vs : Array Value} (h : Rp μ l vs) : l.flatMap CV.ments = [] := by
 rw [List.flatMap_eq_nil_iff]
 intro x hx
 obtain ⟨j, hj⟩ := List.getElem?_of_mem hx
 obtain ⟨y, _, hd⟩ := h.2 j x hj
 exact Ea hd
theorem Ts {μ : cL} {A : AV} {v : Value} (h : pD μ A v) : A.ments1 = [] := by
 cases A with
 | c x => exact Ea (x := x) h
 | agg l => obtain ⟨vs, _, h2⟩ := h; exact Jp h2
 | tup l => rfl
 | cnd gs x => rfl
theorem Gw {μ : cL} {A : AV} {v : Value} (h : zL μ A v) : A.ments = [] := by
 cases A with
 | c x => exact Ea (x := x) h
 | agg l => obtain ⟨vs, _, h2⟩ := h; exact Jp h2
 | tup l =>
  obtain ⟨vs, _, _, h3⟩ := h
  show l.flatMap AV.ments1 = []
  rw [List.flatMap_eq_nil_iff]
  intro x hx
  obtain ⟨j, hj⟩ := List.getElem?_of_mem hx
  obtain ⟨y, _, hd⟩ := h3 j x hj
  exact Ts hd
 | cnd gs x => exact h.elim
def rU (μ : cL) (β : Nat → Bk) (args : List AV) (vs : List Value) : Prop := vs.length = args.length ∧ ∀ (i : Nat) (A : AV), args[i]? = some A → ∃ v, vs[i]? = some v ∧ dL μ β A v
structure Owns (G : Nat → Option bH) (β : Nat → Bk) (μ : cL) (W : World) : Prop where
 own : ∀ n o, G n = some o → qT μ β W (β n) o
 inj : ∀ n m o p, G n = some o → G m = some p → (β n).nil = false → (β m).nil = false → (β n).blk = (β m).blk → n = m
 sep : ∀ n o, G n = some o → (β n).nil = false → tR μ (β n).blk o
def yY (G : Nat → Option bH) (β : Nat → Bk) (b : Nat) : Prop := ∃ n o, G n = some o ∧ (β n).nil = false ∧ (β n).blk = b
structure Left (k : Nat) (G : Nat → Option bH) (β : Nat → Bk) (μ : cL) (W : World) (G' : Nat → Option bH) (β' : Nat → Bk) (μ' : cL) (W' : World) : Prop where
 owns : Owns G' β' μ' W'
 imm : fQ μ' W'
 le : μ.le μ'
 fix : ∀ n, n < k → β' n = β n
 os : W'.os = W.os
 tape : W'.tape = W.tape
 output : W'.output = W.output
 size : W.heap.size ≤ W'.heap.size
 keep : ∀ b, b < W.heap.size → ¬ yY G β b → W'.heap[b]? = W.heap[b]?
 loc : ∀ n o, G' n = some o → (β' n).nil = false → W.heap.size ≤ (β' n).blk ∨ yY G β (β' n).blk
 newc : ∀ b j v, μ'.c b j = some v → μ.c b j = some v ∨ W.heap.size ≤ b ∨ yY G β b
 newm : ∀ b x, μ'.m b = some x → μ.m b = some x ∨ W.heap.size ≤ b ∨ yY G β b
def FnTo (E : oT) (F : FuncId) (k : Nat) (args : List AV) (G : Nat → Option bH) (Q : AV → (Nat → Option bH) → Prop) : Prop :=
 ∀ (β : Nat → Bk) (μ : cL) (W : World) (vs : List Value), fQ μ W → E.globOk μ → Owns G β μ W → rU μ β args vs →
  Calls E.P F vs.toArray W fun e W' => ∃ v r G' β' μ', e = .returned v ∧ Q r G' ∧ dL μ' β' r v ∧ Left k G β μ W G' β' μ' W'
def Za (E : oT) (F : FuncId) (args : List AV) (Q : AV → Prop) : Prop := FnTo E F 0 args (fun _ => none) fun r _ => ∃ r', r.pub = some r' ∧ Q r'
theorem Za.mono {E : oT} {F : FuncId} {args : List AV} {Q Q' : AV → Prop} (h : Za E F args Q) (hq : ∀ r, Q r → Q' r) : Za E F args Q' := by
 intro β μ W vs h1 h2 h3 h4
 refine (h β μ W vs h1 h2 h3 h4).mono ?_
 rintro e W' ⟨v, r, G', β', μ', he, ⟨r', hr', hQ⟩, h5⟩
 exact ⟨v, r, G', β', μ', he, ⟨r', hr', hq r' hQ⟩, h5⟩
def Iz (C : cD) (s : St) : ResultVar → Option AV
 | .tmp t => s.fr t
 | .cell t T => match s.fr t, C.E.ti T with
  | some (.c (.ptr n o)), some i => match s.H n with
   | some (.blk _ l) => cut i.k.agg i.size (l.drop o)
   | _ => none
  | _, _ => none
def Oe (C : cD) (s : St) : List ResultVar → Option (List AV)
 | [] => some []
 | x :: l => match Iz C s x, Oe C s l with
  | some y, some r => some (y :: r)
  | _, _ => none
def St.res (C : cD) (s : St) (l : List ResultVar) : Option AV :=
 match Oe C s l with
 | some [x] => some x
 | some l => if l.all (fun | .c _ => true | .agg _ => true | _ => false) then some (.tup l) else none
 | none => none
def Eb (tmps : Array Value) : ResultVar → Sem Value
 | .tmp t => pure (tmps.getD t undef)
 | .cell a t => do loadVar t (← asAddr (tmps.getD a undef))
theorem Jr (fn : Func) (tmps : Array Value) : results fn tmps = (do let vs ← fn.results.mapM (Eb tmps); pure (if h : vs.size = 1 then vs[0] else .tuple vs)) := by
 unfold results
 congr 1
theorem Tg {C : cD} {s : St} {U : Nat → Prop} {β : Nat → Bk} {μ : cL} {a : Act} {W : World} (h : pV C s U β μ a W) {x : ResultVar} {A : AV} (hx : Iz C s x = some A) :
  ∃ y, (Eb a.tmps x).run C.E.P W = .ok y W ∧ dL μ β A y := by
 cases x with
 | tmp t =>
  obtain ⟨v, hv, hd⟩ := h.f.den t A hx
  exact ⟨v, by simp [Eb, hv], hd⟩
 | cell t T =>
  simp only [Iz] at hx
  split at hx
  ·rename_i n o i ht hT
   split at hx
   ·rename_i T' l hH
    obtain ⟨v, hv, hd⟩ := h.f.den t _ ht
    have e1 := qV hd
    obtain ⟨y, hy, hyd⟩ := Br hT (W := W) (b := (β n).blk) (o := o) (μ := μ) (β := β) (l := l.drop o) (fun j x hj => by
     rw [List.getElem?_drop] at hj
     exact (Lx h.w hH hj).2) hx
    refine ⟨y, ?_, hyd⟩
    have : a.tmps.getD t undef = .pointer (some ⟨(β n).blk, o, none⟩) := by rw [← e1]; simp [hv]
    simp only [Eb, this, asAddr]
    exact hy
   ·cases hx
  ·cases hx
theorem Pb {C : cD} {s : St} {U : Nat → Prop} {β : Nat → Bk} {μ : cL} {a : Act} {W : World} (h : pV C s U β μ a W) : ∀ {l : List ResultVar} {r : List AV}, Oe C s l = some r →
  ∃ ys : List Value, (l.mapM (Eb a.tmps)).run C.E.P W = .ok ys W ∧ ys.length = r.length ∧ ∀ (j : Nat) (A : AV), r[j]? = some A → ∃ y, ys[j]? = some y ∧ dL μ β A y
 | [], r, hl => by
  simp only [Oe, Option.some.injEq] at hl
  subst hl
  exact ⟨[], by simp, rfl, fun j A hj => by simp at hj⟩
 | x :: l, r, hl => by
  simp only [Oe] at hl
  split at hl
  ·rename_i A r' hA hr'
   obtain rfl := Option.some.inj hl
   obtain ⟨y, hy, hyd⟩ := Tg h hA
   obtain ⟨ys, h1, h2, h3⟩ := Pb h hr'
   refine ⟨y :: ys, ?_, by simp [h2], fun j B hj => ?_⟩
   ·rw [List.mapM_cons, Sem.run_bind, hy, Result.andThen_ok, Sem.run_bind, h1]
    rfl
   ·cases j with
    | zero => simp at hj; subst hj; exact ⟨y, rfl, hyd⟩
    | succ j => exact h3 j B hj
  ·cases hl
theorem res_run {C : cD} {s : St} {U : Nat → Prop} {β : Nat → Bk} {μ : cL} {a : Act} {W : World} (h : pV C s U β μ a W) {fn : Func} {A : AV} (hA : s.res C fn.results.toList = some A) :
  ∃ v, (results fn a.tmps).run C.E.P W = .ok v W ∧ dL μ β A v := by
 unfold St.res at hA
 rw [Jr]
 cases hr : Oe C s fn.results.toList with
 | none => rw [hr] at hA; cases hA
 | some r =>
  obtain ⟨ys, h1, h2, h3⟩ := Pb h hr
  have hm : (fn.results.mapM (Eb a.tmps)).run C.E.P W = .ok ys.toArray W := by
   rw [← Array.toArray_toList (xs := fn.results), List.mapM_toArray]
   simp only [Sem.run_map, h1, Result.andThen_ok]
  rw [Sem.run_bind, hm, Result.andThen_ok]
  rw [hr] at hA
  by_cases hl : r.length = 1
  ·obtain ⟨x, rfl⟩ := List.length_eq_one_iff.1 hl
   simp only [Option.some.injEq] at hA
   subst hA
   obtain ⟨y, rfl⟩ := List.length_eq_one_iff.1 (h2.trans hl)
   obtain ⟨z, hz, hzd⟩ := h3 0 x rfl
   simp at hz
   subst hz
   exact ⟨y, by simp, hzd⟩
  ·have hA2 : (if r.all (fun | .c _ => true | .agg _ => true | _ => false) then some (AV.tup r) else none) = some A := by
    cases r with
    | nil => exact hA
    | cons x r =>
     cases r with
     | nil => simp at hl
     | cons y r => exact hA
   split at hA2
   ·rename_i hall
    obtain rfl := Option.some.inj hA2
    have hs : ¬ ys.toArray.size = 1 := by simp; omega
    refine ⟨.tuple ys.toArray, by rw [dif_neg hs]; rfl, ys.toArray, rfl, by simp [h2], fun j B hj => ?_⟩
    obtain ⟨y, hy, hyd⟩ := h3 j B hj
    refine ⟨y, by simpa using hy, ?_⟩
    have := List.all_eq_true.1 hall B (List.mem_of_getElem? hj)
    cases B with
    | tup l => cases this
    | cnd gs x => cases this
    | c x => exact hyd
    | agg l => exact hyd
   ·cases hA2
def Fin (C : cD) (rs : List ResultVar) (Q : AV → (Nat → Option bH) → Prop) : Exit → St → Prop := fun e s' => (e = .ret ∨ e = .normal) ∧ ∃ A, s'.res C rs = some A ∧ Q A s'.H
theorem WR.putObj {C : cD} {H : Nat → Option bH} {U : Nat → Prop} {β : Nat → Bk} {μ : cL} {W : World} (h : WR C H U β μ W) {l : Nat} (o : Obj) (h1 : C.W0.heap.size ≤ l) (ha : sU l H β μ W) : WR C H U β μ (W.putObj l o) := by
 refine ⟨fun b hb hF => ?_, by rw [World.putObj_size]; exact h.size, h.os, h.tape, h.output, fun n ob hn => ?_, h.inj, ⟨fun b j v hb => ?_, fun b es clk hb => ?_⟩, h.sep, h.loc, h.used, h.mu, h.newc, h.newm, h.glob, h.fix⟩
 ·rw [World.putObj_heap_other (by omega)]; exact h.keep b hb hF
 ·exact (h.own n ob hn).mono (cL.le_refl μ) (fun _ _ => rfl) fun h0 => World.putObj_heap_other (ha.own n ob hn h0)
 ·by_cases e : b = l
  ·subst e; rw [ha.c] at hb; cases hb
  ·rw [World.putObj_heap_other e]; exact h.imm.c b j v hb
 ·by_cases e : b = l
  ·subst e; rw [ha.m] at hb; cases hb
  ·rw [World.putObj_heap_other e]; exact h.imm.m b es clk hb
theorem sU.put {D : Nat} {H : Nat → Option bH} {β : Nat → Bk} {μ : cL} {W : World} (h : sU D H β μ W) (l : Nat) (o : Obj) : sU D H β μ (W.putObj l o) := ⟨h.own, h.c, h.m⟩
theorem Bj {C : cD} {fn : Func} {H : Nat → Option bH} {U : Nat → Prop} {β : Nat → Bk} {μ : cL} {tmps : Array Value} {R : Ending → World → Prop} : ∀ (ms : List Nat) (W : World), ms.Nodup → WR C H U β μ W → (∀ D, D ∈ ms → C.W0.heap.size ≤ D ∧ sU D H β μ W ∧ W.heap[D]? = some (.deferred (some []))) →
  (∀ W', WR C H U β μ W' → ∃ v, (results fn tmps).run C.E.P W' = .ok v W' ∧ R (.returned v) W') → LeavesInM Fence.wide 0 C.E.P fn tmps R (ms.map wD) .returning W
 | [], W, _, hw, _, h => h W hw
 | D :: ms, W, hn, hw, hm, h => by
  obtain ⟨h1, h2, h3⟩ := hm D (List.mem_cons_self ..)
  have hd := List.nodup_cons.1 hn
  refine ⟨by simp, .inl ⟨D, _, rfl, run_takeDeferred h3, Bj ms _ hd.2 (hw.putObj _ h1 h2) (fun E hE => ?_) h⟩⟩
  obtain ⟨a, b, c⟩ := hm E (List.mem_cons_of_mem _ hE)
  exact ⟨a, b.put _ _, (World.putObj_heap_other (by intro e; subst e; exact hd.1 hE)).trans c⟩
theorem Xk (C D : cD) (s : St) (x : ResultVar) : Iz (C.on D) s x = Iz C s x := by cases x <;> rfl
theorem Uv (C D : cD) (s : St) : ∀ l, Oe (C.on D) s l = Oe C s l
 | [] => rfl
 | x :: l => by simp only [Oe, Xk, Uv C D s l]
theorem res_on (C D : cD) (s : St) (l : List ResultVar) : s.res (C.on D) l = s.res C l := by simp only [St.res, Uv]
theorem fn_of {E : oT} {F : FuncId} {fn : Func} {c : Code} {k : Nat} {args : List AV} {G : Nat → Option bH} {Q : AV → (Nat → Option bH) → Prop} (hf : E.P.funcs[F]? = some fn) (hb : fn.body = some c) (hn : args.length ≤ fn.ntmps) (hm : ∀ A, A ∈ args → ∀ n, n ∈ A.ments → n < k) (hG : ∀ n o, G n = some o → n < k ∧ ∀ m, m ∈ o.ments → m < k)
  (h : AW (cD.st E fn.ntmps k none) c ⟨fun t => args[t]?, G, k⟩ (Fin (cD.st E fn.ntmps k none) fn.results.toList Q)) : FnTo E F k args G Q := by
 intro β μ W vs himm hglob hown ⟨hlen, hargs⟩
 rw [← callsIn_wide (n := 0)]
 refine callsIn_of_wp_marks hf hb trivial (wpIn_mono (h ⟨E, fn.ntmps, W, yY G β, μ, k, β, none, []⟩ β μ _ W ⟨⟨rfl, ?_, ?_, ?_⟩, ?_⟩) ?_)
 ·show (vs.toArray ++ Array.replicate _ undef).size = fn.ntmps
  simp only [Array.size_append, Array.size_replicate, List.size_toArray]
  omega
 ·intro t x ht
  obtain ⟨v, hv, hd⟩ := hargs t x ht
  exact ⟨v, by rw [Array.getElem?_append_left (by have := (List.getElem?_eq_some_iff.1 hv).1; simpa using this)]; simpa using hv, hd⟩
 ·intro t x ht n hn
  exact hm x (List.mem_of_getElem? ht) n hn
 ·exact ⟨fun b _ _ => rfl, Nat.le_refl _, rfl, rfl, rfl, hown.own, hown.inj, himm, hown.sep, fun n o hn h0 => .inr ⟨n, o, hn, h0, rfl⟩, hG, cL.le_refl μ, fun b j v hb => .inl hb, fun b x hb => .inl hb, hglob, fun n hn => ⟨hn, rfl⟩⟩
 ·rintro e a' W' ⟨D', s', β', μ', hle, ⟨he, A, hA, hQ⟩, hr⟩
  obtain ⟨ms, hds, hnd, hms⟩ := hle.ds
  have hd : a'.defers = ms.map wD := by rw [hr.f.defers]; exact hds.trans (List.append_nil _)
  have key : LeavesInM Fence.wide 0 E.P fn a'.tmps (fun e W' => ∃ v r G' β' μ', e = .returned v ∧ Q r G' ∧ dL μ' β' r v ∧ Left k G β μ W G' β' μ' W') (ms.map wD) .returning W' := by
   refine Bj (C := (cD.st E fn.ntmps k none).on ⟨E, fn.ntmps, W, yY G β, μ, k, β, none, []⟩) (H := s'.H) (U := (· < s'.lim)) (β := β') (μ := μ') ms W' hnd (hle.wr _ _ _ _ _ hr.w) (fun D hD => ?_) fun W2 hw => ?_
   ·obtain ⟨h1, h2, h3⟩ := hms D hD
    exact ⟨h1, h3 _ _ _ _ _ hr.w⟩
   ·obtain ⟨v, hv, hd⟩ := res_run (C := (cD.st E fn.ntmps k none).on ⟨E, fn.ntmps, W, yY G β, μ, k, β, none, a'.defers⟩) ⟨⟨rfl, hr.f.size, hr.f.den, hr.f.used⟩, ⟨hw.keep, hw.size, hw.os, hw.tape, hw.output, hw.own, hw.inj, hw.imm, hw.sep, hw.loc, hw.used, hw.mu, hw.newc, hw.newm, hw.glob, hw.fix⟩⟩ ((res_on _ _ _ _).trans hA)
    exact ⟨v, hv, v, A, s'.H, β', μ', rfl, hQ, hd, ⟨hw.own, hw.inj, hw.sep⟩, hw.imm, hw.mu, fun n hn => (hw.fix n hn).2, hw.os, hw.tape, hw.output, hw.size, hw.keep, hw.loc, hw.newc, hw.newm⟩
  rw [← hd] at key
  rcases he with rfl | rfl
  ·exact key
  ·exact key
structure bX (E : oT) (F : FuncId) : Prop where
 h : ∃ fn, E.P.funcs[F]? = some fn ∧ (fn.name == "runtime.NumGoroutine") = false ∧ fn.body.isNone = false
theorem Io {E : oT} {F : FuncId} (hF : bX E F) (args : Array Value) (W : World) : (callFunc F args).run E.P W = .ok (.enter F args) W := by
 obtain ⟨fn, h1, h2, h3⟩ := hF.h
 have hp : (program).run E.P W = .ok E.P W := rfl
 unfold callFunc
 rw [Sem.run_bind, hp, Result.andThen_ok, h1]
 simp only [h2, h3, Bool.false_eq_true, if_false]
 rfl
theorem Ah {E : oT} {a : Act} {o : Oper} {F : FuncId} {args : Array Operand} {ts : Array TypeId} {W : World} (hF : bX E F) (ho : o.op = .call ⟨.value (.func F), args, ts⟩) :
  (execOp a.eval o).run E.P W = .ok (.enter F (args.map a.eval)) W := by
 simp only [execOp, ho, resolve, Act.eval, Deferred.ofValue]
 show ((invoke (.fn (.func F) #[]) (#[] ++ args.map a.eval))).run E.P W = _
 simp only [invoke, Array.append_empty, Array.empty_append]
 exact Io hF _ W
def Up (C : cD) (s : St) : List Operand → Option (List AV)
 | [] => some []
 | x :: l => match s.ev C x, Up C s l with
  | some y, some r => some (y :: r)
  | _, _ => none
theorem Bu {C : cD} {s : St} : ∀ {l : List Operand} {r : List AV}, Up C s l = some r → r.length = l.length ∧ ∀ (j : Nat) (A : AV), r[j]? = some A → ∃ x, l[j]? = some x ∧ s.ev C x = some A
 | [], r, h => by simp only [Up, Option.some.injEq] at h; subst h; simp
 | x :: l, r, h => by
  simp only [Up] at h
  split at h
  ·rename_i y r' hy hr
   obtain rfl := Option.some.inj h
   obtain ⟨h1, h2⟩ := Bu hr
   refine ⟨by simp [h1], fun j z hj => ?_⟩
   cases j with
   | zero => simp at hj; subst hj; exact ⟨x, rfl, hy⟩
   | succ j => exact h2 j z hj
  ·cases h
end Go.Bm
namespace Go.Bm
open Go
structure Back (k : Nat) (σ : Nat → Nat) (nw : Option Nat) (nm : Nat) (Gf : List (Nat × bH)) (H H' : Nat → Option bH) : Prop where
 par : ∀ n, n < k → H' (σ n) = (Gf.lookup n).map (bH.ren σ)
 new : ∀ k', nw = some k' → H' nm = (Gf.lookup k').map (bH.ren σ)
 oth : ∀ j, (∀ n, n < k → σ n ≠ j) → (∀ k', nw = some k' → j ≠ nm) → H' j = H j
theorem Zu {μ μ' : cL} {b : Nat} {o : bH} (hc : ∀ j v, μ'.c b j = some v → μ.c b j = some v) (hm : ∀ x, μ'.m b = some x → μ.m b = some x) (h : tR μ b o) : tR μ' b o := by
 have hc' : ∀ j, μ.c b j = none → μ'.c b j = none := fun j hj => by
  cases hq : μ'.c b j with
  | none => rfl
  | some v => rw [hc j v hq] at hj; cases hj
 have hm' : μ.m b = none → μ'.m b = none := fun hj => by
  cases hq : μ'.m b with
  | none => rfl
  | some v => rw [hm v hq] at hj; cases hj
 cases o with
 | tok T sz e => exact ⟨hm' h.1, fun j hj => hc' j (h.2 j hj)⟩
 | blk T l => exact ⟨hm' h.1, fun j => hc' j (h.2 j)⟩
 | vec T sz l => exact ⟨hm' h.1, fun j => hc' j (h.2 j)⟩
 | map ag l => exact ⟨hm' h.1, fun j => hc' j (h.2 j)⟩
def Bz (nw : Option Nat) (nm : Nat) : List Nat := match nw with | some _ => [nm] | none => []
def wF (β : Nat → Bk) (βc : Nat → Bk) (nw : Option Nat) (nm : Nat) : Nat → Bk := match nw with | some k' => wT β nm (βc k') | none => β
theorem WR.call {C : cD} {H H' : Nat → Option bH} {U : Nat → Prop} {β : Nat → Bk} {μ μ' : cL} {W W' : World} (h : WR C H U β μ W) {k : Nat} {σ : Nat → Nat} {Gc G'c : Nat → Option bH} {β'c : Nat → Bk} (hl : Left k Gc (fun n => β (σ n)) μ W G'c β'c μ' W')
  (hG : ∀ n o, Gc n = some o → H (σ n) = some (o.ren σ)) (hk : ∀ n, n < k ↔ ∃ o, Gc n = some o) (hσ : ∀ n m, n < k → m < k → σ n = σ m → n = m)
  {Gf : List (Nat × bH)} {nw : Option Nat} {nm : Nat} (hGf : ∀ n o, Gf.lookup n = some o → G'c n = some o ∧ ∀ m, m ∈ o.ments → m < k ∨ nw = some m) (hnw : ∀ k', nw = some k' → k ≤ k' ∧ σ k' = nm ∧ ¬ U nm) (hb : Back k σ nw nm Gf H H') :
  WR C H' (fun j => U j ∨ j ∈ Bz nw nm) (wF β β'c nw nm) μ' W' := by
 have hU : ∀ n, n < k → U (σ n) := fun n hn => by
  obtain ⟨o, ho⟩ := (hk n).1 hn
  exact (h.used _ _ (hG n o ho)).1
 have hbo : ∀ j, U j → wF β β'c nw nm j = β j := fun j hj => by
  unfold wF
  split
  ·rename_i k'
   exact eW (fun e => (hnw k' rfl).2.2 (e ▸ hj))
  ·rfl
 have hbp : ∀ n, n < k → wF β β'c nw nm (σ n) = β'c n := fun n hn => (hbo _ (hU n hn)).trans (hl.fix n hn).symm
 have hbn : ∀ k', nw = some k' → wF β β'c nw nm (σ k') = β'c k' := fun k' he => by
  subst he
  rw [(hnw k' rfl).2.1]
  exact eG ..
 have hbm : ∀ m, m < k ∨ nw = some m → wF β β'c nw nm (σ m) = β'c m := fun m hm => hm.elim (hbp m) (hbn m)
 have hlent : ∀ j o, H j = some o → (∀ n, n < k → σ n ≠ j) → (β j).nil = false → ¬ yY Gc (fun n => β (σ n)) (β j).blk := fun j o hj hne h0 ⟨n, p, hn, hn0, he⟩ =>
  hne n ((hk n).2 ⟨p, hn⟩) (h.inj _ _ _ _ (hG n p hn) hj hn0 h0 he)
 have hlentW : ∀ b, yY Gc (fun n => β (σ n)) b → C.W0.heap.size ≤ b ∨ C.F b := fun b ⟨n, p, hn, hn0, he⟩ => by
  have he' : (β (σ n)).blk = b := he
  rw [← he']
  exact h.loc _ _ (hG n p hn) hn0
 have hcls : ∀ j o, H' j = some o → (∃ n p, j = σ n ∧ o = p.ren σ ∧ G'c n = some p ∧ wF β β'c nw nm j = β'c n ∧ (∀ m, m ∈ p.ments → m < k ∨ nw = some m) ∧ (n < k ∨ nw = some n)) ∨ (H j = some o ∧ (∀ n, n < k → σ n ≠ j) ∧ wF β β'c nw nm j = β j) := by
  intro j o hj
  by_cases h1 : ∃ n, n < k ∧ σ n = j
  ·obtain ⟨n, hn, rfl⟩ := h1
   rw [hb.par n hn] at hj
   simp only [Option.map_eq_some_iff] at hj
   obtain ⟨p, hp, rfl⟩ := hj
   obtain ⟨g1, g2⟩ := hGf n p hp
   exact .inl ⟨n, p, rfl, rfl, g1, hbp n hn, g2, .inl hn⟩
  ·by_cases h2 : ∃ k', nw = some k' ∧ j = nm
   ·obtain ⟨k', hk', rfl⟩ := h2
    rw [hb.new k' hk'] at hj
    simp only [Option.map_eq_some_iff] at hj
    obtain ⟨p, hp, rfl⟩ := hj
    obtain ⟨g1, g2⟩ := hGf k' p hp
    have hs := (hnw k' hk').2.1
    exact .inl ⟨k', p, hs.symm, rfl, g1, by have := hbn k' hk'; rw [hs] at this; exact this, g2, .inr hk'⟩
   ·have h1' : ∀ n, n < k → σ n ≠ j := fun n hn e => h1 ⟨n, hn, e⟩
    have h2' : ∀ k', nw = some k' → j ≠ nm := fun k' hk' e => h2 ⟨k', hk', e⟩
    rw [hb.oth j h1' h2'] at hj
    exact .inr ⟨hj, h1', hbo j (h.used j o hj).1⟩
 have hcross : ∀ n p j o, G'c n = some p → H j = some o → (∀ n, n < k → σ n ≠ j) → (β'c n).nil = false → (β j).nil = false → (β'c n).blk ≠ (β j).blk := fun n p j o hn hj hne h0 h0' he => by
  rcases hl.loc n p hn h0 with h1 | h1
  ·have := vH h hj h0'; omega
  ·rw [he] at h1; exact hlent j o hj hne h0' h1
 refine ⟨fun b hbW hF => ?_, Nat.le_trans h.size hl.size, hl.os.trans h.os, hl.tape.trans h.tape, hl.output.trans h.output, fun j o hj => ?_, fun j j' o p hj hj' h0 h0' he => ?_, hl.imm, fun j o hj h0 => ?_, fun j o hj h0 => ?_, fun j o hj => ?_, cL.le_trans h.mu hl.le, fun b j v hv => ?_, fun b x hx => ?_, fun g l hg => (h.glob g l hg).mono hl.le, fun n hn => ⟨.inl (h.fix n hn).1, (hbo n (h.fix n hn).1).trans (h.fix n hn).2⟩⟩
 ·refine (hl.keep b (Nat.lt_of_lt_of_le hbW h.size) fun hle => ?_).trans (h.keep b hbW hF)
  rcases hlentW b hle with h1 | h1
  ·omega
  ·exact hF h1
 ·rcases hcls j o hj with ⟨n, p, rfl, rfl, hn, hβ, hm, _⟩ | ⟨hj', hne, hβ⟩
  ·rw [hβ]
   refine Fy.2 ((hl.owns.own n p hn).mono (cL.le_refl _) (fun m hm' => hbm m (hm m hm')) (fun _ => rfl))
  ·rw [hβ]
   exact (h.own j o hj').mono hl.le (fun m hm => hbo m ((h.used j o hj').2 m hm)) (fun h0 => hl.keep _ (vH h hj' h0) (hlent j o hj' hne h0))
 ·rcases hcls j o hj with ⟨n, q, rfl, rfl, hn, hβ, hm, _⟩ | ⟨hj1, hne, hβ⟩
  ·rw [hβ] at h0 he
   rcases hcls j' p hj' with ⟨n', q', rfl, rfl, hn', hβ', hm', _⟩ | ⟨hj2, hne', hβ'⟩
   ·rw [hβ'] at h0' he
    rw [hl.owns.inj n n' q q' hn hn' h0 h0' he]
   ·rw [hβ'] at h0' he
    exact absurd he (hcross n q j' p hn hj2 hne' h0 h0')
  ·rw [hβ] at h0 he
   rcases hcls j' p hj' with ⟨n', q', rfl, rfl, hn', hβ', hm', _⟩ | ⟨hj2, hne', hβ'⟩
   ·rw [hβ'] at h0' he
    exact absurd he.symm (hcross n' q' j o hn' hj1 hne h0' h0)
   ·rw [hβ'] at h0' he
    exact h.inj j j' o p hj1 hj2 h0 h0' he
 ·rcases hcls j o hj with ⟨n, p, rfl, rfl, hn, hβ, hm, _⟩ | ⟨hj', hne, hβ⟩
  ·rw [hβ] at h0 ⊢
   exact Bh.2 (hl.owns.sep n p hn h0)
  ·rw [hβ] at h0 ⊢
   have hlt := vH h hj' h0
   refine Zu (fun i v hv => ?_) (fun x hx => ?_) (h.sep j o hj' h0)
   ·rcases hl.newc _ i v hv with h1 | h1 | h1
    ·exact h1
    ·omega
    ·exact absurd h1 (hlent j o hj' hne h0)
   ·rcases hl.newm _ x hx with h1 | h1 | h1
    ·exact h1
    ·omega
    ·exact absurd h1 (hlent j o hj' hne h0)
 ·rcases hcls j o hj with ⟨n, p, rfl, rfl, hn, hβ, hm, _⟩ | ⟨hj', hne, hβ⟩
  ·rw [hβ] at h0 ⊢
   rcases hl.loc n p hn h0 with h1 | h1
   ·exact .inl (Nat.le_trans h.size h1)
   ·exact hlentW _ h1
  ·rw [hβ] at h0 ⊢
   exact h.loc j o hj' h0
 ·have hin : ∀ m, m < k ∨ nw = some m → (U (σ m) ∨ σ m ∈ Bz nw nm) := fun m hm => by
   rcases hm with hm | hm
   ·exact .inl (hU m hm)
   ·subst hm; exact .inr (by simp [Bz, (hnw m rfl).2.1])
  rcases hcls j o hj with ⟨n, p, rfl, rfl, hn, hβ, hm, hn'⟩ | ⟨hj', hne, hβ⟩
  ·refine ⟨hin n hn', fun x hx => ?_⟩
   rw [Hb] at hx
   obtain ⟨m, hm', rfl⟩ := List.mem_map.1 hx
   exact hin m (hm m hm')
  ·exact ⟨.inl (h.used j o hj').1, fun x hx => .inl ((h.used j o hj').2 x hx)⟩
 ·rcases hl.newc b j v hv with h1 | h1 | h1
  ·exact h.newc b j v h1
  ·exact .inr (.inl (Nat.le_trans h.size h1))
  ·exact .inr (hlentW b h1)
 ·rcases hl.newm b x hx with h1 | h1 | h1
  ·exact h.newm b x h1
  ·exact .inr (.inl (Nat.le_trans h.size h1))
  ·exact .inr (hlentW b h1)
def xM (σ : Nat → Nat) : List AV → List AV → Prop
 | [], [] => True
 | A :: As, B :: Bs => ((A.pub = some B) ∨ (A = B.ren σ ∧ B.plain = true)) ∧ xM σ As Bs
 | _, _ => False
theorem uY {σ : Nat → Nat} : ∀ {As Bs : List AV}, xM σ As Bs → As.length = Bs.length ∧ ∀ (j : Nat) (B : AV), Bs[j]? = some B → ∃ A, As[j]? = some A ∧ (A.pub = some B ∨ (A = B.ren σ ∧ B.plain = true))
 | [], [], _ => ⟨rfl, fun j B h => by simp at h⟩
 | A :: As, B :: Bs, ⟨h1, h2⟩ => by
  obtain ⟨h3, h4⟩ := uY h2
  refine ⟨by simp [h3], fun j C hj => ?_⟩
  cases j with
  | zero => simp at hj; subst hj; exact ⟨A, rfl, h1⟩
  | succ j => exact h4 j C hj
 | [], _ :: _, h => h.elim
 | _ :: _, [], h => h.elim
def dC (E : oT) (F : FuncId) (k : Nat) (args : List AV) (G : List (Nat × bH)) (r : AV) (Gf : List (Nat × bH)) : Prop :=
 FnTo E F k args (fun n => G.lookup n) fun r' G' => (r' = r ∨ r'.pub = some r) ∧ ∀ n o, Gf.lookup n = some o → G' n = some o
def eA (σ : List (Nat × Nat)) (n : Nat) : Nat := match σ.lookup n with | some m => m | none => n
def lS (σ : Nat → Nat) (G Gf : List (Nat × bH)) (nw : Option Nat) : List (Nat × Option bH) :=
 G.map (fun p => (σ p.1, (Gf.lookup p.1).map (bH.ren σ))) ++ (match nw with | some k' => [(σ k', (Gf.lookup k').map (bH.ren σ))] | none => [])
structure Ef (k : Nat) (σ : Nat → Nat) (nw : Option Nat) (nm : Nat) (G Gf : List (Nat × bH)) (H : Nat → Option bH) : Prop where
 own : ∀ p, p ∈ G → H (σ p.1) = some (p.2.ren σ)
 dom : ∀ n, n < k ↔ ∃ o, G.lookup n = some o
 inj : ∀ n m, n < k → m < k → σ n = σ m → n = m
 gf : ∀ p, p ∈ Gf → ∀ m, m ∈ p.2.ments → m < k ∨ nw = some m
 new : ∀ k', nw = some k' → k ≤ k' ∧ σ k' = nm
 ne : ∀ k', nw = some k' → ∀ n, n < k → σ n ≠ nm
theorem gI {α : Type} {t : Nat} {x : α} : ∀ {L : List (Nat × α)}, L.lookup t = some x → (t, x) ∈ L
 | [], h => by simp at h
 | p :: L, h => by
  rw [List.lookup_cons] at h
  split at h
  ·rename_i he
   obtain rfl := Option.some.inj h
   have : t = p.1 := by simpa using he
   rw [this]
   exact List.mem_cons_self ..
  ·exact List.mem_cons_of_mem _ (gI h)
theorem Ir {k : Nat} {σ : Nat → Nat} {nw : Option Nat} {nm : Nat} {G Gf : List (Nat × bH)} {H : Nat → Option bH} (h : Ef k σ nw nm G Gf H) : Back k σ nw nm Gf H (fun n => match (lS σ G Gf nw).lookup n with | some o => o | none => H n) := by
 have hkey : ∀ p, p ∈ G → p.1 < k := fun p hp => by
  refine (h.dom p.1).2 ?_
  cases hq : G.lookup p.1 with
  | some o => exact ⟨o, rfl⟩
  | none =>
   exfalso
   have : ∀ (L : List (Nat × bH)), p ∈ L → L.lookup p.1 ≠ none := by
    intro L
    induction L with
    | nil => intro hp; cases hp
    | cons q L ih =>
     intro hp
     rw [List.lookup_cons]
     split
     ·simp
     ·rcases List.mem_cons.1 hp with rfl | hp
      ·rename_i hne; simp at hne
      ·exact ih hp
   exact this G hp hq
 have hmap : ∀ (L : List (Nat × bH)) (n : Nat), (∀ p, p ∈ L → p.1 < k) → n < k → (∃ o, L.lookup n = some o) → ∀ R, ((L.map (fun p => (σ p.1, (Gf.lookup p.1).map (bH.ren σ)))) ++ R).lookup (σ n) = some ((Gf.lookup n).map (bH.ren σ)) := by
  intro L n hL hn
  induction L with
  | nil => rintro ⟨o, ho⟩ R; simp at ho
  | cons q L ih =>
   rintro ⟨o, ho⟩ R
   rw [List.map_cons, List.cons_append, List.lookup_cons]
   by_cases e : σ n = σ q.1
   ·have : n = q.1 := h.inj n q.1 hn (hL q (List.mem_cons_self ..)) e
    subst this
    simp
   ·have e1 : (σ n == σ q.1) = false := by simpa using e
    have e2 : (n == q.1) = false := by
     rw [beq_eq_false_iff_ne]; intro e2; exact e (by rw [e2])
    rw [e1]
    rw [List.lookup_cons, e2] at ho
    exact ih (fun p hp => hL p (List.mem_cons_of_mem _ hp)) ⟨o, ho⟩ R
 have hno : ∀ (L : List (Nat × bH)) (j : Nat), (∀ p, p ∈ L → σ p.1 ≠ j) → ∀ R, ((L.map (fun p => (σ p.1, (Gf.lookup p.1).map (bH.ren σ)))) ++ R).lookup j = R.lookup j := by
  intro L j hL R
  induction L with
  | nil => rfl
  | cons q L ih =>
   rw [List.map_cons, List.cons_append, List.lookup_cons]
   have : (j == σ q.1) = false := by
    rw [beq_eq_false_iff_ne]; exact (hL q (List.mem_cons_self ..)).symm
   rw [this]
   exact ih fun p hp => hL p (List.mem_cons_of_mem _ hp)
 refine ⟨fun n hn => ?_, fun k' hk' => ?_, fun j h1 h2 => ?_⟩
 ·unfold lS
  simp only [hmap G n hkey hn ((h.dom n).1 hn)]
 ·subst hk'
  obtain ⟨h1, h2⟩ := h.new k' rfl
  unfold lS
  rw [hno G nm (fun p hp => h.ne k' rfl p.1 (hkey p hp))]
  simp [List.lookup, h2]
 ·unfold lS
  rw [hno G j (fun p hp => h1 p.1 (hkey p hp))]
  cases nw with
  | none => rfl
  | some k' =>
   have := h2 k' rfl
   have e : (j == σ k') = false := by rw [beq_eq_false_iff_ne, (h.new k' rfl).2]; exact this
   simp only [List.lookup_cons, e, List.lookup_nil]
def ResOk (k : Nat) (σ : Nat → Nat) (nw : Option Nat) (r v : AV) : Prop := r.pub = some v ∨ (v = r.ren σ ∧ r.plain = true ∧ ∀ m, m ∈ r.ments → m < k ∨ nw = some m)
theorem Hn {C : cD} {ops : Array Oper} {i : Nat} {o : Oper} {s : St} (hi : ops[i]? = some o) (hw : gN ops o s.fr = some true) (hd : ∀ d, o.dst = some d → d < C.n) {F : FuncId} {args : List Operand} {ts : Array TypeId} (ho : o.op = .call ⟨.value (.func F), args.toArray, ts⟩) (hF : bX C.E F)
  {As Bs : List AV} (hA : Up C s args = some As) {σ : Nat → Nat} (hB : xM σ As Bs) {k : Nat} {G Gf : List (Nat × bH)} {r v : AV} (hc : dC C.E F k Bs G r Gf) {nw : Option Nat} {nm : Nat} (hok : Ef k σ nw nm G Gf s.H) (hr : ResOk k σ nw r v) :
  wW C ops i o s (some v) (lS σ G Gf nw) (G.map fun p => σ p.1) (Bz nw nm) := by
 intro s' U β μ a W hag hnew _ hrel Q K hK
 unfold wpOp
 simp only [hi]
 rw [if_pos (vJ hw hag hrel)]
 left
 unfold Oper.wp
 rw [Ah hF ho, Oper.upon_enter]
 obtain ⟨ea, eb⟩ := Bu hA
 obtain ⟨g1, g2⟩ := uY hB
 have hH : ∀ n p, G.lookup n = some p → s'.H (σ n) = some (p.ren σ) := fun n p hn => by
  have hm := gI hn
  rw [hag.2 (σ n) (List.mem_map.2 ⟨_, hm, rfl⟩)]
  exact hok.own _ hm
 have hargs : (args.toArray.map a.eval) = (args.map a.eval).toArray := by simp
 rw [hargs]
 have hden : rU μ (fun n => β (σ n)) Bs (args.map a.eval) := by
  refine ⟨by rw [List.length_map, ← g1, ea], fun j B hj => ?_⟩
  obtain ⟨A, hA', hAB⟩ := g2 j B hj
  obtain ⟨x, hx, hxA⟩ := eb j A hA'
  have hd : dL μ β A (a.eval x) := St.ev_den hrel ((St.ev_agree (C := C) hag (by rw [ho]; simp only [Op.operands, Call.operands]; simp [List.mem_of_getElem? hx])).trans hxA)
  refine ⟨a.eval x, by simp [hx], ?_⟩
  rcases hAB with h1 | ⟨h1, h2⟩
  ·exact (jJ h1 hd).den
  ·subst h1; exact (uD h2).1 hd
 have howns : Owns (fun n => G.lookup n) (fun n => β (σ n)) μ W := by
  refine ⟨fun n p hn => Fy.1 (hrel.w.own _ _ (hH n p hn)), fun n m p q hn hm h0 h0' he => ?_, fun n p hn h0 => Bh.1 (hrel.w.sep _ _ (hH n p hn) h0)⟩
  exact hok.inj n m ((hok.dom n).2 ⟨p, hn⟩) ((hok.dom m).2 ⟨q, hm⟩) (hrel.w.inj _ _ _ _ (hH n p hn) (hH m q hm) h0 h0' he)
 refine (hc (fun n => β (σ n)) μ W _ hrel.w.imm hrel.w.glob howns hden).mono ?_
 rintro e W' ⟨y, r', G', β'c, μ', rfl, ⟨hrr, hGf⟩, hy0, hleft⟩
 have hy : dL μ' β'c r y := by
  rcases hrr with rfl | hrr
  ·exact hy0
  ·exact (jJ hrr hy0).den
 have hback : Back k σ nw nm Gf s'.H (s'.app o.dst (some v) (lS σ G Gf nw)).H := Ir ⟨fun p hp => by
  rw [hag.2 (σ p.1) (List.mem_map.2 ⟨_, hp, rfl⟩)]
  exact hok.own p hp, hok.dom, hok.inj, hok.gf, hok.new, hok.ne⟩
 have hwr := hrel.w.call hleft (fun n p hn => hH n p hn) hok.dom hok.inj (Gf := Gf) (nw := nw) (nm := nm) (fun n p hn => ⟨hGf n p hn, hok.gf _ (gI hn)⟩) (fun k' hk' => ⟨(hok.new k' hk').1, (hok.new k' hk').2, hnew nm (by subst hk'; simp [Bz])⟩) hback
 have hbo : ∀ j, U j → wF β β'c nw nm j = β j := fun j hj => by
  unfold wF
  split
  ·rename_i k'
   exact eW (fun e => hnew nm (by simp [Bz]) (e ▸ hj))
  ·rfl
 refine hK (wF β β'c nw nm) μ' _ W' ⟨?_, hwr⟩
 refine FR.put ((hrel.f.mono hbo hleft.le).weaken fun n hn => .inl hn) hd fun x hx => ?_
 obtain rfl := Option.some.inj hx
 rcases hr with h1 | h1
 ·have := jJ h1 hy
  exact ⟨this.den, by rw [Gw this]; simp⟩
 ·obtain ⟨h1, h2, hm⟩ := h1
  subst h1
  have hbm : ∀ m, m ∈ r.ments → wF β β'c nw nm (σ m) = β'c m := fun m hm' => by
   rcases hm m hm' with h3 | h3
   ·obtain ⟨o', ho'⟩ := (hok.dom m).1 h3
    exact (hbo _ (hrel.w.used _ _ (hH m o' ho')).1).trans (hleft.fix m h3).symm
   ·subst h3
    show wT β nm (β'c m) (σ m) = β'c m
    rw [(hok.new m rfl).2]; exact eG ..
  refine ⟨(uD h2).2 (hy.mono (cL.le_refl _) fun m hm' => hbm m hm'), fun n hn => ?_⟩
  rw [Hq h2] at hn
  obtain ⟨m, hm', rfl⟩ := List.mem_map.1 hn
  rcases hm m hm' with h3 | h3
  ·obtain ⟨o', ho'⟩ := (hok.dom m).1 h3
   exact .inl (hrel.w.used _ _ (hH m o' ho')).1
  ·subst h3; exact .inr (by simp [Bz, (hok.new m rfl).2])
end Go.Bm
namespace Go.Bm
open Go
def nO {α : Type} (d : Nat) (x : α) : List (Nat × α) → List (Nat × α)
 | [] => [(d, x)]
 | p :: L => if d = p.1 then (d, x) :: L else p :: nO d x L
def Ff {α : Type} (d : Nat) : List (Nat × α) → List (Nat × α)
 | [] => []
 | p :: L => if d = p.1 then Ff d L else p :: Ff d L
theorem sQ {α : Type} (d t : Nat) (x : α) : ∀ L : List (Nat × α), (nO d x L).lookup t = if t = d then some x else L.lookup t
 | [] => by
  by_cases e : t = d
  ·subst e; simp [nO, List.lookup]
  ·have : (t == d) = false := by simpa using e
   simp [nO, List.lookup, this, e]
 | p :: L => by
  simp only [nO]
  by_cases h : d = p.1
  ·rw [if_pos h]
   by_cases e : t = d
   ·subst e; simp [List.lookup]
   ·have h1 : (t == d) = false := by simpa using e
    have h2 : (t == p.1) = false := by rw [← h]; exact h1
    rw [List.lookup_cons, h1, if_neg e, List.lookup_cons, h2]
  ·rw [if_neg h, List.lookup_cons, sQ d t x L, List.lookup_cons]
   by_cases e : t = p.1
   ·have h1 : (t == p.1) = true := by simpa using e
    have hne : ¬ t = d := fun e2 => h (e2.symm.trans e)
    simp only [h1, if_neg hne]
   ·have h1 : (t == p.1) = false := by simpa using e
    rw [h1]
theorem sN {α : Type} (d t : Nat) : ∀ L : List (Nat × α), (Ff d L).lookup t = if t = d then none else L.lookup t
 | [] => by simp [Ff]
 | p :: L => by
  simp only [Ff]
  by_cases h : d = p.1
  ·rw [if_pos h, sN d t L]
   by_cases e : t = d
   ·rw [if_pos e, if_pos e]
   ·have h2 : (t == p.1) = false := by rw [← h]; simpa using e
    rw [if_neg e, if_neg e, List.lookup_cons, h2]
  ·rw [if_neg h, List.lookup_cons, sN d t L, List.lookup_cons]
   by_cases e : t = p.1
   ·have h1 : (t == p.1) = true := by simpa using e
    have hne : ¬ t = d := fun e2 => h (e2.symm.trans e)
    simp only [h1, if_neg hne]
   ·have h1 : (t == p.1) = false := by simpa using e
    rw [h1]
def uE : List (Nat × Option bH) → List (Nat × bH) → List (Nat × bH)
 | [], G => G
 | (n, some o) :: r, G => nO n o (uE r G)
 | (n, none) :: r, G => Ff n (uE r G)
theorem wZ (n : Nat) (G : List (Nat × bH)) : ∀ wr : List (Nat × Option bH), (uE wr G).lookup n = match wr.lookup n with | some o => o | none => G.lookup n
 | [] => rfl
 | (m, some o) :: r => by
  simp only [uE, sQ, List.lookup_cons]
  by_cases e : n = m
  ·subst e; simp
  ·have : (n == m) = false := by simpa using e
   rw [if_neg e, this, wZ n G r]
 | (m, none) :: r => by
  simp only [uE, sN, List.lookup_cons]
  by_cases e : n = m
  ·subst e; simp
  ·have : (n == m) = false := by simpa using e
   rw [if_neg e, this, wZ n G r]
def mk (L : List (Nat × AV)) (G : List (Nat × bH)) (lim : Nat) : St := ⟨fun t => L.lookup t, fun n => G.lookup n, lim⟩
def lG (dst : Option Nat) (v : Option AV) (L : List (Nat × AV)) : List (Nat × AV) :=
 match dst, v with
 | some d, some x => nO d x L
 | some d, none => Ff d L
 | none, _ => L
theorem iA (L : List (Nat × AV)) (G : List (Nat × bH)) (lim : Nat) (dst : Option Nat) (v : Option AV) (wr : List (Nat × Option bH)) : (mk L G lim).app dst v wr = mk (lG dst v L) (uE wr G) lim := by
 unfold mk St.app
 congr 1
 ·cases dst with
  | none => rfl
  | some d =>
   cases v with
   | none => funext t; simp only [lG, sN]
   | some x => funext t; simp only [lG, sQ]
 ·funext n
  rw [wZ]
  rfl
def mF {α : Type} (ks : List Nat) : List (Nat × α) → List (Nat × α)
 | [] => []
 | p :: L => if ks.contains p.1 then p :: mF ks L else mF ks L
theorem yM {α : Type} {ks : List Nat} {t : Nat} : ∀ {L : List (Nat × α)}, (mF ks L).lookup t = if ks.contains t then L.lookup t else none
 | [] => by simp [mF]
 | p :: L => by
  simp only [mF]
  by_cases hc : ks.contains p.1 = true
  ·rw [if_pos hc, List.lookup_cons, List.lookup_cons, yM]
   by_cases e : t = p.1
   ·subst e; simp only [beq_self_eq_true]; rw [if_pos hc]
   ·have : (t == p.1) = false := by simpa using e
    rw [this]
  ·rw [if_neg hc, yM, List.lookup_cons]
   by_cases e : t = p.1
   ·subst e; rw [if_neg hc, if_neg hc]
   ·have : (t == p.1) = false := by simpa using e
    rw [this]
theorem pV.forget {C : cD} {s s' : St} {U : Nat → Prop} {β : Nat → Bk} {μ : cL} {a : Act} {W : World} (h : pV C s U β μ a W) (h1 : ∀ t x, s'.fr t = some x → s.fr t = some x) (h2 : ∀ n o, s'.H n = some o → s.H n = some o) : pV C s' U β μ a W :=
 ⟨⟨h.f.defers, h.f.size, fun t x ht => h.f.den t x (h1 t x ht), fun t x ht => h.f.used t x (h1 t x ht)⟩,
  ⟨h.w.keep, h.w.size, h.w.os, h.w.tape, h.w.output, fun n o hn => h.w.own n o (h2 n o hn), fun n m o p hn hm => h.w.inj n m o p (h2 n o hn) (h2 m p hm), h.w.imm, fun n o hn => h.w.sep n o (h2 n o hn), fun n o hn => h.w.loc n o (h2 n o hn), fun n o hn => h.w.used n o (h2 n o hn), h.w.mu, h.w.newc, h.w.newm, h.w.glob, h.w.fix⟩⟩
def Yc (ops : Array Oper) (i : Nat) (l : List Oper) : Prop := ∀ j, l[j]? = ops[i + j]?
theorem Yc.tail {ops : Array Oper} {i : Nat} {o : Oper} {l : List Oper} (h : Yc ops i (o :: l)) : Yc ops (i + 1) l := fun j => by have := h (j + 1); simpa [Nat.add_assoc, Nat.add_comm 1 j] using this
theorem Yc.head {ops : Array Oper} {i : Nat} {o : Oper} {l : List Oper} (h : Yc ops i (o :: l)) : ops[i]? = some o := by simpa using (h 0).symm
def RX (C : cD) (ops : Array Oper) (dr : Bool) (T : List (List Nat)) (b i : Nat) (l : List Oper) (done : List (Nat × Fx)) (s : St) (K : St → Prop) : Prop :=
 Yc ops i l → if dr = true then RWd C ops T b i l done s K else RWs C ops b i l s K
def Ku (dr : Bool) (T : List (List Nat)) (b i : Nat) (new : List Nat) (n : Nat) : Bool :=
 if dr then decide (n < b) || new.contains n || (decide (b ≤ n) && (T.getD i []).contains (n - b)) else decide (n < b + i) || new.contains n
def iO (dr : Bool) (T : List (List Nat)) (b i : Nat) (done : List (Nat × Fx)) (v : Option AV) (wr : List (Nat × Option bH)) (foot new : List Nat) : Bool :=
 (match v with | some x => x.ments.all (Ku dr T b i new) | none => true) && wr.all (fun p => match p.2 with | some ob => ob.ments.all (Ku dr T b i new) | none => true) &&
 (new.all fun n => n == b + i) && (!dr || done.all fun p => (T.getD i []).contains p.1 || p.2.apart ⟨foot, wr.map (·.1)⟩)
def fM (dr : Bool) (done : List (Nat × Fx)) (i : Nat) (foot : List Nat) (wr : List (Nat × Option bH)) : List (Nat × Fx) := if dr then done ++ [(i, ⟨foot, wr.map (·.1)⟩)] else done
theorem vS {dr : Bool} {T : List (List Nat)} {b i : Nat} {new : List Nat} {n : Nat} (h : Ku dr T b i new n = true) : if dr = true then (n < b ∨ (n ∈ new ∨ ∃ k, k ∈ T.getD i [] ∧ n = b + k)) else (n < b + i ∨ n ∈ new) := by
 unfold Ku at h
 split at h
 ·rename_i hd
  rw [if_pos hd]
  simp only [Bool.or_eq_true, Bool.and_eq_true, decide_eq_true_eq, List.contains_eq_mem] at h
  rcases h with (h | h) | ⟨h1, h2⟩
  ·exact .inl h
  ·exact .inr (.inl h)
  ·exact .inr (.inr ⟨n - b, h2, by omega⟩)
 ·rename_i hd
  rw [if_neg hd]
  simpa using h
theorem mH {C : cD} {ops : Array Oper} {dr : Bool} {T : List (List Nat)} {b i : Nat} {o : Oper} {os : List Oper} {done : List (Nat × Fx)} {s : St} {K : St → Prop} {v : Option AV} {wr : List (Nat × Option bH)} {foot new : List Nat} (h : ops[i]? = some o → wW C ops i o s v wr foot new)
  (hok : iO dr T b i done v wr foot new = true) (hk : RX C ops dr T b (i + 1) os (fM dr done i foot wr) (s.app o.dst v wr) K) : RX C ops dr T b i (o :: os) done s K := by
 intro hl
 have hT := h hl.head
 have hk := hk hl.tail
 simp only [iO, Bool.and_eq_true] at hok
 obtain ⟨⟨⟨h1, h2⟩, h3⟩, h4⟩ := hok
 have hm1 : ∀ x, v = some x → ∀ n, n ∈ x.ments → Ku dr T b i new n = true := fun x hx n hn => by
  subst hx; exact List.all_eq_true.1 h1 n hn
 have hm2 : ∀ q, q ∈ wr → ∀ ob, q.2 = some ob → ∀ n, n ∈ ob.ments → Ku dr T b i new n = true := fun q hq ob ho n hn => by
  have := List.all_eq_true.1 h2 q hq
  rw [ho] at this
  exact List.all_eq_true.1 this n hn
 have hn : ∀ n, n ∈ new → n = b + i := fun n hn => by simpa using List.all_eq_true.1 h3 n hn
 by_cases hd : dr = true
 ·rw [if_pos hd] at hk ⊢
  simp only [fM, hd, if_true] at hk
  refine ⟨v, wr, foot, new, hT, hn, ⟨fun x hx n hn => ?_, fun q hq ob ho n hn => ?_⟩, fun p hp => ?_, hk⟩
  ·have := vS (hm1 x hx n hn); rw [if_pos hd] at this; exact this
  ·have := vS (hm2 q hq ob ho n hn); rw [if_pos hd] at this; exact this
  ·have h5 := h4
   simp only [hd, Bool.not_true, Bool.false_or] at h5
   have := List.all_eq_true.1 h5 p hp
   simpa using this
 ·rw [if_neg hd] at hk ⊢
  refine ⟨v, wr, foot, new, hT, hn, ⟨fun x hx n hn => ?_, fun q hq ob ho n hn => ?_⟩, hk⟩
  ·have := vS (hm1 x hx n hn); rw [if_neg hd] at this; exact this
  ·have := vS (hm2 q hq ob ho n hn); rw [if_neg hd] at this; exact this
def stp (C : cD) (ops : Array Oper) (dr : Bool) (T : List (List Nat)) (b i : Nat) (o : Oper) (L : List (Nat × AV)) (G : List (Nat × bH)) (done : List (Nat × Fx)) : Option (List (Nat × AV) × List (Nat × bH) × List (Nat × Fx)) :=
 match pX C.n o, gN ops o (fun t => L.lookup t) with
 | true, some false => if iO dr T b i done (some (.tup [])) [] [] [] then some (lG o.dst (some (.tup [])) L, G, fM dr done i [] []) else none
 | true, some true => match Mv C (b + i) (mk L G 0) o with
  | some r => if iO dr T b i done r.v r.wr r.foot r.new then some (lG o.dst r.v L, uE r.wr G, fM dr done i r.foot r.wr) else none
  | none => none
 | _, _ => none
theorem eN {C : cD} {s s' : St} (h1 : s.fr = s'.fr) (x : Operand) : s.ev C x = s'.ev C x := by cases x <;> simp only [St.ev, h1]
theorem rd_lim {C : cD} {s s' : St} (h1 : s.fr = s'.fr) (h2 : s.H = s'.H) (op : Op) : rd C s op = rd C s' op := by
 have he : ∀ x, s.ev C x = s'.ev C x := eN h1
 have hc : ∀ l, Yl C s l = Yl C s' l := fun l => by induction l with | nil => rfl | cons x l ih => simp only [Yl, he, ih]
 cases op with
 | call c =>
  obtain ⟨cal, args, ts⟩ := c
  cases cal with
  | builtin b => cases b <;> simp only [rd, he, h2]
  | _ => simp only [rd]
 | makeFunc fn first caps => cases fn <;> simp only [rd, hc]
 | _ => simp only [rd, he, h2]
theorem Yi {C : cD} {nm : Nat} {s s' : St} (h1 : s.fr = s'.fr) (h2 : s.H = s'.H) (o : Oper) : Mv C nm s o = Mv C nm s' o := by
 have he : ∀ x, s.ev C x = s'.ev C x := eN h1
 unfold Mv ef kC
 rw [rd_lim h1 h2]
 simp only [he, h2]
theorem rx_stp {C : cD} {ops : Array Oper} {dr : Bool} {T : List (List Nat)} {b i : Nat} {o : Oper} {os : List Oper} {done done' : List (Nat × Fx)} {L L' : List (Nat × AV)} {G G' : List (Nat × bH)} {lim : Nat} {K : St → Prop} (h : stp C ops dr T b i o L G done = some (L', G', done')) (hk : RX C ops dr T b (i + 1) os done' (mk L' G' lim) K) : RX C ops dr T b i (o :: os) done (mk L G lim) K := by
 unfold stp at h
 split at h
 ·rename_i h1 h2
  split at h
  ·rename_i h3
   simp only [Option.some.injEq, Prod.mk.injEq] at h
   obtain ⟨rfl, rfl, rfl⟩ := h
   refine mH (fun hi => opT_skip hi (s := mk L G lim) h2 (dW h1)) h3 ?_
   rw [iA]
   exact hk
  ·cases h
 ·rename_i h1 h2
  split at h
  ·rename_i r hr
   split at h
   ·rename_i h3
    simp only [Option.some.injEq, Prod.mk.injEq] at h
    obtain ⟨rfl, rfl, rfl⟩ := h
    rw [Yi (s := mk L G 0) (s' := mk L G lim) rfl rfl] at hr
    refine mH (fun hi => Se hi (s := mk L G lim) h2 h1 hr) h3 ?_
    rw [iA]
    exact hk
   ·cases h
  ·cases h
 ·cases h
def zV (C : cD) (ops : Array Oper) (dr : Bool) (T : List (List Nat)) (b : Nat) : Nat → Nat → List Oper → List (Nat × AV) → List (Nat × bH) → List (Nat × Fx) → Option (List Oper × List (Nat × AV) × List (Nat × bH) × List (Nat × Fx))
 | 0, _, l, L, G, D => some (l, L, G, D)
 | k + 1, i, o :: os, L, G, D => match stp C ops dr T b i o L G D with
  | some p => zV C ops dr T b k (i + 1) os p.1 p.2.1 p.2.2
  | none => none
 | _ + 1, _, [], _, _, _ => none
theorem Gd {C : cD} {ops : Array Oper} {dr : Bool} {T : List (List Nat)} {b : Nat} {lim : Nat} {K : St → Prop} : ∀ (k : Nat) {i : Nat} {l l' : List Oper} {D D' : List (Nat × Fx)} {L L' : List (Nat × AV)} {G G' : List (Nat × bH)}, zV C ops dr T b k i l L G D = some (l', L', G', D') → RX C ops dr T b (i + k) l' D' (mk L' G' lim) K → RX C ops dr T b i l D (mk L G lim) K
 | 0, i, l, l', D, D', L, L', G, G', h, hk => by
  simp only [zV, Option.some.injEq, Prod.mk.injEq] at h
  obtain ⟨rfl, rfl, rfl, rfl⟩ := h
  exact hk
 | k + 1, i, [], l', D, D', L, L', G, G', h, hk => by simp [zV] at h
 | k + 1, i, o :: os, l', D, D', L, L', G, G', h, hk => by
  simp only [zV] at h
  split at h
  ·rename_i p hp
   obtain ⟨L1, G1, D1⟩ := p
   exact rx_stp hp (Gd k h (by rw [show i + 1 + k = i + (k + 1) by omega]; exact hk))
  ·cases h
theorem wW.forget {C : cD} {ops : Array Oper} {i : Nat} {o : Oper} {s s' : St} {v : Option AV} {wr : List (Nat × Option bH)} {foot new : List Nat} (h1 : ∀ t x, s'.fr t = some x → s.fr t = some x) (h : wW C ops i o s v wr foot new) : True := trivial
theorem Fp {C : cD} {ops : Array Oper} {dr : Bool} {T : List (List Nat)} {b i : Nat} {D : List (Nat × Fx)} {s : St} {K : St → Prop} (h : K s) : RX C ops dr T b i [] D s K := fun _ => by split <;> exact h
theorem Oa {C : cD} {id : Nat} {ops : Array Oper} {s : St} {K : Exit → St → Prop} {l : List Oper} (hl : ops.toList = l) (h : ∀ D, RX (C.on D) ops false [] s.lim 0 l [] s fun s' => K .normal { s' with lim := s.lim + l.length }) (hnd : wR C ops = true) : AW C (.region id ops false) s K := by
 subst hl
 refine Xb (fun D => ?_) hnd
 have := h D (fun j => by simp)
 rw [if_neg (by simp)] at this
 simpa using this
theorem Vl {C : cD} {id : Nat} {ops : Array Oper} {s : St} {K : Exit → St → Prop} {l : List Oper} (T : List (List Nat)) (hT : Ei ops T = true) (hl : ops.toList = l) (h : ∀ D, RX (C.on D) ops true T s.lim 0 l [] s fun s' => K .normal { s' with lim := s.lim + l.length }) (hnd : wR C ops = true) : AW C (.region id ops true) s K := by
 subst hl
 refine Hj hT (fun D => ?_) hnd
 have := h D (fun j => by simp)
 rw [if_pos rfl] at this
 simpa using this
end Go.Bm
namespace Go.Bm
open Go
section
variable {C : cD} {s : St} {K : Exit → St → Prop}
theorem Lb (C D : cD) (s : St) (x : Operand) : s.ev (C.on D) x = s.ev C x := by cases x <;> rfl
theorem Nl {c : Code} {K' : Exit → St → Prop} (h : AW C c s K) (hk : ∀ e s, K e s → K' e s) : AW C c s K' :=
 fun D β μ a W hr => wpIn_mono (h D β μ a W hr) fun e _ _ ⟨D', s', β', μ', hle, hk', hr'⟩ => ⟨D', s', β', μ', hle, hk e s' hk', hr'⟩
theorem aD (h : K .normal s) : AW C .skip s K := fun D β μ _ _ hr => wpIn_skip ⟨D, s, β, μ, .refl _, h, hr⟩
theorem bF {id : Nat} (h : K (.exit id) s) : AW C (.exit id) s K := fun D β μ _ _ hr => wpIn_exit ⟨D, s, β, μ, .refl _, h, hr⟩
theorem aG (h : K .ret s) : AW C .ret s K := fun D β μ _ _ hr => wpIn_ret ⟨D, s, β, μ, .refl _, h, hr⟩
def Lp (k : St → Prop) (K : Exit → St → Prop) : Exit → St → Prop
 | .normal, s => k s
 | e, s => K e s
theorem wpIn_le {C D : cD} {F : Fence} {n : Nat} {P : Program} {c : Code} {K : Exit → St → Prop} {a : Act} {W : World} {D0 : cD} (hle : (C.on D0).Le (C.on D))
  (h : c.wpIn F n P (fun e a' W' => ∃ D' s' β' μ', (C.on D).Le (C.on D') ∧ K e s' ∧ pV (C.on D') s' (· < s'.lim) β' μ' a' W') a W) : c.wpIn F n P (fun e a' W' => ∃ D' s' β' μ', (C.on D0).Le (C.on D') ∧ K e s' ∧ pV (C.on D') s' (· < s'.lim) β' μ' a' W') a W :=
 wpIn_mono h fun e _ _ ⟨D', s', β', μ', hle', hk', hr'⟩ => ⟨D', s', β', μ', hle.trans hle', hk', hr'⟩
theorem aM {x y : Code} (h : AW C x s (Lp (fun s' => AW C y s' K) K)) : AW C (.seq x y) s K :=
 fun D β μ a W hr => wpIn_seq (wpIn_mono (h D β μ a W hr) fun e a' W' ⟨D', s', β', μ', hle, hk, hr'⟩ => by
  cases e with
  | normal => exact wpIn_le hle (hk D' β' μ' a' W' hr')
  | exit id => exact ⟨D', s', β', μ', hle, hk, hr'⟩
  | goto l => exact ⟨D', s', β', μ', hle, hk, hr'⟩
  | ret => exact ⟨D', s', β', μ', hle, hk, hr'⟩
  | panic ch => exact ⟨D', s', β', μ', hle, hk, hr'⟩
  | outgrown => exact ⟨D', s', β', μ', hle, hk, hr'⟩)
theorem aw_cond {c : Operand} {x y : Code} {t : Bool} (hc : s.ev C c = some (.c (.v (.bool t)))) (h1 : t = true → AW C x s K) (h2 : t = false → AW C y s K) : AW C (.cond c x y) s K :=
 fun D β μ a W hr => wpIn_cond_split (dY (St.ev_den hr ((Lb C D s c).trans hc))) (fun e => h1 e D β μ a W hr) (fun e => h2 e D β μ a W hr)
def blockK (id : Nat) (K : Exit → St → Prop) : Exit → St → Prop
 | .exit j, s => match Nat.beq j id with | true => K .normal s | false => K (.exit j) s
 | e, s => K e s
theorem aI {id : Nat} {c : Code} (h : AW C c s (blockK id K)) : AW C (.block id c) s K :=
 fun D β μ a W hr => wpIn_block (wpIn_mono (h D β μ a W hr) fun e a' W' ⟨D', s', β', μ', hle, hk, hr'⟩ => by
  cases e with
  | exit j =>
   simp only [Exit.inBlock]
   simp only [blockK] at hk
   split
   ·rename_i e
    have : Nat.beq j id = true := by subst e; exact Nat.beq_refl j
    rw [this] at hk; exact ⟨D', s', β', μ', hle, hk, hr'⟩
   ·rename_i e
    have : Nat.beq j id = false := by
     cases hq : Nat.beq j id with
     | false => rfl
     | true => exact absurd (Nat.eq_of_beq_eq_true hq) e
    rw [this] at hk; exact ⟨D', s', β', μ', hle, hk, hr'⟩
  | normal => exact ⟨D', s', β', μ', hle, hk, hr'⟩
  | goto l => exact ⟨D', s', β', μ', hle, hk, hr'⟩
  | ret => exact ⟨D', s', β', μ', hle, hk, hr'⟩
  | panic ch => exact ⟨D', s', β', μ', hle, hk, hr'⟩
  | outgrown => exact ⟨D', s', β', μ', hle, hk, hr'⟩)
end
def dZ (C : cD) (s s2 : St) : Prop := ∀ D β μ a W, pV (C.on D) s (· < s.lim) β μ a W → ∃ β2 μ2, pV (C.on D) s2 (· < s2.lim) β2 μ2 a W
theorem dZ.refl (C : cD) (s : St) : dZ C s s := fun _ β μ _ _ h => ⟨β, μ, h⟩
theorem dZ.trans {C : cD} {s s2 s3 : St} (h : dZ C s s2) (k : dZ C s2 s3) : dZ C s s3 := fun D β μ a W hr => let ⟨β2, μ2, h2⟩ := h D β μ a W hr; k D β2 μ2 a W h2
theorem aJ {C : cD} {c : Code} {s s2 : St} {K : Exit → St → Prop} (h : dZ C s s2) (hk : AW C c s2 K) : AW C c s K :=
 fun D β μ a W hr => let ⟨β2, μ2, hr2⟩ := h D β μ a W hr; hk D β2 μ2 a W hr2
def viaK (C : cD) (K : Exit → St → Prop) (e : Exit) (s' : St) : Prop := ∃ s2, dZ C s' s2 ∧ K e s2
theorem dI {C : cD} {K : Exit → St → Prop} {e : Exit} {s s2 : St} (h : dZ C s s2) (k : K e s2) : viaK C K e s := ⟨s2, h, k⟩
theorem aV {C : cD} {c : Code} {s : St} {K : Exit → St → Prop} (h : AW C c s (viaK C K)) : AW C c s K :=
 fun D β μ a W hr => wpIn_mono (h D β μ a W hr) fun e a' W' ⟨D', s', β', μ', hle, ⟨s2, hv, hk⟩, hr'⟩ => let ⟨β2, μ2, hr2⟩ := hv D' β' μ' a' W' hr'; ⟨D', s2, β2, μ2, hle, hk, hr2⟩
theorem wK {F : Fence} {n : Nat} {P : Program} {Q : Exit → Act → World → Prop} {a : Act} {w : World} {c : Code} (I : Nat → Act → World → Prop) (n₀ : Nat) (h₀ : I n₀ a w)
  (round : ∀ n' a w, I n' a w → c.wpIn F n P (Exit.then (fun a' w' => ∃ m, m < n' ∧ I m a' w') Q) a w) : (Code.loop c).wpIn F n P Q a w := by
 refine wpIn_loop (fun a w => ∃ n, I n a w) (fun a w => leastOf (fun n => I n a w)) ⟨n₀, h₀⟩ ?_
 intro a w hI
 refine wpIn_mono (round _ a w (leastOf_spec hI).1) ?_
 intro e a' w' hq
 cases e with
 | normal =>
  obtain ⟨m, hm, hi⟩ := hq
  exact ⟨⟨m, hi⟩, Nat.lt_of_le_of_lt ((leastOf_spec ⟨m, hi⟩).2 m hi) hm⟩
 | exit id => exact hq
 | goto l => exact hq
 | ret => exact hq
 | panic ch => exact hq
 | outgrown => exact hq
theorem aw_loop {C : cD} {c : Code} {s : St} {K : Exit → St → Prop} (I : Nat → St → Prop) (n0 : Nat) (s0 : St) (hv : dZ C s s0) (h0 : I n0 s0) (h : ∀ n s, I n s → AW C c s (Lp (fun s' => ∃ m s2, m < n ∧ I m s2 ∧ dZ C s' s2) K)) : AW C (.loop c) s K :=
 aJ hv fun D β μ a W hr => wK (fun n a W => ∃ D' s β μ, (C.on D).Le (C.on D') ∧ I n s ∧ pV (C.on D') s (· < s.lim) β μ a W) n0 ⟨D, s0, β, μ, .refl _, h0, hr⟩ fun n a W ⟨D1, s, β, μ, hle1, hi, hr⟩ => wpIn_mono (h n s hi D1 β μ a W hr) fun e a' W' ⟨D', s', β', μ', hle, hk, hr'⟩ => by
  cases e with
  | normal =>
   obtain ⟨m, s2, hm, hi', hvw⟩ := hk
   obtain ⟨β2, μ2, hr2⟩ := hvw D' β' μ' a' W' hr'
   exact ⟨m, hm, D', s2, β2, μ2, hle1.trans hle, hi', hr2⟩
  | exit id => exact ⟨D', s', β', μ', hle1.trans hle, hk, hr'⟩
  | goto l => exact ⟨D', s', β', μ', hle1.trans hle, hk, hr'⟩
  | ret => exact ⟨D', s', β', μ', hle1.trans hle, hk, hr'⟩
  | panic ch => exact ⟨D', s', β', μ', hle1.trans hle, hk, hr'⟩
  | outgrown => exact ⟨D', s', β', μ', hle1.trans hle, hk, hr'⟩
def vD (σ : List (Nat × Nat)) (n : Nat) : Bool := σ.any fun p => p.1 == n
def Qe (σ : List (Nat × Nat)) (n : Nat) : Nat := match σ with | [] => n | p :: r => if p.2 = n then p.1 else Qe r n
def zZ : List Nat → Bool
 | [] => true
 | x :: l => !l.contains x && zZ l
def sigOk (k lim2 : Nat) (σ : List (Nat × Nat)) : Bool :=
 zZ (σ.map (·.1)) && zZ (σ.map (·.2)) && (σ.all fun p => decide (p.2 < lim2) && (if p.1 < k then p.1 == p.2 else decide (k ≤ p.2))) && decide (k ≤ lim2)
theorem tK : ∀ {l : List Nat}, zZ l = true → l.Pairwise (· ≠ ·)
 | [], _ => .nil
 | x :: l, h => by
  simp only [zZ, Bool.and_eq_true, Bool.not_eq_true', List.contains_eq_mem, decide_eq_false_iff_not] at h
  exact List.pairwise_cons.2 ⟨fun y hy e => h.1 (e ▸ hy), tK h.2⟩
theorem Uu : ∀ {σ : List (Nat × Nat)}, (σ.map (·.1)).Pairwise (· ≠ ·) → (σ.map (·.2)).Pairwise (· ≠ ·) → ∀ n, vD σ n = true → Qe σ (eA σ n) = n
 | [], _, _, n, h => by simp [vD] at h
 | p :: σ, h1, h2, n, h => by
  simp only [List.map_cons, List.pairwise_cons] at h1 h2
  by_cases e : n = p.1
  ·subst e
   have h3 : eA (p :: σ) p.1 = p.2 := by unfold eA; rw [List.lookup_cons, beq_self_eq_true]
   rw [h3, Qe, if_pos rfl]
  ·have e1 : (n == p.1) = false := by simpa using e
   have hd : vD σ n = true := by
    simp only [vD, List.any_cons, Bool.or_eq_true, beq_iff_eq] at h ⊢
    exact h.resolve_left (Ne.symm e)
   have h3 : eA (p :: σ) n = eA σ n := by unfold eA; rw [List.lookup_cons, e1]
   have hm : eA σ n ∈ σ.map (·.2) := by
    obtain ⟨q, hq, hqn⟩ := List.any_eq_true.1 hd
    have hqn' : q.1 = n := by simpa using hqn
    have : ∀ L : List (Nat × Nat), q ∈ L → ∃ m, L.lookup n = some m ∧ m ∈ L.map (·.2) := by
     intro L
     induction L with
     | nil => intro hq; cases hq
     | cons r L ih =>
      intro hq
      rw [List.lookup_cons]
      by_cases er : n = r.1
      ·simp [er]
      ·have er1 : (n == r.1) = false := by simpa using er
       rw [er1]
       rcases List.mem_cons.1 hq with rfl | hq
       ·exact absurd hqn'.symm er
       ·obtain ⟨m, hm, hm2⟩ := ih hq
        exact ⟨m, hm, by simp [hm2]⟩
    obtain ⟨m, hm, hm2⟩ := this σ hq
    simp only [eA, hm]
    exact hm2
   rw [h3, Qe, if_neg (h2.1 _ hm)]
   exact Uu h1.2 h2.2 n hd
def Aj {α : Type} (L : List (Nat × α)) : List Nat → List (Nat × α)
 | [] => []
 | t :: ks => match L.lookup t with | some x => (t, x) :: Aj L ks | none => Aj L ks
theorem uC {α : Type} {L : List (Nat × α)} {p : Nat × α} : ∀ {ks : List Nat}, p ∈ Aj L ks → p.1 ∈ ks ∧ L.lookup p.1 = some p.2
 | [], h => by simp [Aj] at h
 | t :: ks, h => by
  simp only [Aj] at h
  split at h
  ·rename_i x hx
   rcases List.mem_cons.1 h with rfl | h
   ·exact ⟨List.mem_cons_self .., hx⟩
   ·exact ⟨List.mem_cons_of_mem _ (uC h).1, (uC h).2⟩
  ·exact ⟨List.mem_cons_of_mem _ (uC h).1, (uC h).2⟩
theorem Pp {α : Type} {L : List (Nat × α)} {t : Nat} {x : α} {ks : List Nat} (h : (Aj L ks).lookup t = some x) : L.lookup t = some x := (uC (gI h)).2
def Ux (k : Nat) (σ : List (Nat × Nat)) (ks : List Nat) (lim2 : Nat) (L : List (Nat × AV)) (G : List (Nat × bH)) : Option (List (Nat × AV) × List (Nat × bH)) :=
 if sigOk k lim2 σ && (Aj L ks).all (fun p => p.2.plain && p.2.ments.all (vD σ)) && (Aj G (σ.map (·.1))).all (fun p => p.2.ments.all (vD σ)) then
  some ((Aj L ks).map fun p => (p.1, p.2.ren (eA σ)), (Aj G (σ.map (·.1))).map fun p => (eA σ p.1, p.2.ren (eA σ)))
 else none
theorem xS {α β : Type} {f : α → β} (n : Nat) : ∀ {L : List (Nat × α)} {y : β}, (L.map fun p => (p.1, f p.2)).lookup n = some y → ∃ x, L.lookup n = some x ∧ y = f x
 | [], y, h => by simp at h
 | p :: L, y, h => by
  rw [List.map_cons, List.lookup_cons] at h
  rw [List.lookup_cons]
  split at h
  ·exact ⟨p.2, rfl, (Option.some.inj h).symm⟩
  ·exact xS n h
theorem tX {C : cD} {k : Nat} (hk : C.k = k) (σ : List (Nat × Nat)) (ks : List Nat) {L L2 : List (Nat × AV)} {G G2 : List (Nat × bH)} {lim lim2 : Nat} (h : Ux k σ ks lim2 L G = some (L2, G2)) : dZ C (mk L G lim) (mk L2 G2 lim2) := by
 subst hk
 unfold Ux at h
 split at h
 ·rename_i hc
  simp only [Option.some.injEq, Prod.mk.injEq] at h
  obtain ⟨rfl, rfl⟩ := h
  simp only [Bool.and_eq_true] at hc
  obtain ⟨⟨hs, hL⟩, hG⟩ := hc
  simp only [sigOk, Bool.and_eq_true, decide_eq_true_eq] at hs
  obtain ⟨⟨⟨hs1, hs2⟩, hs3⟩, hs4⟩ := hs
  have d1 := tK hs1
  have d2 := tK hs2
  have hinv := fun n => Uu d1 d2 n
  have hval : ∀ n, vD σ n = true → eA σ n < lim2 := fun n hn => by
   obtain ⟨q, hq, hqn⟩ := List.any_eq_true.1 hn
   have hqn' : q.1 = n := by simpa using hqn
   have : ∀ L : List (Nat × Nat), (∀ p, p ∈ L → p.2 < lim2) → q ∈ L → (match L.lookup n with | some m => m | none => n) < lim2 := by
    intro L
    induction L with
    | nil => intro _ hq; cases hq
    | cons r L ih =>
     intro hL hq
     rw [List.lookup_cons]
     by_cases er : n = r.1
     ·simp only [er, beq_self_eq_true]; exact hL r (List.mem_cons_self ..)
     ·have er1 : (n == r.1) = false := by simpa using er
      simp only [er1]
      rcases List.mem_cons.1 hq with rfl | hq
      ·exact absurd hqn'.symm er
      ·exact ih (fun p hp => hL p (List.mem_cons_of_mem _ hp)) hq
   exact this σ (fun p hp => by have := List.all_eq_true.1 hs3 p hp; simp only [Bool.and_eq_true, decide_eq_true_eq] at this; exact this.1) hq
  have hfix : ∀ n, n < C.k → Qe σ n = n := by
   intro n hn
   have : ∀ L : List (Nat × Nat), (∀ p, p ∈ L → (if p.1 < C.k then p.1 = p.2 else C.k ≤ p.2)) → Qe L n = n := by
    intro L
    induction L with
    | nil => intro _; rfl
    | cons r L ih =>
     intro hL
     rw [Qe]
     split
     ·rename_i er
      have := hL r (List.mem_cons_self ..)
      split at this
      ·omega
      ·omega
     ·exact ih fun p hp => hL p (List.mem_cons_of_mem _ hp)
   refine this σ fun p hp => ?_
   have := List.all_eq_true.1 hs3 p hp
   simp only [Bool.and_eq_true] at this
   have h2 := this.2
   split
   ·rename_i h3; rw [if_pos h3] at h2; simpa using h2
   ·rename_i h3; rw [if_neg h3] at h2; simpa using h2
  have hfr : ∀ t x, (mk ((Aj L ks).map fun p => (p.1, p.2.ren (eA σ))) ((Aj G (σ.map (·.1))).map fun p => (eA σ p.1, p.2.ren (eA σ))) lim2).fr t = some x → ∃ y, L.lookup t = some y ∧ x = y.ren (eA σ) ∧ y.plain = true ∧ ∀ n, n ∈ y.ments → vD σ n = true := by
   intro t x hx
   obtain ⟨y, hy, rfl⟩ := xS (f := fun z : AV => z.ren (eA σ)) t hx
   have hm := gI hy
   have := List.all_eq_true.1 hL _ hm
   simp only [Bool.and_eq_true] at this
   refine ⟨y, ?_, rfl, this.1, fun n hn => List.all_eq_true.1 this.2 n hn⟩
   exact Pp hy
  have hdomG : ∀ p, p ∈ Aj G (σ.map (·.1)) → vD σ p.1 = true := fun p hp => by
   have := (uC hp).1
   simp only [List.mem_map] at this
   obtain ⟨q, hq, he⟩ := this
   exact List.any_eq_true.2 ⟨q, hq, by simpa using he⟩
  have hown : ∀ n o, (mk ((Aj L ks).map fun p => (p.1, p.2.ren (eA σ))) ((Aj G (σ.map (·.1))).map fun p => (eA σ p.1, p.2.ren (eA σ))) lim2).H n = some o → ∃ m p, G.lookup m = some p ∧ vD σ m = true ∧ n = eA σ m ∧ o = p.ren (eA σ) ∧ ∀ x, x ∈ p.ments → vD σ x = true := by
   intro n o hn
   have key : ∀ L : List (Nat × bH), (∀ p, p ∈ L → vD σ p.1 = true) → (L.map fun p => (eA σ p.1, p.2.ren (eA σ))).lookup n = some o → ∃ m p, L.lookup m = some p ∧ vD σ m = true ∧ n = eA σ m ∧ o = p.ren (eA σ) := by
    intro L hL hn
    induction L with
    | nil => simp at hn
    | cons q L ih =>
     rw [List.map_cons, List.lookup_cons] at hn
     split at hn
     ·rename_i he
      refine ⟨q.1, q.2, by rw [List.lookup_cons, beq_self_eq_true], hL q (List.mem_cons_self ..), beq_iff_eq.1 he, (Option.some.inj hn).symm⟩
     ·rename_i he
      obtain ⟨m, p, h1, h2, h3, h4⟩ := ih (fun p hp => hL p (List.mem_cons_of_mem _ hp)) hn
      refine ⟨m, p, ?_, h2, h3, h4⟩
      rw [List.lookup_cons]
      have : (m == q.1) = false := by
       rw [beq_eq_false_iff_ne]
       intro e
       rw [h3, e] at he
       simp at he
      rw [this]
      exact h1
   obtain ⟨m, p, h1, h2, h3, h4⟩ := key _ hdomG hn
   have hm := gI h1
   refine ⟨m, p, ?_, h2, h3, h4, fun x hx => List.all_eq_true.1 (List.all_eq_true.1 hG _ hm) x hx⟩
   exact Pp h1
  intro D β μ a W hr
  refine ⟨fun n => β (Qe σ n), μ, ⟨⟨hr.f.defers, hr.f.size, fun t x ht => ?_, fun t x ht n hn => ?_⟩, ⟨hr.w.keep, hr.w.size, hr.w.os, hr.w.tape, hr.w.output, fun n o hn => ?_, fun n m o p hn hm h1 h2 he => ?_, hr.w.imm, fun n o hn h0 => ?_, fun n o hn h0 => ?_, fun n o hn => ?_, hr.w.mu, hr.w.newc, hr.w.newm, hr.w.glob, fun n hn => ⟨Nat.lt_of_lt_of_le hn hs4, by simp only [hfix n hn]; exact (hr.w.fix n hn).2⟩⟩⟩⟩
  ·obtain ⟨y, h1, rfl, h2, h3⟩ := hfr t x ht
   obtain ⟨v, hv, hd⟩ := hr.f.den t y h1
   refine ⟨v, hv, (uD h2).2 (hd.mono (cL.le_refl μ) fun n hn => ?_)⟩
   simp only [hinv n (h3 n hn)]
  ·obtain ⟨y, h1, rfl, h2, h3⟩ := hfr t x ht
   rw [Hq h2] at hn
   obtain ⟨m, hm, rfl⟩ := List.mem_map.1 hn
   exact hval m (h3 m hm)
  ·obtain ⟨m, p, h1, h2, rfl, rfl, h4⟩ := hown n o hn
   simp only [hinv m h2]
   exact Fy.2 ((hr.w.own m p h1).mono (cL.le_refl μ) (fun x hx => by simp only [hinv x (h4 x hx)]) (fun _ => rfl))
  ·obtain ⟨n', p', g1, g2, rfl, rfl, g4⟩ := hown n o hn
   obtain ⟨m', q', k1, k2, rfl, rfl, k4⟩ := hown m p hm
   simp only [hinv n' g2] at h1 he
   simp only [hinv m' k2] at h2 he
   rw [hr.w.inj n' m' p' q' g1 k1 h1 h2 he]
  ·obtain ⟨m, p, h1, h2, rfl, rfl, h4⟩ := hown n o hn
   simp only [hinv m h2] at h0 ⊢
   exact Bh.2 (hr.w.sep m p h1 h0)
  ·obtain ⟨m, p, h1, h2, rfl, rfl, h4⟩ := hown n o hn
   simp only [hinv m h2] at h0 ⊢
   exact hr.w.loc m p h1 h0
  ·obtain ⟨m, p, h1, h2, rfl, rfl, h4⟩ := hown n o hn
   refine ⟨hval m h2, fun x hx => ?_⟩
   rw [Hb] at hx
   obtain ⟨y, hy, rfl⟩ := List.mem_map.1 hx
   exact hval y (h4 y hy)
 ·cases h
end Go.Bm
namespace Go.Bm
open Go
def mkK (P : Program) : TypeDesc → Option TK
 | .slice e => some (.sl e)
 | .array n e => some (.arr n e)
 | .struct f => match f.toList.mapM (fun x => (P.info? x.type).map fun i => (x.type, x.offset, i.size)) with
  | some l => some (.st l)
  | none => none
 | .map k e => some (.mp k e)
 | .string => some .str
 | .bool => some .boo
 | .int k => some (.int k)
 | _ => some .oth
def isAggV : Value → Bool
 | .agg _ => true
 | _ => false
def isOneV : Value → Bool
 | .agg _ => false
 | .tuple _ => false
 | _ => true
def zOk (ag : Bool) (z : Value) : Bool := if ag then isAggV z else isOneV z
def eZ (P : Program) (T : TypeId) : Option TI :=
 match P.info? T, P.underlying T with
 | some f, some d => match mkK P d, f.zero with
  | some k, some z => if zOk k.agg z = true then some ⟨k, f.size, f.bytes, z.cells.toList⟩ else none
  | _, _ => none
 | _, _ => none
theorem Am {α β : Type} {f : α → Option β} : ∀ {l : List α} {r : List β}, l.mapM f = some r → ∀ (i : Nat) (y : β), r[i]? = some y → ∃ x, l[i]? = some x ∧ f x = some y
 | [], r, h, i, y, hy => by simp at h; subst h; simp at hy
 | x :: l, r, h, i, y, hy => by
  simp only [List.mapM_cons, Option.bind_eq_bind, Option.pure_def] at h
  cases hx : f x with
  | none => simp [hx] at h
  | some z =>
   cases hl : l.mapM f with
   | none => simp [hx, hl] at h
   | some r' =>
    simp [hx, hl] at h
    subst h
    cases i with
    | zero => simp at hy; subst hy; exact ⟨x, rfl, hx⟩
    | succ i => exact Am hl i y hy
theorem Au {α β : Type} {f : α → Option β} : ∀ {l : List α} {r : List β}, l.mapM f = some r → r.length = l.length
 | [], r, h => by simp at h; subst h; rfl
 | x :: l, r, h => by
  simp only [List.mapM_cons, Option.bind_eq_bind, Option.pure_def] at h
  cases hx : f x with
  | none => simp [hx] at h
  | some z =>
   cases hl : l.mapM f with
   | none => simp [hx, hl] at h
   | some r' =>
    simp [hx, hl] at h
    subst h
    simp [Au hl]
theorem bU {P : Program} {T : TypeId} {i : TI} (h : eZ P T = some i) : i.ok P T := by
 unfold eZ at h
 split at h
 ·rename_i f d hf hd
  split at h
  ·rename_i k z hk hz
   split at h
   ·rename_i hag
    obtain rfl := Option.some.inj h
    refine ⟨?_, f, hf, rfl, rfl, z, hz, rfl, ?_⟩
    ·unfold mkK at hk
     cases d with
     | struct F =>
      simp only at hk
      split at hk
      ·rename_i l hl
       obtain rfl := Option.some.inj hk
       refine ⟨F, hd, fun i t o n hi => ?_, by have := Au hl; simpa using this.symm⟩
       obtain ⟨x, hx, hxy⟩ := Am hl i _ hi
       simp only [Option.map_eq_some_iff, Prod.mk.injEq] at hxy
       obtain ⟨inf, h1, h2, h3, h4⟩ := hxy
       exact ⟨x, inf, by simpa using hx, h2, h3, h2 ▸ h1, h4⟩
      ·cases hk
     | _ => first | (obtain rfl := Option.some.inj hk; exact hd) | (obtain rfl := Option.some.inj hk; exact ⟨_, hd, trivial⟩)
    ·cases hka : k.agg with
     | false =>
      simp only [hka, zOk, Bool.false_eq_true, if_false] at hag ⊢
      cases z <;> first | rfl | cases hag
     | true =>
      simp only [hka, zOk, if_true] at hag ⊢
      cases z <;> first | rfl | cases hag
   ·cases h
  ·cases h
 ·cases h
def aS {J β : Type} (j : J) (b : J → β) : β := b j
def idx {α : Type} (l : List α) (i : Int) : Option α := if 0 ≤ i then l[i.toNat]? else none
def Ae (s : ByteArray) (i : Int) : Option Int := if 0 ≤ i then (s[i.toNat]?).map fun u => (u.toNat : Int) else none
theorem aA {α β : Type} {X : Option α} {f : α → Option β} {r : β} (h : X.bind f = some r) : ∃ y, X = some y ∧ f y = some r := by
 cases X with
 | none => cases h
 | some y => exact ⟨y, rfl, h⟩
theorem bK {α β : Type} {X : Option α} {f : α → Option β} {r : β} {G : Prop} (h : X.bind f = some r) (k : ∀ y, X = some y → f y = some r → G) : G := by
 cases X with
 | none => cases h
 | some y => exact k y rfl h
theorem aw_ite {C : cD} {c : Operand} {x y : Code} {s : St} {K : Exit → St → Prop} {t : Bool} {α : Type} {A B : Option α} {r : α} (hc : s.ev C c = some (.c (.v (.bool t)))) (h : (if t = true then A else B) = some r) (h1 : A = some r → AW C x s K) (h2 : B = some r → AW C y s K) : AW C (.cond c x y) s K :=
 aw_cond hc (fun e => h1 (by rw [if_pos e] at h; exact h)) (fun e => h2 (by rw [if_neg (by simp [e])] at h; exact h))
theorem aR {C : cD} {X Y : Code} {s : St} {K : Exit → St → Prop} {J β : Type} {j : J} {b : J → Option β} {r : β} (h : aS j b = some r) (Q : (St → Prop) → J → Prop) (hQ : Q (fun s' => AW C Y s' K) j) (k : ∀ j (A : St → Prop), Q A j → b j = some r → AW C X s (Lp A K)) : AW C (.seq X Y) s K :=
 aM (k j _ hQ h)
theorem bB {C : cD} {c : Code} {s : St} {K : Exit → St → Prop} (I : Nat → St → Prop) (n0 : Nat) (s0 : St) (hv : dZ C s s0) (h0 : I n0 s0) (hz : ∀ s, ¬ I 0 s) (h : ∀ n s, I (n + 1) s → AW C c s (Lp (I n) K)) : AW C (.loop c) s K :=
 aw_loop I n0 s0 hv h0 fun n s hi => by
  cases n with
  | zero => exact absurd hi (hz s)
  | succ n =>
   refine Nl (h n s hi) fun e s' hk => ?_
   cases e with
   | normal => exact ⟨n, s', Nat.lt_succ_self n, hk, dZ.refl C s'⟩
   | exit id => exact hk
   | goto l => exact hk
   | ret => exact hk
   | panic ch => exact hk
   | outgrown => exact hk
def FinD (C : cD) (rs : List ResultVar) (r : AV) (Gf : List (Nat × bH)) : Exit → St → Prop := Fin C rs fun r' G' => (r' = r ∨ r'.pub = some r) ∧ ∀ n o, Gf.lookup n = some o → G' n = some o
theorem Yj {Gf G : List (Nat × bH)} (h : Gf.map (fun p => G.lookup p.1) = Gf.map (fun p => some p.2)) : ∀ n o, Gf.lookup n = some o → G.lookup n = some o := by
 induction Gf with
 | nil => intro n o hn; simp at hn
 | cons p Gf ih =>
  intro n o hn
  simp only [List.map_cons, List.cons.injEq] at h
  rw [List.lookup_cons] at hn
  split at hn
  ·rename_i he
   obtain rfl := Option.some.inj hn
   rw [beq_iff_eq.1 he]; exact h.1
  ·exact ih h.2 n o hn
theorem fin_pub {C : cD} {rs : List ResultVar} {r A : AV} {Gf : List (Nat × bH)} {e : Exit} {L : List (Nat × AV)} {G : List (Nat × bH)} {lim : Nat} (he : e = .ret ∨ e = .normal) (h1 : (mk L G lim).res C rs = some A) (h2 : A.pub = some r) (h3 : Gf.map (fun p => G.lookup p.1) = Gf.map (fun p => some p.2)) : FinD C rs r Gf e (mk L G lim) :=
 ⟨he, A, h1, .inr h2, Yj h3⟩
theorem Ng {C : cD} {rs : List ResultVar} {r : AV} {Gf : List (Nat × bH)} {e : Exit} {L : List (Nat × AV)} {G : List (Nat × bH)} {lim : Nat} (he : e = .ret ∨ e = .normal) (h1 : (mk L G lim).res C rs = some r) (h3 : Gf.map (fun p => G.lookup p.1) = Gf.map (fun p => some p.2)) : FinD C rs r Gf e (mk L G lim) :=
 ⟨he, r, h1, .inl rfl, Yj h3⟩
def Nx (n k : Nat) (args : List AV) (G : List (Nat × bH)) : Bool :=
 decide (args.length ≤ n) && args.all (fun A => A.ments.all fun m => decide (m < k)) && G.all fun p => decide (p.1 < k) && p.2.ments.all fun m => decide (m < k)
theorem fnD_of {E : oT} {F : FuncId} {fn : Func} {c : Code} {rs : List ResultVar} {n k : Nat} {L : List (Nat × AV)} {args : List AV} {G : List (Nat × bH)} {r : AV} {Gf : List (Nat × bH)} (hf : E.P.funcs[F]? = some fn) (hb : fn.body = some c) (hn : fn.ntmps = n) (hrs : fn.results.toList = rs) (hchk : Nx n k args G = true) (hL : args.zipIdx.map (fun p => (p.2, p.1)) = L)
  (h : AW (cD.st E n k none) c (mk L G k) (FinD (cD.st E n k none) rs r Gf)) : dC E F k args G r Gf := by
 subst hn hrs hL
 simp only [Nx, Bool.and_eq_true, decide_eq_true_eq] at hchk
 obtain ⟨⟨c1, c2⟩, c3⟩ := hchk
 refine fn_of hf hb c1 (fun A hA n hn => ?_) (fun n o hn => ?_) ?_
 ·have := List.all_eq_true.1 (List.all_eq_true.1 c2 A hA) n hn
  simpa using this
 ·have := List.all_eq_true.1 c3 _ (gI hn)
  simp only [Bool.and_eq_true, decide_eq_true_eq] at this
  exact ⟨this.1, fun m hm => by have := List.all_eq_true.1 this.2 m hm; simpa using this⟩
 ·have he : (⟨fun t => args[t]?, fun n => G.lookup n, k⟩ : St) = mk (args.zipIdx.map fun p => (p.2, p.1)) G k := by
   unfold mk
   congr 1
   funext t
   have key : ∀ (l : List AV) (k : Nat), ((l.zipIdx k).map fun p => (p.2, p.1)).lookup (k + t) = l[t]? := by
    intro l
    induction l generalizing t with
    | nil => intro k; rfl
    | cons x l ih =>
     intro k
     simp only [List.zipIdx_cons, List.map_cons, List.lookup_cons]
     cases t with
     | zero => simp
     | succ t =>
      have : (k + (t + 1) == k) = false := by simp
      rw [this]
      have := ih t (k + 1)
      rw [show k + (t + 1) = k + 1 + t by omega, this]
      rfl
   simpa using (key args 0).symm
  rw [he]
  exact h
theorem Mr {C : cD} {ks : List Nat} {L L' : List (Nat × AV)} {G : List (Nat × bH)} {lim lim' : Nat} (hL : mF ks L = L') (hl : lim ≤ lim') : dZ C (mk L G lim) (mk L' G lim') := by
 subst hL
 intro D β μ a W hr
 refine ⟨β, μ, (hr.forget (s' := mk (mF ks L) G lim') (fun t x hx => ?_) fun _ _ h => h).weaken fun n hn => Nat.lt_of_lt_of_le hn hl⟩
 have : (mF ks L).lookup t = some x := hx
 rw [yM] at this
 split at this
 ·exact this
 ·cases this
def vA (C : cD) (ops : Array Oper) (dr : Bool) (T : List (List Nat)) (b : Nat) (L : List (Nat × AV)) (G : List (Nat × bH)) : Option (List (Nat × AV) × List (Nat × bH)) :=
 match zV C ops dr T b ops.toList.length 0 ops.toList L G [] with
 | some ([], L', G', _) => some (L', G')
 | _ => none
theorem Hp {C : cD} {ops : Array Oper} {dr : Bool} {T : List (List Nat)} {b : Nat} {L L' : List (Nat × AV)} {G G' : List (Nat × bH)} (h : vA C ops dr T b L G = some (L', G')) : ∃ D, zV C ops dr T b ops.toList.length 0 ops.toList L G [] = some ([], L', G', D) := by
 unfold vA at h
 split at h
 ·rename_i L1 G1 D1 h1
  simp only [Option.some.injEq, Prod.mk.injEq] at h
  obtain ⟨rfl, rfl⟩ := h
  exact ⟨D1, h1⟩
 ·cases h
def Jc (C : cD) (ops : Array Oper) (dr : Bool) (T : List (List Nat)) (b k i : Nat) (l : List Oper) (L : List (Nat × AV)) (G : List (Nat × bH)) (D : List (Nat × Fx)) : Option (List (Nat × AV) × List (Nat × bH) × List (Nat × Fx)) :=
 match zV C ops dr T b k i l L G D with
 | some p => some p.2
 | none => none
theorem Lj {C : cD} {ops : Array Oper} {dr : Bool} {T : List (List Nat)} {b : Nat} : ∀ (k : Nat) {i : Nat} {l : List Oper} {L : List (Nat × AV)} {G : List (Nat × bH)} {D : List (Nat × Fx)} {p : List Oper × List (Nat × AV) × List (Nat × bH) × List (Nat × Fx)}, zV C ops dr T b k i l L G D = some p → p.1 = l.drop k
 | 0, i, l, L, G, D, p, h => by simp only [zV, Option.some.injEq] at h; subst h; rfl
 | k + 1, i, [], L, G, D, p, h => by simp [zV] at h
 | k + 1, i, o :: os, L, G, D, p, h => by
  simp only [zV] at h
  split at h
  ·exact Lj k h
  ·cases h
theorem Rj {C : cD} {ops : Array Oper} {dr : Bool} {T : List (List Nat)} {b : Nat} {lim : Nat} {K : St → Prop} (k : Nat) {i : Nat} {l : List Oper} {D D' : List (Nat × Fx)} {L L' : List (Nat × AV)} {G G' : List (Nat × bH)} (h : Jc C ops dr T b k i l L G D = some (L', G', D')) (hk : RX C ops dr T b (i + k) (l.drop k) D' (mk L' G' lim) K) : RX C ops dr T b i l D (mk L G lim) K := by
 unfold Jc at h
 split at h
 ·rename_i p hp
  obtain ⟨l', L1, G1, D1⟩ := p
  simp only [Option.some.injEq, Prod.mk.injEq] at h
  obtain ⟨rfl, rfl, rfl⟩ := h
  have := Lj k hp
  simp only at this
  subst this
  exact Gd k hp hk
 ·cases h
section
variable {C : cD} {id : Nat} {ops : Array Oper} {y : Code} {L L' : List (Nat × AV)} {G G' : List (Nat × bH)} {lim n : Nat} {K : Exit → St → Prop}
theorem ar_seq {ks : List Nat} (h : ∀ D, vA (C.on D) ops false [] lim L G = some (L', G')) {L2 : List (Nat × AV)} (hL : mF ks L' = L2) (hn : lim + ops.toList.length = n) (hk : AW C y (mk L2 G' n) K) (hnd : wR C ops = true := by kernel_rfl) : AW C (.seq (.region id ops false) y) (mk L G lim) K := by
 subst hn
 refine aM (Oa rfl (fun D => ?_) hnd)
 obtain ⟨D', h⟩ := Hp (h D)
 refine Gd ops.toList.length h (Fp ?_)
 show AW C y _ K
 exact aJ (Mr hL (Nat.le_refl _)) hk
theorem ar_last (h : ∀ D, vA (C.on D) ops false [] lim L G = some (L', G')) (hn : lim + ops.toList.length = n) (hk : K .normal (mk L' G' n)) (hnd : wR C ops = true := by kernel_rfl) : AW C (.region id ops false) (mk L G lim) K := by
 subst hn
 refine Oa rfl (fun D => ?_) hnd
 obtain ⟨D', h⟩ := Hp (h D)
 exact Gd ops.toList.length h (Fp hk)
theorem xr_seq (hn : lim + ops.toList.length = n) (hk : ∀ D, RX (C.on D) ops false [] lim 0 ops.toList [] (mk L G lim) fun s' => AW C y { s' with lim := n } K) (hnd : wR C ops = true := by kernel_rfl) : AW C (.seq (.region id ops false) y) (mk L G lim) K := by
 subst hn; exact aM (Oa rfl hk hnd)
theorem xr_last (hn : lim + ops.toList.length = n) (hk : ∀ D, RX (C.on D) ops false [] lim 0 ops.toList [] (mk L G lim) fun s' => K .normal { s' with lim := n }) (hnd : wR C ops = true := by kernel_rfl) : AW C (.region id ops false) (mk L G lim) K := by
 subst hn; exact Oa rfl hk hnd
theorem xd_seq {T : List (List Nat)} (hT : Ei ops T = true) (hn : lim + ops.toList.length = n) (hk : ∀ D, RX (C.on D) ops true T lim 0 ops.toList [] (mk L G lim) fun s' => AW C y { s' with lim := n } K) (hnd : wR C ops = true := by kernel_rfl) : AW C (.seq (.region id ops true) y) (mk L G lim) K := by
 subst hn; exact aM (Vl T hT rfl hk hnd)
theorem xd_last {T : List (List Nat)} (hT : Ei ops T = true) (hn : lim + ops.toList.length = n) (hk : ∀ D, RX (C.on D) ops true T lim 0 ops.toList [] (mk L G lim) fun s' => K .normal { s' with lim := n }) (hnd : wR C ops = true := by kernel_rfl) : AW C (.region id ops true) (mk L G lim) K := by
 subst hn; exact Vl T hT rfl hk hnd
theorem x_end {C' : cD} {dr : Bool} {T : List (List Nat)} {b i m : Nat} {D : List (Nat × Fx)} (ks : List Nat) {L2 : List (Nat × AV)} (hL : mF ks L = L2) (hk : AW C y (mk L2 G m) K) : RX C' ops dr T b i [] D (mk L G lim) fun s' => AW C y { s' with lim := m } K :=
 Fp (aJ (Mr hL (Nat.le_refl m)) hk)
theorem bT {C' : cD} {dr : Bool} {T : List (List Nat)} {b i m : Nat} {D : List (Nat × Fx)} (hk : K .normal (mk L G m)) : RX C' ops dr T b i [] D (mk L G lim) fun s' => K .normal { s' with lim := m } :=
 Fp hk
end
section
variable {C : cD} {ops : Array Oper} {dr : Bool} {T : List (List Nat)} {b i : Nat} {o : Oper} {os : List Oper} {D D' : List (Nat × Fx)} {L L' : List (Nat × AV)} {G G' : List (Nat × bH)} {lim : Nat} {K : St → Prop}
def uW (C : cD) (ops : Array Oper) (dr : Bool) (T : List (List Nat)) (b i : Nat) (o : Oper) (L : List (Nat × AV)) (D : List (Nat × Fx)) (v : AV) (foot : List Nat) : Bool :=
 pX C.n o && (match gN ops o (fun t => L.lookup t) with | some true => true | _ => false) && iO dr T b i D (some v) [] foot []
theorem cY {v : AV} {foot : List Nat} (hrd : rd C (mk L G lim) o.op = some ⟨some v, [], foot, []⟩) (hchk : uW C ops dr T b i o L D v foot = true) (hL : lG o.dst (some v) L = L') (hD : fM dr D i foot [] = D') (hk : RX C ops dr T b (i + 1) os D' (mk L' G lim) K) : RX C ops dr T b i (o :: os) D (mk L G lim) K := by
 subst hL hD
 simp only [uW, Bool.and_eq_true] at hchk
 obtain ⟨⟨c1, c2⟩, c3⟩ := hchk
 have hw : gN ops o (fun t => L.lookup t) = some true := by
  split at c2
  ·assumption
  ·cases c2
 refine mH (fun hi => Tv hi (s := mk L G lim) hw (dW c1) hrd) c3 ?_
 rw [iA]
 exact hk
def idxB (C : cD) (o : Oper) (L : List (Nat × AV)) : Option (List (List CV) × Int × Nat) :=
 match o.op with
 | .indexAddr T x y => match (mk L [] 0).ev C x, (mk L [] 0).ev C y, C.E.ti T with
  | some (.c (.lit l)), some (.c (.v (.int _ i))), some ⟨.sl e, _, _, _⟩ => match C.E.ti e with | some j => some (l, i, j.size) | none => none
  | some (.c (.app _ l)), some (.c (.v (.int _ i))), some ⟨.sl e, _, _, _⟩ => match C.E.ti e with | some j => some (l, i, j.size) | none => none
  | _, _, _ => none
 | _ => none
theorem dU {α : Type} {enc : α → List CV} {l : List α} {ix : Int} {e : α} {c : List CV} {sz : Nat} (he : idx l ix = some e) (h : idxB C o L = some (l.map enc, ix, sz)) (hc : enc e = c) (hlen : c.length = sz) : rd C (mk L G lim) o.op = some ⟨some (.c (.imm c)), [], [], []⟩ := by
 unfold idx at he
 split at he
 ·rename_i h0
  have hi : (l.map enc)[ix.toNat]? = some c := by rw [List.getElem?_map, he, ← hc]; rfl
  unfold idxB at h
  split at h
  ·rename_i T' x y ho
   have hx : ∀ z, (mk L G lim).ev C z = (mk L [] 0).ev C z := fun z => eN rfl z
   rw [ho]
   split at h
   ·rename_i l' k' i' e' z1 z2 z3 h1 h2 h3
    split at h
    ·rename_i j hj
     simp only [Option.some.injEq, Prod.mk.injEq] at h
     obtain ⟨rfl, rfl, rfl⟩ := h
     simp only [rd, hx, h1, h2, h3, hj, h0, if_true, hi, hlen]
     rfl
    ·cases h
   ·rename_i n' l' k' i' e' z1 z2 z3 h1 h2 h3
    split at h
    ·rename_i j hj
     simp only [Option.some.injEq, Prod.mk.injEq] at h
     obtain ⟨rfl, rfl, rfl⟩ := h
     simp only [rd, hx, h1, h2, h3, hj, h0, if_true, hi, hlen]
     rfl
    ·cases h
   ·cases h
  ·cases h
 ·cases he
def Un (C : cD) (o : Oper) (L : List (Nat × AV)) : Option (ByteArray × Int) :=
 match o.op with
 | .index T x y => match (mk L [] 0).ev C x, (mk L [] 0).ev C y, C.E.ti T with
  | some (.c (.v (.string s))), some (.c (.v (.int _ i))), some ⟨.str, _, _, _⟩ => some (s, i)
  | _, _, _ => none
 | _ => none
theorem yO {s : ByteArray} {ix u : Int} (he : Ae s ix = some u) (h : Un C o L = some (s, ix)) : rd C (mk L G lim) o.op = some ⟨some (.c (.v (.int .u8 u))), [], [], []⟩ := by
 unfold Ae at he
 split at he
 ·rename_i h0
  simp only [Option.map_eq_some_iff] at he
  obtain ⟨w, hw, rfl⟩ := he
  unfold Un at h
  split at h
  ·rename_i T' x y ho
   have hx : ∀ z, (mk L G lim).ev C z = (mk L [] 0).ev C z := fun z => eN rfl z
   rw [ho]
   split at h
   ·rename_i l' k' i' e' z1 h1 h2 h3
    simp only [Option.some.injEq, Prod.mk.injEq] at h
    obtain ⟨rfl, rfl⟩ := h
    simp only [rd, hx, h1, h2, h3, h0, if_true, hw]
    rfl
   ·cases h
  ·cases h
 ·cases he
theorem rx_sidx {s : ByteArray} {ix u : Int} (he : Ae s ix = some u) (h : Un C o L = some (s, ix)) (hchk : uW C ops dr T b i o L D (.c (.v (.int .u8 u))) [] = true) (hL : lG o.dst (some (.c (.v (.int .u8 u)))) L = L') (hD : fM dr D i [] [] = D') (hk : RX C ops dr T b (i + 1) os D' (mk L' G lim) K) : RX C ops dr T b i (o :: os) D (mk L G lim) K :=
 cY (v := .c (.v (.int .u8 u))) (foot := []) (yO he h) hchk hL hD hk
def lenB (C : cD) (o : Oper) (L : List (Nat × AV)) : Option (List (List CV)) :=
 match o.op with
 | .call ⟨.builtin .len, args, ts⟩ => match args[0]?, ts[0]? with
  | some x, some T => match (mk L [] 0).ev C x, C.E.ti T with
   | some (.c (.lit l)), some ⟨.sl _, _, _, _⟩ => some l
   | some (.c (.app _ l)), some ⟨.sl _, _, _, _⟩ => some l
   | _, _ => none
  | _, _ => none
 | _ => none
theorem mO {α : Type} {enc : α → List CV} {l : List α} (h : lenB C o L = some (l.map enc)) : rd C (mk L G lim) o.op = some ⟨some (.c (.v (.int .i64 l.length))), [], [], []⟩ := by
 unfold lenB at h
 split at h
 ·rename_i args ts ho
  have hx : ∀ z, (mk L G lim).ev C z = (mk L [] 0).ev C z := fun z => eN rfl z
  rw [ho]
  split at h
  ·rename_i x T' ha ht
   split at h
   ·rename_i l' e' z1 z2 z3 h1 h2
    obtain rfl := Option.some.inj h
    simp only [rd, ha, ht, hx, h1, h2, List.length_map]
    rfl
   ·rename_i n' l' e' z1 z2 z3 h1 h2
    obtain rfl := Option.some.inj h
    simp only [rd, ha, ht, hx, h1, h2, List.length_map]
    rfl
   ·cases h
  ·cases h
 ·cases h
def Ay (C : cD) (ops : Array Oper) (o : Oper) (L : List (Nat × AV)) : Option (FuncId × List AV) :=
 match o.op with
 | .call ⟨.value (.func F), args, _⟩ => match pX C.n o, gN ops o (fun t => L.lookup t), Up C (mk L [] 0) args.toList with
  | true, some true, some As => some (F, As)
  | _, _, _ => none
 | _ => none
theorem Ft {C : cD} {s s' : St} (h1 : s.fr = s'.fr) : ∀ l, Up C s l = Up C s' l
 | [] => rfl
 | x :: l => by simp only [Up, eN h1 x, Ft h1 l]
theorem callOk0 {nm : Nat} {H : Nat → Option bH} : Ef 0 id none nm [] [] H :=
 ⟨by simp, by simp, by simp, by simp, by simp, by simp⟩
theorem rx_call {F : FuncId} {As Bs : List AV} {r v : AV} (h : Ay C ops o L = some (F, As)) (hF : bX C.E F) (hB : xX As = some Bs) (hc : dC C.E F 0 Bs [] r []) (hr : r.pub = some v) (hchk : iO dr T b i D (some v) [] [] [] = true) (hL : lG o.dst (some v) L = L') (hD : fM dr D i [] [] = D') (hk : RX C ops dr T b (i + 1) os D' (mk L' G lim) K) : RX C ops dr T b i (o :: os) D (mk L G lim) K := by
 subst hL hD
 unfold Ay at h
 split at h
 ·rename_i F' args ts ho
  split at h
  ·rename_i As' h1 h2 h3
   simp only [Option.some.injEq, Prod.mk.injEq] at h
   obtain ⟨rfl, rfl⟩ := h
   have hA : Up C (mk L G lim) args.toList = some As' := (Ft (s := mk L G lim) (s' := mk L [] 0) rfl _).trans h3
   have hAB : xM id As' Bs := by
    have key : ∀ (As Bs : List AV), xX As = some Bs → xM id As Bs := by
     intro As
     induction As with
     | nil => intro Bs hB; simp only [xX, Option.some.injEq] at hB; subst hB; trivial
     | cons A As ih =>
      intro Bs hB
      simp only [xX] at hB
      split at hB
      ·rename_i y r hy hr
       obtain rfl := Option.some.inj hB
       refine ⟨.inl ?_, ih _ hr⟩
       cases A with
       | tup l => cases hy
       | cnd gs x => cases hy
       | c x => exact hy
       | agg l => exact hy
      ·cases hB
    exact key _ _ hB
   have := fun hi => Hn (C := C) (ops := ops) (i := i) (o := o) (s := mk L G lim) (nm := 0) hi h2 (dW h1) (args := args.toList) (ts := ts) (by simpa using ho) hF hA hAB hc callOk0 (.inl hr)
   refine mH this (by simpa [lS, Bz] using hchk) ?_
   rw [iA]
   exact hk
  ·cases h
 ·cases h
end
end Go.Bm
namespace Go.Bm
open Go
def litB (w h : Bool) : Bool := if w then h else !h
theorem Lc (w c : Bool) : (some c == some w) = litB w c := by cases w <;> cases c <;> rfl
def pN (ops : Array Oper) (o : Oper) (L : List (Nat × AV)) : Option (List Bool) :=
 match o.guard with
 | none => some []
 | some (j, w) => match (ops[j]?).bind (·.dst) with
  | none => none
  | some t => match L.lookup t with
   | some (.c (.v (.bool c))) => some [litB w c]
   | some (.cnd gs (.c (.v (.bool c)))) => some (gs ++ [litB w c])
   | _ => none
def gd {α : Type} [Inhabited α] (e : List Bool) (x : Option α) : Option α := if e.all id = true then x else some default
theorem bQ {α : Type} [Inhabited α] {e : List Bool} {x : Option α} {y : α} (h : gd e x = some y) (he : e.all id = true) : x = some y := by
 unfold gd at h; rw [if_pos he] at h; exact h
theorem zQ {C : cD} {ops : Array Oper} {o : Oper} {foot : List Nat} {L : List (Nat × AV)} {G : List (Nat × bH)} {lim : Nat} {s' : St} {U : Nat → Prop} {β : Nat → Bk} {μ : cL} {a : Act} {W : World} {e : List Bool} (h : pN ops o L = some e) (ha : uJ ops o foot (mk L G lim) s') (hr : pV C s' U β μ a W) : Region.wanted o (yielded ops a.tmps) = e.all id := by
 unfold pN at h
 unfold Region.wanted
 cases hg : o.guard with
 | none => simp only [hg, Option.some.injEq] at h; subst h; rfl
 | some p =>
  obtain ⟨j, w⟩ := p
  simp only [hg] at h ⊢
  cases ht : (ops[j]?).bind (·.dst) with
  | none => simp [ht] at h
  | some t =>
   simp only [ht] at h
   have hfr : s'.fr t = L.lookup t := ha.1 t (List.mem_append_right _ (by simp [hg, ht]))
   have hy : ∀ x, L.lookup t = some x → ∃ v, a.tmps[t]? = some v ∧ dL μ β x v := fun x hx => hr.f.den t x (hfr.trans hx)
   simp only [yielded, ht, Option.bind_some]
   split at h
   ·rename_i c hc
    obtain ⟨v, hv, hd⟩ := hy _ hc
    cases hd
    simp only [Option.some.injEq] at h
    subst h
    simp only [hv, Lc, List.all_cons, List.all_nil, Bool.and_true, id]
   ·rename_i gs c hc
    obtain ⟨v, hv, hd⟩ := hy _ hc
    simp only [Option.some.injEq] at h
    subst h
    simp only [dL] at hd
    rw [List.all_append]
    split at hd
    ·rename_i hgs
     cases hd
     simp only [hv, Lc, hgs, List.all_cons, List.all_nil, Bool.and_true, Bool.true_and, id]
    ·rename_i hgs
     subst hd
     simp only [hv]
     rw [show gs.all id = false by simpa using hgs]
     rfl
   ·cases h
abbrev Ls := List (Nat × AV × Option Nat)
def Ls.st (l : Ls) : List (Nat × AV) := l.map fun q => (q.1, q.2.1)
def Ls.want (e : List Bool) (l : Ls) : List (Option AV) := l.map fun q => some (match q.2.2 with | none => q.2.1 | some m => .cnd (e.take m) q.2.1)
def Ls.have_ (L : List (Nat × AV)) (l : Ls) : List (Option AV) := l.map fun q => L.lookup q.1
def Ls.chk (ops : Array Oper) (o : Oper) (l : Ls) : Bool := l.all fun q => (o.looksAt ops).contains q.1 && q.2.1.plain
theorem Og {μ : cL} {β : Nat → Bk} {x : AV} {v : Value} (h : uN μ β x v) : x.ments = x.ments0 := by
 cases x with
 | cnd gs x => exact h.elim
 | c x => rfl
 | agg l => rfl
 | tup l => rfl
theorem uH {C : cD} {ops : Array Oper} {o : Oper} {foot : List Nat} {L : List (Nat × AV)} {G : List (Nat × bH)} {lim : Nat} {s' : St} {U : Nat → Prop} {β : Nat → Bk} {μ : cL} {a : Act} {W : World} {e : List Bool} {l : Ls} (he : e.all id = true) (hs : l.have_ L = l.want e) (hc : l.chk ops o = true) (ha : uJ ops o foot (mk L G lim) s') (h : pV C s' U β μ a W) :
  pV C ⟨fun t => l.st.lookup t, s'.H, s'.lim⟩ U β μ a W := by
 have key : ∀ t x, l.st.lookup t = some x → (∃ v, a.tmps[t]? = some v ∧ dL μ β x v) ∧ ∀ n, n ∈ x.ments → U n := by
  intro t x hx
  obtain ⟨q, hq, hq1, hq2⟩ : ∃ q, q ∈ l ∧ q.1 = t ∧ q.2.1 = x := by
   have := gI hx
   simp only [Ls.st, List.mem_map, Prod.mk.injEq] at this
   obtain ⟨q, hq, h1, h2⟩ := this
   exact ⟨q, hq, h1, h2⟩
  obtain ⟨j, hj⟩ := List.getElem?_of_mem hq
  have hl : (l.have_ L)[j]? = some (L.lookup q.1) := by simp only [Ls.have_, List.getElem?_map, hj, Option.map_some]
  have hr : (l.want e)[j]? = some (some (match q.2.2 with | none => q.2.1 | some m => .cnd (e.take m) q.2.1)) := by simp only [Ls.want, List.getElem?_map, hj, Option.map_some]
  rw [hs, hr] at hl
  have hl := (Option.some.inj hl).symm
  have hcq := List.all_eq_true.1 hc q hq
  simp only [Bool.and_eq_true, List.contains_eq_mem, decide_eq_true_eq] at hcq
  have hfr : s'.fr t = L.lookup t := by rw [← hq1]; exact ha.1 q.1 hcq.1
  rw [hq1] at hl
  rw [← hq2]
  cases hm : q.2.2 with
  | none =>
   rw [hm] at hl
   exact ⟨h.f.den t _ (hfr.trans hl), h.f.used t _ (hfr.trans hl)⟩
  | some m =>
   rw [hm] at hl
   obtain ⟨v, hv, hd⟩ := h.f.den t _ (hfr.trans hl)
   simp only [dL] at hd
   have htake : (e.take m).all id = true := by
    rw [List.all_eq_true] at he ⊢
    exact fun x hx => he x (List.mem_of_mem_take hx)
   rw [if_pos htake] at hd
   refine ⟨⟨v, hv, Dw hd⟩, fun n hn => h.f.used t _ (hfr.trans hl) n ?_⟩
   rw [Og hd] at hn
   exact hn
 exact ⟨⟨h.f.defers, h.f.size, fun t x hx => (key t x hx).1, fun t x hx => (key t x hx).2⟩, h.w⟩
def Yf (C : cD) (o : Oper) (L : List (Nat × AV)) (G : List (Nat × bH)) (v : AV) (foot : List Nat) : Prop :=
 ∀ (s' : St) (U : Nat → Prop) (β : Nat → Bk) (μ : cL) (a : Act) (W : World), (∀ x, x ∈ o.op.operands → s'.ev C x = (mk L G 0).ev C x) → (∀ n, n ∈ foot → s'.H n = G.lookup n) → pV C s' U β μ a W →
  ∀ (Q : Exit → Act → World → Prop) (K : Act → World → Prop), (∀ μ' W' y, WR C s'.H U β μ' W' → μ.le μ' → uN μ' β v y → K (a.put o.dst y) W') → o.wp C.E.P a W K Q
theorem opW_rd {C : cD} {o : Oper} {L : List (Nat × AV)} {G : List (Nat × bH)} {v : AV} {foot : List Nat} (hp : v.plain = true) (h : rd C (mk L G 0) o.op = some ⟨some v, [], foot, []⟩) : Yf C o L G v foot := by
 obtain ⟨h1, h2, v', h3, h4⟩ := Gj h
 obtain rfl := Option.some.inj h3
 intro s' U β μ a W he hf hr Q K hK
 obtain ⟨y, hy, hd⟩ := h4 o s' U β μ a W rfl he hf hr
 unfold Oper.wp
 rw [hy]
 exact hK μ W y hr.w (cL.le_refl μ) (Na hp hd)
def mkC (e : List Bool) (v : AV) : AV := match e with | [] => v | _ => .cnd e v
theorem yG {C : cD} {ops : Array Oper} {i : Nat} {o : Oper} {L : List (Nat × AV)} {G : List (Nat × bH)} {lim : Nat} {e : List Bool} {l : Ls} {v : AV} {foot : List Nat} (hi : ops[i]? = some o) (hw : pN ops o L = some e) (hd : pX C.n o = true) (hp : v.plain = true) (hs : l.have_ L = l.want e) (hc : l.chk ops o = true) (h : e.all id = true → Yf C o l.st G v foot)
  (hall : o.op.operands.toList.all (fun x => match x with | .tmp t => l.any (fun q => q.1 == t) | _ => true) = true) : wW C ops i o (mk L G lim) (some (.cnd e v)) [] foot [] := by
 intro s' U β μ a W hag _ hm hr Q K hK
 have hd' := dW hd
 have hmv : ∀ n, n ∈ v.ments → U n := fun n hn => by
  have := hm.1 (.cnd e v) rfl n (by
   show n ∈ v.ments0
   cases v with
   | cnd gs x => cases hp
   | c x => exact hn
   | agg l => exact hn
   | tup l => exact hn)
  simpa using this
 unfold wpOp
 simp only [hi]
 rw [zQ hw hag hr]
 by_cases he : e.all id = true
 ·rw [if_pos he]
  left
  have hr2 := uH he hs hc hag hr
  refine h he ⟨fun t => l.st.lookup t, s'.H, s'.lim⟩ U β μ a W (fun x hx => ?_) (fun n hn => hag.2 n hn) hr2 Q K fun μ' W' y hwr hmu hy => hK β μ' _ W' ⟨?_, hwr.weaken fun n hn => .inl hn⟩
  ·cases x with
   | tmp t => rfl
   | _ => rfl
  ·refine (FR.put (hr.f.mono (fun _ _ => rfl) hmu) hd' fun x hx => ?_).weaken fun n hn => .inl hn
   obtain rfl := Option.some.inj hx
   refine ⟨?_, fun n hn => hmv n ?_⟩
   ·simp only [dL]; rw [if_pos he]; exact hy
   ·rw [Og hy]; exact hn
 ·rw [if_neg he]
  refine hK β μ _ W ⟨?_, hr.w.weaken fun n hn => .inl hn⟩
  refine (FR.put hr.f hd' fun x hx => ?_).weaken fun n hn => .inl hn
  obtain rfl := Option.some.inj hx
  refine ⟨?_, fun n hn => hmv n ?_⟩
  ·simp only [dL]; rw [if_neg he]; trivial
  ·cases v with
   | cnd gs x => cases hp
   | c x => exact hn
   | agg l => exact hn
   | tup l => exact hn
section
variable {C : cD} {ops : Array Oper} {dr : Bool} {T : List (List Nat)} {b i : Nat} {o : Oper} {os : List Oper} {D D' : List (Nat × Fx)} {L L' : List (Nat × AV)} {G G' : List (Nat × bH)} {lim : Nat} {K : St → Prop}
def Bp (C : cD) (ops : Array Oper) (dr : Bool) (T : List (List Nat)) (b i : Nat) (o : Oper) (D : List (Nat × Fx)) (e : List Bool) (l : Ls) (v : AV) (foot : List Nat) : Bool :=
 pX C.n o && v.plain && l.chk ops o && iO dr T b i D (some (.cnd e v)) [] foot [] && o.op.operands.toList.all (fun x => match x with | .tmp t => l.any (fun q => q.1 == t) | _ => true)
theorem kX {e : List Bool} (l : Ls) {v : AV} {foot : List Nat} (hw : pN ops o L = some e) (hs : l.have_ L = l.want e) (hchk : Bp C ops dr T b i o D e l v foot = true) (h : e.all id = true → rd C (mk l.st G 0) o.op = some ⟨some v, [], foot, []⟩) (hL : lG o.dst (some (.cnd e v)) L = L') (hD : fM dr D i foot [] = D') (hk : RX C ops dr T b (i + 1) os D' (mk L' G lim) K) : RX C ops dr T b i (o :: os) D (mk L G lim) K := by
 subst hL hD
 simp only [Bp, Bool.and_eq_true] at hchk
 obtain ⟨⟨⟨⟨c1, c2⟩, c3⟩, c4⟩, c5⟩ := hchk
 refine mH (fun hi => yG (lim := lim) hi hw c1 c2 hs c3 (fun he => opW_rd c2 (h he)) c5) c4 ?_
 rw [iA]
 exact hk
theorem opT_pick {e : List Bool} (l l1 l2 : Ls) {c x y : Operand} (ho : o.op = .pick c x y) {g : Bool} {vx vy z : Value} (hi : ops[i]? = some o) (hw : pN ops o L = some e) (hd : pX C.n o = true)
  (hs : l.have_ L = l.want e) (hs1 : l1.have_ L = l1.want (e ++ [g])) (hs2 : l2.have_ L = l2.want (e ++ [!g])) (hc : l.chk ops o = true) (hc1 : l1.chk ops o = true) (hc2 : l2.chk ops o = true)
  (h0 : (mk l.st G 0).ev C c = some (.c (.v (.bool g)))) (h1 : (mk l1.st G 0).ev C x = some (.c (.v vx))) (h2 : (mk l2.st G 0).ev C y = some (.c (.v vy))) (hz1 : g = true → z = vx) (hz2 : g = false → z = vy) : wW C ops i o (mk L G lim) (some (mkC e (.c (.v z)))) [] [] [] := by
 intro s' U β μ a W hag _ hm hr Q K hK
 have hd' := dW hd
 have hmz : ∀ n, n ∈ (mkC e (.c (.v z))).ments → U n := fun n hn => by
  unfold mkC at hn
  split at hn <;> simp [AV.ments, AV.ments0, AV.ments1, CV.ments, CV.ments1] at hn
 have hev : ∀ (l : Ls) (x : Operand), (mk l.st G 0).ev C x = St.ev C ⟨fun t => l.st.lookup t, s'.H, s'.lim⟩ x := fun l x => by cases x <;> rfl
 unfold wpOp
 simp only [hi]
 rw [zQ hw hag hr]
 by_cases he : e.all id = true
 ·rw [if_pos he]
  left
  have e1 := dY (St.ev_den (uH he hs hc hag hr) ((hev l c).symm.trans h0))
  have e2 : a.eval (if g then x else y) = z := by
   cases hg : g with
   | true =>
    rw [hz1 hg]
    exact dY (St.ev_den (uH (by rw [List.all_append, he, hg]; rfl) hs1 hc1 hag hr) ((hev l1 x).symm.trans h1))
   | false =>
    rw [hz2 hg]
    exact dY (St.ev_den (uH (by rw [List.all_append, he, hg]; rfl) hs2 hc2 hag hr) ((hev l2 y).symm.trans h2))
  unfold Oper.wp
  have hrun : (execOp a.eval o).run C.E.P W = .ok (.value z) W := by
   simp only [execOp, ho, e1, asBool]
   rw [← e2]
   cases g <;> rfl
  rw [hrun]
  refine hK β μ _ W ⟨?_, hr.w.weaken fun n hn => .inl hn⟩
  refine (FR.put hr.f hd' fun q hq => ?_).weaken fun n hn => .inl hn
  obtain rfl := Option.some.inj hq
  refine ⟨?_, hmz⟩
  unfold mkC
  split
  ·exact .v z
  ·simp only [dL]; rw [if_pos he]; exact .v z
 ·rw [if_neg he]
  refine hK β μ _ W ⟨?_, hr.w.weaken fun n hn => .inl hn⟩
  refine (FR.put hr.f hd' fun q hq => ?_).weaken fun n hn => .inl hn
  obtain rfl := Option.some.inj hq
  refine ⟨?_, hmz⟩
  unfold mkC
  split
  ·exact absurd rfl he
  ·simp only [dL]; rw [if_neg he]; trivial
def Pq (C : cD) (o : Oper) (l l1 l2 : Ls) : Option (Bool × Value × Value) :=
 match o.op with
 | .pick c x y => match (mk l.st [] 0).ev C c, (mk l1.st [] 0).ev C x, (mk l2.st [] 0).ev C y with
  | some (.c (.v (.bool g))), some (.c (.v vx)), some (.c (.v vy)) => some (g, vx, vy)
  | _, _, _ => none
 | _ => none
def Fm (C : cD) (ops : Array Oper) (dr : Bool) (T : List (List Nat)) (b i : Nat) (o : Oper) (D : List (Nat × Fx)) (l l1 l2 : Ls) : Bool :=
 pX C.n o && l.chk ops o && l1.chk ops o && l2.chk ops o && iO dr T b i D none [] [] []
theorem rx_pick {e : List Bool} (l l1 l2 : Ls) {g : Bool} {vx vy z : Value} {v : AV} (hw : pN ops o L = some e) (hs : l.have_ L = l.want e) (hp : Pq C o l l1 l2 = some (g, vx, vy)) (hs1 : l1.have_ L = l1.want (e ++ [g])) (hs2 : l2.have_ L = l2.want (e ++ [!g])) (hchk : Fm C ops dr T b i o D l l1 l2 = true)
  (hz1 : g = true → z = vx) (hz2 : g = false → z = vy) (hv : mkC e (.c (.v z)) = v) (hL : lG o.dst (some v) L = L') (hD : fM dr D i [] [] = D') (hk : RX C ops dr T b (i + 1) os D' (mk L' G lim) K) : RX C ops dr T b i (o :: os) D (mk L G lim) K := by
 subst hL hD hv
 simp only [Fm, Bool.and_eq_true] at hchk
 obtain ⟨⟨⟨⟨c1, c2⟩, c3⟩, c4⟩, c5⟩ := hchk
 unfold Pq at hp
 split at hp
 ·rename_i c x y ho
  split at hp
  ·rename_i g' vx' vy' p1 p2 p3
   simp only [Option.some.injEq, Prod.mk.injEq] at hp
   obtain ⟨rfl, rfl, rfl⟩ := hp
   have hev : ∀ (l : Ls) (x : Operand), (mk l.st G 0).ev C x = (mk l.st [] 0).ev C x := fun l x => eN rfl x
   refine mH (fun hi => opT_pick (lim := lim) l l1 l2 ho hi hw c1 hs hs1 hs2 c2 c3 c4 ((hev l c).trans p1) ((hev l1 x).trans p2) ((hev l2 y).trans p3) hz1 hz2) ?_ ?_
   ·have : iO dr T b i D (some (mkC e (.c (.v z)))) [] [] [] = iO dr T b i D none [] [] [] := by
     have hm : (mkC e (.c (.v z))).ments = [] := by unfold mkC; split <;> rfl
     unfold iO
     simp only [hm, List.all_nil]
    rw [this]; exact c5
   ·rw [iA]
    exact hk
  ·cases hp
 ·cases hp
end
end Go.Bm
namespace Go.Bm
open Go
abbrev I (n : Int) : CV := .v (.int .i64 n)
abbrev U8 (n : Int) : CV := .v (.int .u8 n)
abbrev I32 (n : Int) : CV := .v (.int .i32 n)
abbrev Bo (b : Bool) : CV := .v (.bool b)
abbrev Sx (s : ByteArray) : CV := .v (.string s)
abbrev bV : CV := .v (.slice none 0 0)
def aL (n : Int) : List CV := [I n]
def Ye (n : Int) : List CV := [U8 n]
def pU (n : Int) : List CV := [I32 n]
def eB (b : Bool) : List CV := [Bo b]
def eS (s : ByteArray) : List CV := [Sx s]
def eL {α : Type} (e : α → List CV) (l : List α) : List CV := [.lit (List.map e l)]
def eM {α β : Type} (k : α → Value) (e : β → List CV) (p : α × β) : Value × List CV := (k p.1, e p.2)
section
variable {C : cD} {ops : Array Oper} {dr : Bool} {T : List (List Nat)} {b i : Nat} {o : Oper} {os : List Oper} {D D' : List (Nat × Fx)} {L L' : List (Nat × AV)} {G G' : List (Nat × bH)} {lim : Nat} {K : St → Prop}
def vV (k : Nat) (σ : List (Nat × Nat)) (Gc Gf : List (Nat × bH)) : Bool :=
 (Gc.map (·.1) == List.range k) && zZ ((List.range k).map (eA σ)) && Gf.all (fun p => p.2.ments.all fun m => decide (m < k))
theorem Db {k : Nat} {σ : List (Nat × Nat)} {Gc Gf : List (Nat × bH)} {H : Nat → Option bH} (h : vV k σ Gc Gf = true) (ho : Gc.map (fun p => H (eA σ p.1)) = Gc.map (fun p => some (p.2.ren (eA σ)))) : Ef k (eA σ) none 0 Gc Gf H := by
 simp only [vV, Bool.and_eq_true, beq_iff_eq] at h
 obtain ⟨⟨h1, h2⟩, h3⟩ := h
 refine ⟨fun p hp => ?_, fun n => ?_, fun n m hn hm he => ?_, fun p hp m hm => ?_, by simp, by simp⟩
 ·obtain ⟨j, hj⟩ := List.getElem?_of_mem hp
  have := congrArg (fun l => l[j]?) ho
  simpa only [List.getElem?_map, hj, Option.map_some, Option.some.injEq] using this
 ·have key : ∀ (L : List (Nat × bH)), n ∈ L.map (·.1) ↔ ∃ o, L.lookup n = some o := by
   intro L
   induction L with
   | nil => simp
   | cons p L ih =>
    rw [List.lookup_cons]
    by_cases e : n = p.1
    ·simp [e]
    ·have e1 : (n == p.1) = false := by simpa using e
     rw [e1, ← ih]; simp [e]
  rw [← key, h1]; simp
 ·have hd := tK h2
  rw [List.pairwise_map] at hd
  by_cases e : n = m
  ·exact e
  ·exfalso
   rcases Nat.lt_or_gt_of_ne e with hlt | hlt
   ·have := List.pairwise_iff_getElem.1 hd n m (by simpa using hn) (by simpa using hm) hlt
    simp only [List.getElem_range] at this
    exact this he
   ·have := List.pairwise_iff_getElem.1 hd m n (by simpa using hm) (by simpa using hn) hlt
    simp only [List.getElem_range] at this
    exact this he.symm
 ·have := List.all_eq_true.1 (List.all_eq_true.1 h3 p hp) m hm
  exact .inl (by simpa using this)
theorem Ym {F : FuncId} {As Bs : List AV} {σ : List (Nat × Nat)} {k : Nat} {Gc Gf : List (Nat × bH)} {r v : AV} (h : Ay C ops o L = some (F, As)) (hF : bX C.E F) (hB : xM (eA σ) As Bs) (hc : dC C.E F k Bs Gc r Gf) (hok : vV k σ Gc Gf = true) (ho : Gc.map (fun p => G.lookup (eA σ p.1)) = Gc.map (fun p => some (p.2.ren (eA σ)))) (hr : r.pub = some v)
  (hchk : iO dr T b i D (some v) (lS (eA σ) Gc Gf none) (Gc.map fun p => eA σ p.1) [] = true) (hL : lG o.dst (some v) L = L') (hG : uE (lS (eA σ) Gc Gf none) G = G') (hD : fM dr D i (Gc.map fun p => eA σ p.1) (lS (eA σ) Gc Gf none) = D') (hk : RX C ops dr T b (i + 1) os D' (mk L' G' lim) K) : RX C ops dr T b i (o :: os) D (mk L G lim) K := by
 subst hL hD hG
 unfold Ay at h
 split at h
 ·rename_i F' args ts ho'
  split at h
  ·rename_i As' h1 h2 h3
   simp only [Option.some.injEq, Prod.mk.injEq] at h
   obtain ⟨rfl, rfl⟩ := h
   have hA : Up C (mk L G lim) args.toList = some As' := (Ft (s := mk L G lim) (s' := mk L [] 0) rfl _).trans h3
   have := fun hi => Hn (C := C) (ops := ops) (i := i) (o := o) (s := mk L G lim) (nm := 0) hi h2 (dW h1) (args := args.toList) (ts := ts) (by simpa using ho') hF hA hB hc (Db hok ho) (.inl hr)
   refine mH this (by simpa [Bz] using hchk) ?_
   rw [iA]
   exact hk
  ·cases h
 ·cases h
end
end Go.Bm
namespace Go.Bm
open Go
theorem xZ {α : Type} {sz : Nat} : ∀ {l : List (List α)}, (∀ e, e ∈ l → e.length = sz) → ∀ (i j : Nat) (e : List α) (x : α), l[i]? = some e → e[j]? = some x → l.flatten[i * sz + j]? = some x
 | [], _, i, j, e, x, hi, _ => by simp at hi
 | d :: l, h, 0, j, e, x, hi, hj => by
  simp only [List.getElem?_cons_zero, Option.some.injEq] at hi
  subst hi
  rw [List.flatten_cons, Nat.zero_mul, Nat.zero_add, List.getElem?_append_left (List.getElem?_eq_some_iff.1 hj).1]
  exact hj
 | d :: l, h, i + 1, j, e, x, hi, hj => by
  have hd := h d (List.mem_cons_self ..)
  rw [List.flatten_cons, List.getElem?_append_right (by rw [hd, Nat.add_mul]; omega), hd, show (i + 1) * sz + j - sz = i * sz + j by rw [Nat.add_mul]; omega]
  exact xZ (fun e he => h e (List.mem_cons_of_mem _ he)) i j e x (by simpa using hi) hj
theorem xD {α : Type} {sz : Nat} : ∀ {l : List (List α)}, (∀ e, e ∈ l → e.length = sz) → l.flatten.length = l.length * sz
 | [], _ => by simp
 | d :: l, h => by rw [List.flatten_cons, List.length_append, h d (List.mem_cons_self ..), xD fun e he => h e (List.mem_cons_of_mem _ he), List.length_cons, Nat.add_mul]; omega
theorem Tk {sz : Nat} (hsz : 0 < sz) {l : List (List CV)} (h : ∀ e, e ∈ l → e.length = sz) {p : Nat} {x : CV} (hp : l.flatten[p]? = some x) : ∃ e, l[p / sz]? = some e ∧ e[p % sz]? = some x := by
 have hlt : p < l.length * sz := by rw [← xD h]; exact (List.getElem?_eq_some_iff.1 hp).1
 have hi : p / sz < l.length := Nat.div_lt_of_lt_mul (by rw [Nat.mul_comm]; exact hlt)
 have he := List.getElem?_eq_getElem hi
 have hm := h _ (List.getElem_mem hi)
 have hj : p % sz < (l[p / sz]).length := by rw [hm]; exact Nat.mod_lt _ hsz
 refine ⟨_, he, ?_⟩
 have := xZ h (p / sz) (p % sz) _ _ he (List.getElem?_eq_getElem hj)
 rw [show p / sz * sz + p % sz = p by rw [Nat.mul_comm]; exact Nat.div_add_mod p sz, hp] at this
 rw [List.getElem?_eq_getElem hj, this]
theorem yT {μ : cL} {l : List (List CV)} {y : Value} {sz : Nat} (hsz : 0 < sz) (hl : ∀ e, e ∈ l → e.length = sz) (h : cQ μ (.lit l) y) : ∃ (a : Option Addr) (c : Nat) (us : List Value), y = .slice a l.length c ∧ us.length = l.length * sz ∧ (l ≠ [] → ∃ b off, a = some ⟨b, off, none⟩ ∧ ∀ p u, us[p]? = some u → μ.c b (off + p) = some u) ∧
  (∀ u, u ∈ us → u.oneCell' = true) ∧ ∀ (p : Nat) (x : CV), l.flatten[p]? = some x → ∃ u, us[p]? = some u ∧ cQ μ x u := by
 cases h with
 | nil a c => exact ⟨a, c, [], rfl, by simp, by simp, by simp, by simp⟩
 | lit l b off c sz' w hc hz hw hd =>
  by_cases h0 : l = []
  ·subst h0; exact ⟨_, c, [], rfl, by simp, by simp, by simp, by simp⟩
  ·have hsz' : sz' = sz := by
    obtain ⟨e, l', rfl⟩ := List.exists_cons_of_ne_nil h0
    exact (hz 0 e rfl).symm.trans (hl e (List.mem_cons_self ..))
   subst hsz'
   have key : ∀ (p : Nat) (x : CV), l.flatten[p]? = some x → μ.c b (off + p) = some (w (p / sz') (p % sz')) ∧ (w (p / sz') (p % sz')).oneCell' = true ∧ cQ μ x (w (p / sz') (p % sz')) := by
    intro p x hp
    obtain ⟨e, he, hx⟩ := Tk hsz hl hp
    have := hw _ _ e x he hx
    rw [show off + p / sz' * sz' + p % sz' = off + p by rw [Nat.add_assoc, Nat.mul_comm, Nat.div_add_mod]] at this
    exact ⟨this.1, this.2, hd _ _ e x he hx⟩
   have hlen := xD hl
   refine ⟨_, c, (List.range (l.length * sz')).map fun p => w (p / sz') (p % sz'), rfl, by simp, fun _ => ⟨b, off, rfl, fun p u hu => ?_⟩, fun u hu => ?_, fun p x hp => ?_⟩
   ·rw [List.getElem?_map] at hu
    simp only [Option.map_eq_some_iff] at hu
    obtain ⟨q, hq, rfl⟩ := hu
    obtain ⟨hq1, hq2⟩ := List.getElem?_eq_some_iff.1 hq
    simp at hq1 hq2
    subst hq2
    obtain ⟨x, hx⟩ : ∃ x, l.flatten[p]? = some x := ⟨_, List.getElem?_eq_getElem (by omega)⟩
    exact (key p x hx).1
   ·obtain ⟨p, hp, rfl⟩ := List.mem_map.1 hu
    obtain ⟨x, hx⟩ : ∃ x, l.flatten[p]? = some x := ⟨_, List.getElem?_eq_getElem (by rw [hlen]; simpa using hp)⟩
    exact (key p x hx).2.1
   ·have hlt := (List.getElem?_eq_some_iff.1 hp).1
    exact ⟨_, by rw [List.getElem?_map, List.getElem?_range (by omega)]; rfl, (key p x hp).2.2⟩
theorem sA (k : Bk) (len : Nat) : (k.sl len).ownBlock = if k.nil then none else some k.blk := by
 unfold Bk.sl; split <;> rfl
theorem Px {E : oT} {μ : cL} {W : World} {T e ty : TypeId} {j : TI} {z1 z2 : Nat} {z3 : List Value} (hT : E.ti T = some ⟨.sl e, z1, z2, z3⟩) (hj : E.ti e = some j) (hpos : 0 < j.size) (hz : j.zero.length = j.size) (himm : fQ μ W) {k : Bk} {l els : List (List CV)} {y : Value}
  (hown : (k.nil = true ∧ l = []) ∨ (k.nil = false ∧ (∃ vs : Array Value, W.heap[k.blk]? = some (.cells vs e (0, 0)) ∧ vs.size = k.cap * j.size ∧ k.cap ≤ maxLen ∧ l.length ≤ k.cap) ∧ ∀ i, l.length * j.size ≤ i → μ.c k.blk i = none))
  (hv : cQ μ (.lit l) (k.sl l.length)) (hy : cQ μ (.lit els) y) (hlen : ∀ x, x ∈ l ++ els → x.length = j.size) (h63 : l.length + els.length ≤ maxLen) (hbytes : (l.length + els.length) * j.bytes ≤ 140737488355328) (hkm : k.nil = false → μ.m k.blk = none) :
  ∃ (v' : Value) (W' : World) (k' : Bk) (μ' : cL), (Builtin.append_ #[T, T] ty #[k.sl l.length, y]).run E.P W = .ok v' W' ∧ v' = k'.sl (l ++ els).length ∧ cQ μ' (.lit (l ++ els)) v' ∧
   ((k'.nil = true ∧ (l ++ els).length = 0) ∨ (k'.nil = false ∧ ∃ vs : Array Value, W'.heap[k'.blk]? = some (.cells vs e (0, 0)) ∧ vs.size = k'.cap * j.size ∧ k'.cap ≤ maxLen ∧ (l ++ els).length ≤ k'.cap)) ∧
   (k'.nil = false → μ'.m k'.blk = none ∧ ∀ i, (l ++ els).length * j.size ≤ i → μ'.c k'.blk i = none) ∧ fQ μ' W' ∧ jK μ μ' (if k'.nil then none else some k'.blk) ∧ (k'.nil = false → W.heap.size ≤ k'.blk ∨ (k.nil = false ∧ k.blk = k'.blk)) ∧
   W'.os = W.os ∧ W'.tape = W.tape ∧ W'.output = W.output ∧ W.heap.size ≤ W'.heap.size ∧ ∀ b, b < W.heap.size → (k.nil = false → b ≠ k.blk) → W'.heap[b]? = W.heap[b]? := by
 have hl1 : ∀ x, x ∈ l → x.length = j.size := fun x hx => hlen x (List.mem_append_left _ hx)
 have hl2 : ∀ x, x ∈ els → x.length = j.size := fun x hx => hlen x (List.mem_append_right _ hx)
 obtain ⟨inf, i1, i2, i3, zv, i4, i5, _⟩ := (E.ok e j hj).info
 have hu : E.P.underlying T = some (.slice e) := (E.ok T _ hT).k
 have hzs : zv.cells.size = j.size := by rw [← hz, ← i5]; simp
 obtain ⟨a1, c1, xs, e1, x1, x2, x3, x4⟩ := yT hpos hl1 hv
 obtain ⟨a2, c2, us, rfl, u1, u2, u3, u4⟩ := yT hpos hl2 hy
 have hrow : W.ownsRow 0 e j.size (k.sl l.length) l.length xs := by
  refine ⟨x1, ?_⟩
  rcases hown with ⟨h0, rfl⟩ | ⟨h0, ⟨vs, h1, h2, h3, h4⟩, h5⟩
  ·exact .inl ⟨by unfold Bk.sl; rw [if_pos h0], rfl⟩
  ·refine .inr ⟨k.blk, k.cap, vs, by unfold Bk.sl; rw [if_neg (by simp [h0])], Nat.zero_le _, h1, h4, h3, h2, ?_⟩
   have hle : l.length * j.size ≤ vs.size := by rw [h2]; exact Nat.mul_le_mul_right _ h4
   refine List.ext_getElem? fun p => ?_
   rw [List.getElem?_take]
   by_cases hp : p < l.length * j.size
   ·rw [if_pos hp]
    have hne : l ≠ [] := by rintro rfl; simp at hp
    obtain ⟨b, off, ha, hb⟩ := x2 hne
    have : b = k.blk ∧ off = 0 := by
     rw [ha] at e1
     unfold Bk.sl at e1
     rw [if_neg (by simp [h0])] at e1
     injection e1 with e2 _ _
     injection e2 with e2
     injection e2 with e3 e4
     exact ⟨e3.symm, e4.symm⟩
    obtain ⟨rfl, rfl⟩ := this
    obtain ⟨u, hu'⟩ : ∃ u, xs[p]? = some u := ⟨_, List.getElem?_eq_getElem (by omega)⟩
    have hc := uZ himm (hb p u hu')
    rw [Nat.zero_add, vY h1] at hc
    rw [hu', Array.getElem?_toList, hc]
   ·rw [if_neg hp, List.getElem?_eq_none (by omega)]
 have grew : ∀ (ad : Addr) (m c : Nat) (news : List Value) (v' : Value) (w' : World), news.length = m * j.size → (∀ p u, news[p]? = some u → W.cell? (ad.add p) = some u) → (∀ u, u ∈ news → u.oneCell' = true) → l.length + m ≤ maxLen → (l.length + m) * j.bytes ≤ 140737488355328 →
   (Builtin.append_ #[T, T] ty #[k.sl l.length, .slice (some ad) m c]).run E.P W = .ok v' w' → W.grownBy w' (k.sl l.length).ownBlock → v'.ownBlock = some W.heap.size → ∀ b, b < W.heap.size → w'.heap[b]? = W.heap[b]? := by
  intro ad m c news v' w' hnl hnews hone hm1 hm2 hrun hg hat b hb
  rcases hown with ⟨h0, rfl⟩ | ⟨h0, ⟨vs, h1, h2, h3, h4⟩, h5⟩
  ·exact hg.block b hb (by rw [sA, h0]; simp)
  ·have hks : k.sl l.length = .slice (some ⟨k.blk, 0, none⟩) l.length k.cap := by unfold Bk.sl; rw [if_neg (by simp [h0])]
   have hklt : k.blk < W.heap.size := (Array.getElem?_eq_some_iff.1 h1).1
   rw [hks] at hrun
   have hnl' : news.length = m * inf.size := by rw [i2]; exact hnl
   by_cases hroom : l.length + m ≤ k.cap
   ·have hfit : l.length * inf.size + news.length ≤ vs.size := by rw [hnl', h2, i2, ← Nat.add_mul]; exact Nat.mul_le_mul_right _ hroom
    have := run_append_room (P := E.P) W T ty e inf hu i1 k.blk l.length k.cap vs h1 ad m c news hnl' hnews hone hroom hfit
    rw [hrun] at this
    injection this with e1 e2
    subst e1
    simp only [Value.ownBlock, Option.some.injEq] at hat
    omega
   ·have holds : ∀ p u, xs[p]? = some u → W.cell? ((⟨k.blk, 0, none⟩ : Addr).add p) = some u := (hks ▸ hrow).cells (g := k.blk) rfl
    have := run_append_grow (P := E.P) W T ty e inf zv hu i1 i4 ⟨k.blk, 0, none⟩ l.length k.cap xs (by rw [i2]; exact x1) holds ad m c news hnl' hnews (by omega) (by simp only [maxLen] at hm1; omega) (growslice_fits (by omega) (by rw [i3]; exact hm2))
    rw [hrun] at this
    injection this with e1 e2
    rw [e2]
    rw [heap_alloc_old]
    ·rfl
    ·simpa using hb
 have main : ∃ v' w', (Builtin.append_ #[T, T] ty #[k.sl l.length, .slice a2 els.length c2]).run E.P W = .ok v' w' ∧ w'.ownsRow 0 e j.size v' (l.length + els.length) (xs ++ us) ∧ W.grownBy w' (k.sl l.length).ownBlock ∧ (v'.ownBlock = (k.sl l.length).ownBlock ∨ (v'.ownBlock = some W.heap.size ∧ ∀ b, b < W.heap.size → w'.heap[b]? = W.heap[b]?)) := by
  by_cases hne : els = []
  ·subst hne
   have hus : us = [] := List.eq_nil_of_length_eq_zero (by simpa using u1)
   subst hus
   cases a2 with
   | none =>
    refine ⟨k.sl l.length, W, ?_, ?_, ⟨rfl, rfl, rfl, Nat.le_refl _, fun _ _ _ => rfl⟩, .inl rfl⟩
    ·rcases hown with ⟨h0, rfl⟩ | ⟨h0, ⟨vs, _, _, _, h4⟩, _⟩
     ·unfold Bk.sl
      rw [if_pos h0]
      simp [Builtin.append_, run_underlying hu, sizeOf, typeInfo, i1, Builtin.lenOf, Builtin.firstCells]
     ·unfold Bk.sl
      rw [if_neg (by simp [h0])]
      simp [Builtin.append_, run_underlying hu, sizeOf, typeInfo, i1, Builtin.lenOf, Builtin.firstCells, h4, storeCells]
    ·simpa using hrow
   | some ad =>
    obtain ⟨v', w', h1, h2, h3, _, h4⟩ := run_append_own_at (P := E.P) W 0 T ty e inf zv j.size j.bytes hu i1 i4 i2 i3 hzs hpos _ _ xs hrow ad 0 c2 [] (by simp) (by simp) (by simp) (by simpa using h63) (by simpa using hbytes) (Nat.zero_le _)
    exact ⟨v', w', h1, h2, h3, h4.imp id fun h5 => ⟨h5, grew ad 0 c2 [] v' w' (by simp) (by simp) (by simp) (by simpa using h63) (by simpa using hbytes) h1 h3 h5⟩⟩
  ·obtain ⟨b, off, rfl, hb⟩ := u2 hne
   have hnews : ∀ p u, us[p]? = some u → W.cell? ((⟨b, off, none⟩ : Addr).add p) = some u := fun p u hu' => by rw [rJ]; exact uZ himm (hb p u hu')
   obtain ⟨v', w', h1, h2, h3, _, h4⟩ := run_append_own_at (P := E.P) W 0 T ty e inf zv j.size j.bytes hu i1 i4 i2 i3 hzs hpos _ _ xs hrow ⟨b, off, none⟩ els.length c2 us u1 hnews (fun u hu' => u3 u hu') h63 hbytes (Nat.zero_le _)
   exact ⟨v', w', h1, h2, h3, h4.imp id fun h5 => ⟨h5, grew _ _ c2 us v' w' u1 hnews (fun u hu' => u3 u hu') h63 hbytes h1 h3 h5⟩⟩
 obtain ⟨v', W', hrun, ⟨hxl, hrow'⟩, hg, hat⟩ := main
 have hfl : ∀ (p : Nat) (x : CV), (l ++ els).flatten[p]? = some x → ∃ u, (xs ++ us)[p]? = some u ∧ u.oneCell' = true ∧ cQ μ x u := by
  intro p x hp
  rw [List.flatten_append] at hp
  by_cases hlt : p < l.flatten.length
  ·rw [List.getElem?_append_left hlt] at hp
   obtain ⟨u, h1, h2⟩ := x4 p x hp
   exact ⟨u, by rw [List.getElem?_append_left (by rw [x1, ← xD hl1]; exact hlt)]; exact h1, x3 u (List.mem_of_getElem? h1), h2⟩
  ·rw [List.getElem?_append_right (by omega)] at hp
   obtain ⟨u, h1, h2⟩ := u4 _ x hp
   refine ⟨u, ?_, u3 u (List.mem_of_getElem? h1), h2⟩
   have := xD hl1
   rw [List.getElem?_append_right (by omega), x1, ← this]; exact h1
 have hfr : ∀ b, b < W.heap.size → (k.nil = false → b ≠ k.blk) → W'.heap[b]? = W.heap[b]? := fun b hb hne => hg.block b hb (by
  rw [sA]
  split
  ·simp
  ·rename_i h0
   intro he
   exact hne (by simpa using h0) (Option.some.inj he))
 rcases hrow' with ⟨rfl, h0⟩ | ⟨g, cap, cur, rfl, _, hh, hnc, hcm, hcs, htk⟩
 ·have hl0 : l = [] := List.eq_nil_of_length_eq_zero (by omega)
  have he0 : els = [] := List.eq_nil_of_length_eq_zero (by omega)
  subst hl0 he0
  have hknil : k.nil = true := by
   cases hq : k.nil with
   | true => rfl
   | false =>
    rw [sA, hq] at hat
    rcases hat with hat | ⟨hat, _⟩ <;> simp [Value.ownBlock] at hat
  refine ⟨.slice none 0 0, W', ⟨0, 0, true, 0⟩, μ, hrun, rfl, .nil none 0, .inl ⟨rfl, rfl⟩, fun h => by simp at h, ?_, jK.refl μ _, fun h => by simp at h, hg.os, hg.tape, hg.output, hg.size, hfr⟩
  exact himm.ext fun b hb => hfr b hb (by simp [hknil])
 ·have hbk : (W.heap.size ≤ g ∧ ∀ b, b < W.heap.size → W'.heap[b]? = W.heap[b]?) ∨ (k.nil = false ∧ k.blk = g) := by
   rw [sA] at hat
   rcases hat with hat | ⟨hat, hsame⟩
   ·right
    cases hq : k.nil with
    | true => rw [hq] at hat; simp [Value.ownBlock] at hat
    | false => rw [hq] at hat; simp [Value.ownBlock] at hat; exact ⟨rfl, hat.symm⟩
   ·left
    simp [Value.ownBlock] at hat
    exact ⟨by omega, hsame⟩
  have hxl' : (xs ++ us).length = (l.length + els.length) * j.size := hxl
  have hcell : ∀ p u, (xs ++ us)[p]? = some u → cur[p]? = some u := fun p u hp => by
   rw [← htk, List.getElem?_take] at hp
   split at hp
   ·rw [Array.getElem?_toList] at hp; exact hp
   ·cases hp
  have hold : ∀ i v, μ.c g i = some v → cur[i]? = some v ∧ i < l.length * j.size := fun i v hi => by
   rcases hbk with ⟨hge, _⟩ | ⟨h0, rfl⟩
   ·have := qO himm hi; omega
   ·rcases hown with ⟨h1, _⟩ | ⟨_, ⟨vs, h1, h2, h3, h4⟩, h5⟩
    ·rw [h0] at h1; cases h1
    ·have hlt : i < l.length * j.size := by
      rcases Nat.lt_or_ge i (l.length * j.size) with h | h
      ·exact h
      ·rw [h5 i h] at hi; cases hi
     refine ⟨?_, hlt⟩
     have hne : l ≠ [] := by rintro rfl; simp at hlt
     obtain ⟨b, off, ha, hb⟩ := x2 hne
     have : b = k.blk ∧ off = 0 := by
      rw [ha] at e1
      unfold Bk.sl at e1
      rw [if_neg (by simp [h0])] at e1
      injection e1 with e2 _ _
      injection e2 with e2
      injection e2 with e3 e4
      exact ⟨e3.symm, e4.symm⟩
     obtain ⟨rfl, rfl⟩ := this
     obtain ⟨u, hu'⟩ : ∃ u, xs[i]? = some u := ⟨_, List.getElem?_eq_getElem (by omega)⟩
     have := hb i u hu'
     rw [Nat.zero_add, hi] at this
     rw [Option.some.inj this]
     exact hcell i u (by rw [List.getElem?_append_left (by omega)]; exact hu')
  have hgr : jK μ (fY μ g (fun i => (xs ++ us)[i]?)) (some g) := sW fun i v hi => by
   cases hq : μ.c g i with
   | none => exact .inl rfl
   | some v' =>
    have := (hold i v' hq).1
    rw [hcell i v hi] at this
    exact .inr this.symm
  have himm' : fQ (fY μ g (fun i => (xs ++ us)[i]?)) W' := by
   refine ⟨fun b i v hb => ?_, fun b es clk hb => ?_⟩
   ·by_cases hbe : b = g
    ·subst hbe
     simp only [fY, if_true] at hb
     refine ⟨cur, e, (0, 0), hh, ?_⟩
     split at hb
     ·rename_i w hw; rw [← hb]; exact hcell i w hw
     ·exact (hold i v hb).1
    ·simp only [fY, if_neg hbe] at hb
     have hlt := qO himm hb
     have : W'.heap[b]? = W.heap[b]? := by
      rcases hbk with ⟨_, hs⟩ | ⟨_, h2⟩
      ·exact hs b hlt
      ·exact hfr b hlt fun _ hb' => hbe (hb'.trans h2)
     rw [this]
     exact himm.c b i v hb
   ·have hb' : μ.m b = some (es, clk) := hb
    have hlt := tH himm hb'
    rw [hfr b hlt fun h0 hbk' => ?_]
    ·exact himm.m b es clk hb'
    ·rw [hbk', hkm h0] at hb'; cases hb'
  have hlen2 : (l ++ els).length = l.length + els.length := List.length_append
  refine ⟨_, W', ⟨g, cap, false, 0⟩, fY μ g (fun i => (xs ++ us)[i]?), hrun, by rw [hlen2]; rfl, ?_, .inr ⟨rfl, cur, hh, hcs, hcm, by rw [hlen2]; exact hnc⟩, fun _ => ⟨?_, fun i hi => ?_⟩, himm', hgr, fun _ => ?_, hg.os, hg.tape, hg.output, hg.size, hfr⟩
  ·have := cQ.lit (μ := fY μ g (fun i => (xs ++ us)[i]?)) (l ++ els) g 0 cap j.size (fun i p => (xs ++ us).getD (i * j.size + p) undef) (by rw [hlen2]; exact hnc) (fun i x hx => hlen x (List.mem_of_getElem? hx)) (fun i p x y hx hy => ?_) (fun i p x y hx hy => ?_)
   ·rw [hlen2] at this; exact this
   ·obtain ⟨u, h1, h2, h3⟩ := hfl _ y (xZ hlen i p x y hx hy)
    have e1 : (xs ++ us).getD (i * j.size + p) undef = u := by rw [List.getD_eq_getElem?_getD, h1]; rfl
    rw [e1, Nat.zero_add]
    exact ⟨by simp only [fY, if_true, h1], h2⟩
   ·obtain ⟨u, h1, h2, h3⟩ := hfl _ y (xZ hlen i p x y hx hy)
    have e1 : (xs ++ us).getD (i * j.size + p) undef = u := by rw [List.getD_eq_getElem?_getD, h1]; rfl
    rw [e1]
    exact h3.mono hgr.le
  ·show μ.m g = none
   rcases hbk with ⟨hge, _⟩ | ⟨h0, rfl⟩
   ·cases hq : μ.m g with
    | none => rfl
    | some x => have := tH himm hq; omega
   ·exact hkm h0
  ·simp only [fY, if_true]
   rw [List.getElem?_eq_none (by rw [hxl']; rw [hlen2] at hi; exact hi)]
   show μ.c g i = none
   cases hq : μ.c g i with
   | none => rfl
   | some v =>
    have := (hold i v hq).2
    rw [hlen2, Nat.add_mul] at hi
    omega
  ·rcases hbk with ⟨hge, _⟩ | h
   ·exact .inl hge
   ·exact .inr h
def Th (nm : Nat) (e sz k : Nat) (old : Option Nat) : List (Nat × Option bH) := (nm, some (.tok e sz k)) :: (match old with | none => [] | some m => [(m, none)])
def Wq (old : Option Nat) : List Nat := match old with | none => [] | some m => [m]
theorem Sk {C : cD} {ops : Array Oper} {i : Nat} {o : Oper} {s : St} {n : Nat} (hi : ops[i]? = some o) (hw : gN ops o s.fr = some true) (hd : ∀ d, o.dst = some d → d < C.n) {x y : Operand} {T e : TypeId} {j : TI} {z1 z2 : Nat} {z3 : List Value} (ho : o.op = .call ⟨.builtin .append, #[x, y], #[T, T]⟩)
  (hT : C.E.ti T = some ⟨.sl e, z1, z2, z3⟩) (hj : C.E.ti e = some j) (hpos : 0 < j.size) (hz : j.zero.length = j.size) {l els l2 : List (List CV)} (old : Option Nat)
  (hx : match old with | none => s.ev C x = some (.c (.v (.slice none 0 0))) ∧ l = [] | some m => s.ev C x = some (.c (.app m l)) ∧ s.H m = some (.tok e j.size l.length))
  (hy : s.ev C y = some (.c (.lit els)) ∨ ∃ m, s.ev C y = some (.c (.app m els))) (hlen : ∀ x, x ∈ l ++ els → x.length = j.size) (h63 : l.length + els.length ≤ maxLen) (hbytes : (l.length + els.length) * j.bytes ≤ 140737488355328) (hl2 : l ++ els = l2) :
  wW C ops i o s (some (.c (.app n l2))) (Th n e j.size l2.length old) (Wq old) [n] := by
 subst hl2
 refine rP hi hw hd fun s' U β μ a W hag hn hm hr => ?_
 have hnU : ¬ U n := hn n (by simp)
 have hox : x ∈ o.op.operands := by rw [ho]; simp [Op.operands, Call.operands]
 have hoy : y ∈ o.op.operands := by rw [ho]; simp [Op.operands, Call.operands]
 obtain ⟨k, hkx, hkv, hkown, hkm, hkold⟩ : ∃ k : Bk, a.eval x = k.sl l.length ∧ cQ μ (.lit l) (k.sl l.length) ∧
   ((k.nil = true ∧ l = []) ∨ (k.nil = false ∧ (∃ vs : Array Value, W.heap[k.blk]? = some (.cells vs e (0, 0)) ∧ vs.size = k.cap * j.size ∧ k.cap ≤ maxLen ∧ l.length ≤ k.cap) ∧ ∀ i, l.length * j.size ≤ i → μ.c k.blk i = none)) ∧ (k.nil = false → μ.m k.blk = none) ∧
   (k.nil = false → ∃ m ob, old = some m ∧ s'.H m = some ob ∧ (β m).nil = false ∧ (β m).blk = k.blk) := by
  cases old with
  | none =>
   obtain ⟨h1, rfl⟩ := hx
   have e1 := dY (St.ev_den hr ((St.ev_agree (C := C) hag hox).trans h1))
   exact ⟨⟨0, 0, true, 0⟩, e1, .nil _ _, .inl ⟨rfl, rfl⟩, by simp, by simp⟩
  | some m =>
   obtain ⟨h1, h2⟩ := hx
   obtain ⟨e1, e2⟩ := rH (St.ev_den hr ((St.ev_agree (C := C) hag hox).trans h1))
   have hH : s'.H m = some (.tok e j.size l.length) := (hag.2 m (by simp [Wq])).trans h2
   refine ⟨β m, e2, e2 ▸ e1, ?_, fun h0 => (hr.w.sep m _ hH h0).1, fun h0 => ⟨m, _, rfl, hH, h0, rfl⟩⟩
   rcases hr.w.own m _ hH with ⟨h3, h4⟩ | ⟨h3, vs, h4, h5, h6, h7⟩
   ·exact .inl ⟨h3, List.eq_nil_of_length_eq_zero h4⟩
   ·exact .inr ⟨h3, ⟨vs, h4, h5, h6, h7⟩, (hr.w.sep m _ hH h3).2⟩
 have hyd : cQ μ (.lit els) (a.eval y) := by
  rcases hy with h1 | ⟨m, h1⟩
  ·exact St.ev_den hr ((St.ev_agree (C := C) hag hoy).trans h1)
  ·exact (rH (St.ev_den hr ((St.ev_agree (C := C) hag hoy).trans h1))).1
 obtain ⟨v', W', k', μ', hrun, r1, r2, r3, r4, r5, r6, r7, r8, r9, r10, r11, r12⟩ := Px (ty := o.type) hT hj hpos hz hr.w.imm hkown hkv hyd hlen h63 hbytes hkm
 refine ⟨v', W', wT β n k', μ', .inl ?_, fun q hq => ?_, fun m hm => eW (fun e => hnU (e ▸ hm)), r6.le, ?_⟩
 ·rw [gP ho]
  simp only [List.map_toArray, List.map_cons, List.map_nil, hkx]
  unfold builtin
  rw [Sem.run_bind, hrun]
  rfl
 ·cases hq
  refine ⟨r2, ?_⟩
  rw [eG]; exact r1
 ·refine hr.w.put_new (old := old) (ob := .tok e j.size (l ++ els).length) hnU (fun q => ?_) r8 r9 r10 r11 (fun b hb hne => r12 b hb fun h0 hbk => ?_) (by simp [bH.ments]) r6 r5 ?_ (fun h0 => r4 h0) (fun h0 => ?_)
  ·cases old with
   | none => exact (oJ q s'.H).trans (by simp)
   | some m =>
    refine (Ia q s'.H).trans ?_
    by_cases e1 : q = n
    ·simp [e1]
    ·by_cases e2 : q = m
     ·subst e2; simp [e1]
     ·simp [e1, e2, Ne.symm e2]
  ·obtain ⟨m, ob, h1, h2, h3, h4⟩ := hkold h0
   exact hne m ob h1 h2 h3 (hbk.trans h4.symm)
  ·rcases r3 with ⟨h1, h2⟩ | ⟨h1, vs, h2, h3, h4, h5⟩
   ·exact .inl ⟨h1, h2⟩
   ·exact .inr ⟨h1, vs, h2, h3, h4, h5⟩
  ·rcases r7 h0 with h1 | ⟨h1, h2⟩
   ·exact .inl h1
   ·obtain ⟨m, ob, g1, g2, g3, g4⟩ := hkold h1
    exact .inr ⟨m, ob, g1, g2, g3, g4.trans h2⟩
def pA {α : Type} (bytes : Nat) (l els : List α) : Option (List α) := if (l.length + els.length) * bytes ≤ 140737488355328 ∧ l.length + els.length ≤ 9223372036854775807 then some (l ++ els) else none
section
variable {C : cD} {ops : Array Oper} {dr : Bool} {T : List (List Nat)} {b i : Nat} {o : Oper} {os : List Oper} {D D' : List (Nat × Fx)} {L L' : List (Nat × AV)} {G G' : List (Nat × bH)} {lim : Nat} {K : St → Prop}
def appC (C : cD) (x y : Operand) (T e : TypeId) (j : TI) (L : List (Nat × AV)) (G : List (Nat × bH)) : Option (Option Nat × Nat × Nat × Nat × List (List CV) × List (List CV) × Nat) :=
 if decide (0 < j.size) && Nat.beq j.zero.length j.size then
  match (mk L G 0).ev C y with
  | some (.c (.lit els)) => match (mk L G 0).ev C x with
   | some (.c (.v (.slice none 0 0))) => some (none, e, j.size, j.bytes, [], els, 0)
   | some (.c (.app m l)) => match G.lookup m with
    | some (.tok e' sz k) => if Nat.beq e e' && Nat.beq sz j.size then some (some m, e, j.size, j.bytes, l, els, k) else none
    | _ => none
   | _ => none
  | some (.c (.app _ els)) => match (mk L G 0).ev C x with
   | some (.c (.v (.slice none 0 0))) => some (none, e, j.size, j.bytes, [], els, 0)
   | some (.c (.app m l)) => match G.lookup m with
    | some (.tok e' sz k) => if Nat.beq e e' && Nat.beq sz j.size then some (some m, e, j.size, j.bytes, l, els, k) else none
    | _ => none
   | _ => none
  | _ => none
 else none
def Wn (C : cD) (T : TypeId) : Option (TypeId × TI) := match C.E.ti T with
 | some ⟨.sl e, _, _, _⟩ => match C.E.ti e with | some j => some (e, j) | none => none
 | _ => none
def appB (C : cD) (ops : Array Oper) (o : Oper) (L : List (Nat × AV)) (G : List (Nat × bH)) : Option (Option Nat × Nat × Nat × Nat × List (List CV) × List (List CV) × Nat) :=
 match o.op with
 | .call ⟨.builtin .append, args, ts⟩ => match args.toList, ts.toList, Wn C (ts.getD 0 0), gN ops o (fun t => L.lookup t), pX C.n o with
  | [x, y], [T, T'], some (e, j), some true, true => if Nat.beq T T' then appC C x y T e j L G else none
  | _, _, _, _, _ => none
 | _ => none
theorem cI {α : Type} {enc : α → List CV} {l els r : List α} {old : Option Nat} {e sz bytes k nm : Nat} (he : pA bytes l els = some r) (h : appB C ops o L G = some (old, e, sz, bytes, l.map enc, els.map enc, k)) (hk0 : k = l.length) (hlen : ∀ x, (enc x).length = sz) (hnm : b + i = nm)
  (hchk : iO dr T b i D (some (.c (.app nm (r.map enc)))) (Th nm e sz r.length old) (Wq old) [nm] = true) (hL : lG o.dst (some (.c (.app nm (r.map enc)))) L = L') (hG : uE (Th nm e sz r.length old) G = G') (hD : fM dr D i (Wq old) (Th nm e sz r.length old) = D') (hk : RX C ops dr T b (i + 1) os D' (mk L' G' lim) K) : RX C ops dr T b i (o :: os) D (mk L G lim) K := by
 subst hL hD hG hnm
 unfold pA at he
 split at he
 ·rename_i hb
  obtain rfl := Option.some.inj he
  have hr0 : l.map enc ++ els.map enc = (l ++ els).map enc := List.map_append.symm
  have hall : ∀ x, x ∈ l.map enc ++ els.map enc → x.length = sz := fun x hx => by
   rw [hr0] at hx
   obtain ⟨y, _, rfl⟩ := List.mem_map.1 hx
   exact hlen y
  have hev : ∀ x, (mk L G lim).ev C x = (mk L G 0).ev C x := fun x => eN rfl x
  have hml : ((l ++ els).map enc).length = (l ++ els).length := List.length_map ..
  unfold appB at h
  split at h
  ·rename_i args ts ho0
   split at h
   ·rename_i x y T1 T2 e0 j0 hax hts hap hw hc2
    split at h
    ·rename_i hc1
     have hTT := Nat.eq_of_beq_eq_true hc1
     subst hTT
     have ho : o.op = .call ⟨.builtin .append, #[x, y], #[T1, T1]⟩ := by
      rw [ho0, ← Array.toArray_toList (xs := args), ← Array.toArray_toList (xs := ts), hax, hts]
     have hts0 : ts.getD 0 0 = T1 := by
      have : ts = #[T1, T1] := by rw [← Array.toArray_toList (xs := ts), hts]
      rw [this]; rfl
     rw [hts0] at hap
     unfold Wn at hap
     split at hap
     ·rename_i e' z1 z2 z3 hT
      split at hap
      ·rename_i j hj
       simp only [Option.some.injEq, Prod.mk.injEq] at hap
       obtain ⟨rfl, rfl⟩ := hap
       unfold appC at h
       split at h
       ·rename_i hpz
        simp only [Bool.and_eq_true, decide_eq_true_eq] at hpz
        obtain ⟨hpos, hzz⟩ := hpz
        have hzz := Nat.eq_of_beq_eq_true hzz
        have vF : ∀ (old : Option Nat), (match old with | none => (mk L G lim).ev C x = some (.c (.v (.slice none 0 0))) ∧ l.map enc = [] | some m => (mk L G lim).ev C x = some (.c (.app m (l.map enc))) ∧ (mk L G lim).H m = some (.tok e' j.size (l.map enc).length)) →
          ((mk L G lim).ev C y = some (.c (.lit (els.map enc))) ∨ ∃ m, (mk L G lim).ev C y = some (.c (.app m (els.map enc)))) → j.size = sz → j.bytes = bytes → e' = e →
          iO dr T b i D (some (.c (.app (b + i) ((l ++ els).map enc)))) (Th (b + i) e sz (l ++ els).length old) (Wq old) [b + i] = true →
          RX C ops dr T b (i + 1) os (fM dr D i (Wq old) (Th (b + i) e sz (l ++ els).length old)) (mk (lG o.dst (some (.c (.app (b + i) ((l ++ els).map enc)))) L) (uE (Th (b + i) e sz (l ++ els).length old) G) lim) K → RX C ops dr T b i (o :: os) D (mk L G lim) K := by
         intro old hx hy e1 e2 e3 hchk hk
         subst e1 e2 e3
         have := fun hi => Sk (C := C) (ops := ops) (i := i) (o := o) (s := mk L G lim) (n := b + i) hi hw (dW hc2) ho hT hj hpos hzz old hx hy hall (by simp only [List.length_map, maxLen]; exact hb.2) (by simpa only [List.length_map] using hb.1) hr0
         rw [hml] at this
         refine mH this hchk ?_
         rw [iA]
         exact hk
        split at h
        ·rename_i els' hy
         split at h
         ·rename_i hx
          simp only [Option.some.injEq, Prod.mk.injEq] at h
          obtain ⟨rfl, h2, h3, h4, h5, h6, _⟩ := h
          exact vF none ⟨(hev x).trans hx, h5.symm⟩ (.inl ((hev y).trans (h6 ▸ hy))) h3 h4 h2 hchk hk
         ·rename_i m l' hx
          split at h
          ·rename_i e2 s2 k2 hm
           split at h
           ·rename_i hcc
            simp only [Bool.and_eq_true] at hcc
            have q1 := Nat.eq_of_beq_eq_true hcc.1
            have q2 := Nat.eq_of_beq_eq_true hcc.2
            subst q1 q2
            simp only [Option.some.injEq, Prod.mk.injEq] at h
            obtain ⟨rfl, h2, h3, h4, h5, h6, h7⟩ := h
            subst h5 h6 h7
            refine vF (some m) ⟨(hev x).trans hx, ?_⟩ (.inl ((hev y).trans hy)) h3 h4 h2 hchk hk
            rw [List.length_map, ← hk0]; exact hm
           ·cases h
          ·cases h
         ·cases h
        ·rename_i m2 els' hy
         split at h
         ·rename_i hx
          simp only [Option.some.injEq, Prod.mk.injEq] at h
          obtain ⟨rfl, h2, h3, h4, h5, h6, _⟩ := h
          exact vF none ⟨(hev x).trans hx, h5.symm⟩ (.inr ⟨m2, (hev y).trans (h6 ▸ hy)⟩) h3 h4 h2 hchk hk
         ·rename_i m l' hx
          split at h
          ·rename_i e2 s2 k2 hm
           split at h
           ·rename_i hcc
            simp only [Bool.and_eq_true] at hcc
            have q1 := Nat.eq_of_beq_eq_true hcc.1
            have q2 := Nat.eq_of_beq_eq_true hcc.2
            subst q1 q2
            simp only [Option.some.injEq, Prod.mk.injEq] at h
            obtain ⟨rfl, h2, h3, h4, h5, h6, h7⟩ := h
            subst h5 h6 h7
            refine vF (some m) ⟨(hev x).trans hx, ?_⟩ (.inr ⟨m2, (hev y).trans hy⟩) h3 h4 h2 hchk hk
            rw [List.length_map, ← hk0]; exact hm
           ·cases h
          ·cases h
         ·cases h
        ·cases h
       ·cases h
      ·cases hap
     ·cases hap
    ·cases h
   ·cases h
  ·cases h
 ·cases he
end
end Go.Bm
namespace Go.Bm
open Go
def nz (b : Int) : Option Int := if b = 0 then none else some b
section
variable {C : cD} {ops : Array Oper} {dr : Bool} {T : List (List Nat)} {b i : Nat} {o : Oper} {os : List Oper} {D D' : List (Nat × Fx)} {L L' : List (Nat × AV)} {G G' : List (Nat × bH)} {lim : Nat} {K : St → Prop}
def Cn (C : cD) (o : Oper) (L : List (Nat × AV)) : Option (FuncId × List AV) :=
 match o.op with
 | .call ⟨.value (.func F), args, _⟩ => match Up C (mk L [] 0) args.toList with
  | some As => some (F, As)
  | none => none
 | _ => none
theorem Dh : ∀ {As Bs : List AV}, xX As = some Bs → xM id As Bs
 | [], Bs, hB => by simp only [xX, Option.some.injEq] at hB; subst hB; trivial
 | A :: As, Bs, hB => by
  simp only [xX] at hB
  split at hB
  ·rename_i y r hy hr
   obtain rfl := Option.some.inj hB
   refine ⟨.inl ?_, Dh hr⟩
   cases A with
   | tup l => cases hy
   | cnd gs x => cases hy
   | c x => exact hy
   | agg l => exact hy
  ·cases hB
theorem opW_call {F : FuncId} {As Bs : List AV} {r v : AV} (h : Cn C o L = some (F, As)) (hF : bX C.E F) (hB : xX As = some Bs) (hc : dC C.E F 0 Bs [] r []) (hr : r.pub = some v) : Yf C o L G v [] := by
 unfold Cn at h
 split at h
 ·rename_i F' args ts ho
  split at h
  ·rename_i As' h3
   simp only [Option.some.injEq, Prod.mk.injEq] at h
   obtain ⟨rfl, rfl⟩ := h
   intro s' U β μ a W he _ hrel Q K hK
   unfold Oper.wp
   rw [Ah (args := args) (ts := ts) hF ho, Oper.upon_enter]
   obtain ⟨ea, eb⟩ := Bu h3
   obtain ⟨g1, g2⟩ := uY (Dh hB)
   rw [show args.map a.eval = (args.toList.map a.eval).toArray from by rw [← Array.toList_map, Array.toArray_toList]]
   have hden : rU μ β Bs (args.toList.map a.eval) := by
    refine ⟨by rw [List.length_map, ← g1, ea], fun j B hj => ?_⟩
    obtain ⟨A, hA', hAB⟩ := g2 j B hj
    obtain ⟨x, hx, hxA⟩ := eb j A hA'
    have hd : dL μ β A (a.eval x) := St.ev_den hrel ((he x (by rw [ho]; simp only [Op.operands, Call.operands]; have := List.mem_of_getElem? hx; simp only [Array.mem_toList_iff] at this; simp [this])).trans ((eN rfl x).trans hxA))
    refine ⟨a.eval x, by simp [hx], ?_⟩
    rcases hAB with h1 | ⟨h1, h2⟩
    ·exact (jJ h1 hd).den
    ·subst h1
     have := (uD (ρ := id) h2).1 hd
     exact this
   refine (hc β μ W _ hrel.w.imm hrel.w.glob ⟨fun n o hn => (nomatch hn), fun n m o p hn => (nomatch hn), fun n o hn => (nomatch hn)⟩ hden).mono ?_
   rintro e W' ⟨y, r', G', β'c, μ', rfl, ⟨hrr, _⟩, hy0, hleft⟩
   have hy : dL μ' β'c r y := by
    rcases hrr with rfl | hrr
    ·exact hy0
    ·exact (jJ hrr hy0).den
   have hwr := hrel.w.call (σ := id) (Gc := fun _ => none) (H' := s'.H) (Gf := []) (nw := none) (nm := 0) hleft (fun n p hn => (nomatch hn)) (fun n => by simp) (fun n m hn => by omega) (fun n p hn => (nomatch hn)) (fun k' hk' => (nomatch hk')) ⟨fun n hn => by omega, fun k' hk' => (nomatch hk'), fun j _ _ => rfl⟩
   refine hK μ' W' y (hwr.weaken fun n hn => ?_) hleft.le ((jJ hr hy).denT)
   rcases hn with hn | hn
   ·exact hn
   ·simp [Bz] at hn
  ·cases h
 ·cases h
theorem rx_Ecall {e : List Bool} (l : Ls) {F : FuncId} {As Bs : List AV} {r v : AV} (hw : pN ops o L = some e) (hs : l.have_ L = l.want e) (hchk : Bp C ops dr T b i o D e l v [] = true) (h : Cn C o l.st = some (F, As)) (hF : bX C.E F) (hB : xX As = some Bs) (hc : e.all id = true → dC C.E F 0 Bs [] r []) (hr : r.pub = some v)
  (hL : lG o.dst (some (.cnd e v)) L = L') (hD : fM dr D i [] [] = D') (hk : RX C ops dr T b (i + 1) os D' (mk L' G lim) K) : RX C ops dr T b i (o :: os) D (mk L G lim) K := by
 subst hL hD
 simp only [Bp, Bool.and_eq_true] at hchk
 obtain ⟨⟨⟨⟨c1, c2⟩, c3⟩, c4⟩, c5⟩ := hchk
 refine mH (fun hi => yG (lim := lim) hi hw c1 c2 hs c3 (fun he => opW_call h hF hB (hc he) hr) c5) c4 ?_
 rw [iA]
 exact hk
def divB (C : cD) (o : Oper) (L : List (Nat × AV)) : Option (Bool × IntKind × Int × Int) :=
 match o.op with
 | .binOp .quo _ x y _ => match (mk L [] 0).ev C x, (mk L [] 0).ev C y with
  | some (.c (.v (.int j a))), some (.c (.v (.int k b))) => if j == k then some (true, j, a, b) else none
  | _, _ => none
 | .binOp .rem _ x y _ => match (mk L [] 0).ev C x, (mk L [] 0).ev C y with
  | some (.c (.v (.int j a))), some (.c (.v (.int k b))) => if j == k then some (false, j, a, b) else none
  | _, _ => none
 | _ => none
theorem rd_quo {k : IntKind} {x y d : Int} (he : nz y = some d) (h : divB C o L = some (true, k, x, y)) : rd C (mk L G lim) o.op = some ⟨some (.c (.v (.int k (k.wrap (x.tdiv y))))), [], [], []⟩ := by
 have hy : y ≠ 0 := by intro e; simp [nz, e] at he
 have hx : ∀ z, (mk L G lim).ev C z = (mk L [] 0).ev C z := fun z => eN rfl z
 unfold divB at h
 split at h
 ·rename_i T' p q T'' ho
  rw [ho]
  split at h
  ·rename_i j a k' b' h1 h2
   split at h
   ·rename_i hjk
    simp only [Option.some.injEq, Prod.mk.injEq, true_and] at h
    obtain ⟨rfl, rfl, rfl⟩ := h
    simp only [rd, hx, h1, h2, Dm, zU, hjk, Gi, if_true, hy, if_false, Value.isBoo, Bool.false_eq_true]
    rfl
   ·cases h
  ·cases h
 ·split at h
  ·split at h
   ·simp at h
   ·cases h
  ·cases h
 ·cases h
theorem Te {k : IntKind} {x y d : Int} (he : nz y = some d) (h : divB C o L = some (false, k, x, y)) : rd C (mk L G lim) o.op = some ⟨some (.c (.v (.int k (x.tmod y)))), [], [], []⟩ := by
 have hy : y ≠ 0 := by intro e; simp [nz, e] at he
 have hx : ∀ z, (mk L G lim).ev C z = (mk L [] 0).ev C z := fun z => eN rfl z
 unfold divB at h
 split at h
 ·split at h
  ·split at h
   ·simp at h
   ·cases h
  ·cases h
 ·rename_i T' p q T'' ho
  rw [ho]
  split at h
  ·rename_i j a k' b' h1 h2
   split at h
   ·rename_i hjk
    simp only [Option.some.injEq, Prod.mk.injEq, true_and] at h
    obtain ⟨rfl, rfl, rfl⟩ := h
    simp only [rd, hx, h1, h2, Dm, zU, hjk, Gi, if_true, hy, if_false, Value.isBoo, Bool.false_eq_true]
    rfl
   ·cases h
  ·cases h
 ·cases h
def bsB (C : cD) (ops : Array Oper) (o : Oper) (L : List (Nat × AV)) : Option (Nat × Nat × Nat × List CV) :=
 match o.op with
 | .buildSlice Ty len parts => match pX C.n o, gN ops o (fun t => L.lookup t), kC C (mk L [] 0) Ty len parts with
  | true, some true, some (e, sz, r) => some (e, sz, len, r)
  | _, _, _ => none
 | _ => none
theorem Ic {s s' : St} (h1 : s.fr = s'.fr) (Ty len : Nat) (parts : Array (Nat × Operand)) : kC C s Ty len parts = kC C s' Ty len parts := by
 unfold kC
 simp only [eN h1]
theorem rF {e sz len nm : Nat} {r : List CV} {l' : List (List CV)} (h : bsB C ops o L = some (e, sz, len, r)) (hl : wO sz len r = l') (hn : b + i = nm) (hchk : iO dr T b i D (some (.c (.app nm l'))) [(nm, some (.tok e sz len))] [] [nm] = true) (hL : lG o.dst (some (.c (.app nm l'))) L = L') (hG : uE [(nm, some (.tok e sz len))] G = G') (hD : fM dr D i [] [(nm, some (.tok e sz len))] = D')
  (hk : RX C ops dr T b (i + 1) os D' (mk L' G' lim) K) : RX C ops dr T b i (o :: os) D (mk L G lim) K := by
 subst hL hG hD hn hl
 unfold bsB at h
 split at h
 ·rename_i Ty len' parts ho
  split at h
  ·rename_i e' sz' r' h1 h2 h3
   simp only [Option.some.injEq, Prod.mk.injEq] at h
   obtain ⟨rfl, rfl, rfl, rfl⟩ := h
   have h3' : kC C (mk L G lim) Ty len' parts = some (e', sz', r') := (Ic rfl ..).trans h3
   refine mH (fun hi => xI (n := b + i) hi (s := mk L G lim) h2 (dW h1) ho h3') hchk ?_
   rw [iA]
   exact hk
  ·cases h
 ·cases h
theorem wW.less {v v2 : AV} {wr : List (Nat × Option bH)} {foot new : List Nat} {s : St} (h : wW C ops i o s (some v) wr foot new) (hv : ∀ μ β y, dL μ β v y → dL μ β v2 y) (hm : v.ments = v2.ments) : wW C ops i o s (some v2) wr foot new := by
 intro s' U β μ a W hag hnew hment hrel Q K hK
 refine h s' U β μ a W hag hnew ⟨fun x hx n hn => ?_, hment.2⟩ hrel Q K fun β' μ' a' W' hr' => hK β' μ' a' W' ⟨⟨hr'.f.defers, hr'.f.size, fun t x ht => ?_, fun t x ht => ?_⟩, hr'.w⟩
 ·cases hx
  rw [hm] at hn
  exact hment.1 v2 rfl n hn
 ·cases hd : o.dst with
  | none => exact hr'.f.den t x (by simp only [St.app, hd] at ht ⊢; exact ht)
  | some d =>
   simp only [St.app, hd] at ht
   by_cases e : t = d
   ·rw [if_pos e] at ht
    obtain rfl := Option.some.inj ht
    obtain ⟨y, hy, hyd⟩ := hr'.f.den t v (by simp only [St.app, hd]; rw [if_pos e])
    exact ⟨y, hy, hv _ _ _ hyd⟩
   ·rw [if_neg e] at ht
    exact hr'.f.den t x (by simp only [St.app, hd]; rw [if_neg e]; exact ht)
 ·cases hd : o.dst with
  | none => exact hr'.f.used t x (by simp only [St.app, hd] at ht ⊢; exact ht)
  | some d =>
   simp only [St.app, hd] at ht
   by_cases e : t = d
   ·rw [if_pos e] at ht
    obtain rfl := Option.some.inj ht
    intro n hn
    exact hr'.f.used t v (by simp only [St.app, hd]; rw [if_pos e]) n (by rw [hm]; exact hn)
   ·rw [if_neg e] at ht
    exact hr'.f.used t x (by simp only [St.app, hd]; rw [if_neg e]; exact ht)
theorem Rl {μ : cL} {l c r : List CV} {y : Value} (h : cQ μ (.imm l) y) (hl : l = c ++ r) : cQ μ (.imm c) y := by
 subst hl
 cases h with
 | imm _ b o w hw hd => exact .imm c b o w (fun j x hj => hw j x (by rw [List.getElem?_append_left (List.getElem?_eq_some_iff.1 hj).1]; exact hj)) fun j x hj => hd j x (by rw [List.getElem?_append_left (List.getElem?_eq_some_iff.1 hj).1]; exact hj)
theorem Bf {sz : Nat} : ∀ {l : List (List CV)} {i : Nat} {e : List CV}, (∀ x, x ∈ l → x.length = sz) → l[i]? = some e → ∃ r, l.flatten.drop (i * sz) = e ++ r
 | [], i, e, _, h => by simp at h
 | d :: l, 0, e, _, h => by
  simp only [List.getElem?_cons_zero, Option.some.injEq] at h
  subst h
  exact ⟨l.flatten, by simp⟩
 | d :: l, i + 1, e, hl, h => by
  obtain ⟨r, hr⟩ := Bf (fun x hx => hl x (List.mem_cons_of_mem _ hx)) (by simpa using h : l[i]? = some e)
  refine ⟨r, ?_⟩
  have hd := hl d (List.mem_cons_self ..)
  rw [List.flatten_cons, Nat.add_mul, Nat.one_mul, ← hr]
  rw [show i * sz + sz = d.length + i * sz by omega, ← List.drop_drop, List.drop_left]
def Pg (C : cD) (o : Oper) (L : List (Nat × AV)) : Option (List CV × Int × Nat × Nat) :=
 match o.op with
 | .indexAddr Ty x y => match (mk L [] 0).ev C x, (mk L [] 0).ev C y, C.E.ti Ty with
  | some (.c (.imm l)), some (.c (.v (.int _ i))), some ⟨.arr len e, _, _, _⟩ => match C.E.ti e with | some j => some (l, i, len, j.size) | none => none
  | _, _, _ => none
 | _ => none
theorem rx_idxA {α : Type} {enc : α → List CV} {xs : List α} {ix : Int} {e : α} {c : List CV} {len sz : Nat} (he : idx xs ix = some e) (h : Pg C o L = some ((xs.map enc).flatten, ix, len, sz)) (hn : xs.length = len) (hc : enc e = c) (hsz : ∀ x, (enc x).length = sz) (hchk : uW C ops dr T b i o L D (.c (.imm c)) [] = true) (hL : lG o.dst (some (.c (.imm c))) L = L') (hD : fM dr D i [] [] = D') (hk : RX C ops dr T b (i + 1) os D' (mk L' G lim) K) : RX C ops dr T b i (o :: os) D (mk L G lim) K := by
 subst hL hD
 unfold idx at he
 split at he
 ·rename_i h0
  have hlt : ix.toNat < len := by rw [← hn]; exact (List.getElem?_eq_some_iff.1 he).1
  obtain ⟨r, hr⟩ := Bf (sz := sz) (l := xs.map enc) (i := ix.toNat) (e := c) (fun x hx => by obtain ⟨y, _, rfl⟩ := List.mem_map.1 hx; exact hsz y) (by rw [List.getElem?_map, he, ← hc]; rfl)
  simp only [uW, Bool.and_eq_true] at hchk
  obtain ⟨⟨c1, c2⟩, c3⟩ := hchk
  have hw : gN ops o (fun t => L.lookup t) = some true := by
   split at c2
   ·assumption
   ·cases c2
  have hrd : rd C (mk L G lim) o.op = some ⟨some (.c (.imm ((xs.map enc).flatten.drop (ix.toNat * sz)))), [], [], []⟩ := by
   unfold Pg at h
   split at h
   ·rename_i T' x y ho
    have hx : ∀ z, (mk L G lim).ev C z = (mk L [] 0).ev C z := fun z => eN rfl z
    rw [ho]
    split at h
    ·rename_i l' k' i' len' e' z1 z2 z3 h1 h2 h3
     split at h
     ·rename_i j hj
      simp only [Option.some.injEq, Prod.mk.injEq] at h
      obtain ⟨rfl, rfl, rfl, rfl⟩ := h
      have hcond : 0 ≤ i' ∧ i' < len' := ⟨h0, by omega⟩
      simp only [rd, hx, h1, h2, h3, hj, hcond, and_self, if_true]
      rfl
     ·cases h
    ·cases h
   ·cases h
  refine mH (fun hi => (Tv hi (s := mk L G lim) hw (dW c1) hrd).less (v2 := .c (.imm c)) (fun μ β y hy => iT (β := β) (Rl (μ := μ) hy hr)) rfl) c3 ?_
  rw [iA]
  exact hk
 ·cases he
end
end Go.Bm
namespace Go.Bm
open Go
def rL (i : Int) (n : Nat) : Option Nat := if 0 ≤ i ∧ i < n then some i.toNat else none
theorem iD {i : Int} {n k : Nat} (h : rL i n = some k) : k < n := by
 unfold rL at h
 split at h
 ·rename_i h0; obtain rfl := Option.some.inj h; omega
 ·cases h
section
variable {C : cD} {ops : Array Oper} {dr : Bool} {T : List (List Nat)} {b i : Nat} {o : Oper} {os : List Oper} {D D' : List (Nat × Fx)} {L L' : List (Nat × AV)} {G G' : List (Nat × bH)} {lim : Nat} {K : St → Prop}
def idxGB (C : cD) (o : Oper) (L : List (Nat × AV)) : Option (List CV × Int × Nat × TI) :=
 match o.op with
 | .index Ty x y => match (mk L [] 0).ev C x, (mk L [] 0).ev C y, C.E.ti Ty with
  | some (.agg l), some (.c (.v (.int _ i))), some ⟨.arr len e, _, _, _⟩ => match C.E.ti e with | some j => some (l, i, len, j) | none => none
  | _, _, _ => none
 | _ => none
theorem Hw {ag : Bool} {n : Nat} {c r : List CV} {v : AV} (hn : c.length = n) (h0 : 0 < n) (h : cut ag n c = some v) : cut ag n (c ++ r) = some v := by
 unfold cut at h ⊢
 cases ag with
 | true =>
  simp only [if_true] at h ⊢
  rw [if_pos (by omega)] at h
  rw [if_pos (by rw [List.length_append]; omega)]
  rw [← h, ← hn, List.take_left, List.take_length]
 | false =>
  simp only [Bool.false_eq_true, if_false] at h ⊢
  cases c with
  | nil => simp at hn; omega
  | cons x c => exact h
theorem yN {α : Type} {enc : α → List CV} {xs : List α} {ix : Int} {e : α} {len : Nat} {j : TI} {v : AV} (he : idx xs ix = some e) (h : idxGB C o L = some ((xs.map enc).flatten, ix, len, j)) (hn : xs.length = len) (hsz : ∀ x, (enc x).length = j.size) (hpos : 0 < j.size) (hv : cut j.k.agg j.size (enc e) = some v) : rd C (mk L G lim) o.op = some ⟨some v, [], [], []⟩ := by
 unfold idx at he
 split at he
 ·rename_i h0
  have hlt : ix.toNat < len := by rw [← hn]; exact (List.getElem?_eq_some_iff.1 he).1
  obtain ⟨r, hr⟩ := Bf (sz := j.size) (l := xs.map enc) (i := ix.toNat) (e := enc e) (fun x hx => by obtain ⟨y, _, rfl⟩ := List.mem_map.1 hx; exact hsz y) (by rw [List.getElem?_map, he]; rfl)
  unfold idxGB at h
  split at h
  ·rename_i T' x y ho
   have hx : ∀ z, (mk L G lim).ev C z = (mk L [] 0).ev C z := fun z => eN rfl z
   rw [ho]
   split at h
   ·rename_i l' k' i' len' e' z1 z2 z3 h1 h2 h3
    split at h
    ·rename_i j' hj
     simp only [Option.some.injEq, Prod.mk.injEq] at h
     obtain ⟨rfl, rfl, rfl, rfl⟩ := h
     have hcond : 0 ≤ i' ∧ i' < len' := ⟨h0, by omega⟩
     simp only [rd, hx, h1, h2, h3, hj, hcond, and_self, if_true, hr, Hw (hsz e) hpos hv, Option.map_some]
     rfl
    ·cases h
   ·cases h
  ·cases h
 ·cases he
def iaB (C : cD) (o : Oper) (L : List (Nat × AV)) : Option (Nat × Nat × Int × Nat × Nat) :=
 match o.op with
 | .indexAddr Ty x y => match (mk L [] 0).ev C x, (mk L [] 0).ev C y, C.E.ti Ty with
  | some (.c (.ptr n q)), some (.c (.v (.int _ i))), some ⟨.arr len e, _, _, _⟩ => match C.E.ti e with | some j => some (n, q, i, len, j.size) | none => none
  | _, _, _ => none
 | _ => none
theorem zH {n q len sz k : Nat} {ix : Int} (he : rL ix len = some k) (h : iaB C o L = some (n, q, ix, len, sz)) : rd C (mk L G lim) o.op = some ⟨some (.c (.ptr n (q + k * sz))), [], [], []⟩ := by
 unfold rL at he
 split at he
 ·rename_i h0
  obtain rfl := Option.some.inj he
  unfold iaB at h
  split at h
  ·rename_i T' x y ho
   have hx : ∀ z, (mk L G lim).ev C z = (mk L [] 0).ev C z := fun z => eN rfl z
   rw [ho]
   split at h
   ·rename_i n' q' k' i' len' e' z1 z2 z3 h1 h2 h3
    split at h
    ·rename_i j' hj
     simp only [Option.some.injEq, Prod.mk.injEq] at h
     obtain ⟨rfl, rfl, rfl, rfl, rfl⟩ := h
     simp only [rd, hx, h1, h2, h3, hj, h0, and_self, if_true]
     rfl
    ·cases h
   ·cases h
  ·cases h
 ·cases he
def stB (C : cD) (ops : Array Oper) (o : Oper) (L : List (Nat × AV)) (G : List (Nat × bH)) : Option (Nat × Nat × List CV × Nat × List CV × Nat) :=
 match o.op with
 | .store Ty a x => match o.dst, gN ops o (fun t => L.lookup t), (mk L [] 0).ev C a, (mk L [] 0).ev C x, C.E.ti Ty with
  | none, some true, some (.c (.ptr n off)), some A, some k => match A.cells?, G.lookup n with
   | some lx, some (.blk T0 l) => some (n, off, lx, T0, l, k.size)
   | _, _ => none
  | _, _, _, _, _ => none
 | _ => none
theorem sB {n off T0 sz : Nat} {lx l l2 : List CV} (h : stB C ops o L G = some (n, off, lx, T0, l, sz)) (hlx : lx.length = sz) (hle : off + lx.length ≤ l.length) (hl2 : gL l off lx = l2) (hchk : iO dr T b i D none [(n, some (.blk T0 l2))] [n] [] = true) (hG : uE [(n, some (.blk T0 l2))] G = G') (hD : fM dr D i [n] [(n, some (.blk T0 l2))] = D')
  (hk : RX C ops dr T b (i + 1) os D' (mk L G' lim) K) : RX C ops dr T b i (o :: os) D (mk L G lim) K := by
 subst hG hD hl2
 unfold stB at h
 split at h
 ·rename_i Ty a x ho
  split at h
  ·rename_i n' off' A k h1 h2 h3 h4 h5
   split at h
   ·rename_i lx' T0' l' h6 h7
    simp only [Option.some.injEq, Prod.mk.injEq] at h
    obtain ⟨rfl, rfl, rfl, rfl, rfl, rfl⟩ := h
    refine mH (fun hi => Ln hi (s := mk L G lim) h2 h1 ho ((eN rfl a).trans h3) ((eN rfl x).trans h4) h5 h6 h7 hlx hle) hchk ?_
    rw [iA, h1]
    exact hk
   ·cases h
  ·cases h
 ·cases h
def ldB (C : cD) (o : Oper) (L : List (Nat × AV)) (G : List (Nat × bH)) : Option (Nat × Nat × List CV × TI) :=
 match o.op with
 | .load Ty x => match (mk L [] 0).ev C x, C.E.ti Ty with
  | some (.c (.ptr n off)), some j => match G.lookup n with
   | some (.blk _ l) => some (n, off, l, j)
   | _ => none
  | _, _ => none
 | _ => none
theorem Nk {n off : Nat} {l : List CV} {j : TI} {v : AV} (h : ldB C o L G = some (n, off, l, j)) (hv : cut j.k.agg j.size (l.drop off) = some v) : rd C (mk L G lim) o.op = some ⟨some v, [], [n], []⟩ := by
 unfold ldB at h
 split at h
 ·rename_i Ty x ho
  have hx : ∀ z, (mk L G lim).ev C z = (mk L [] 0).ev C z := fun z => eN rfl z
  rw [ho]
  split at h
  ·rename_i n' off' j' h1 h2
   split at h
   ·rename_i T0 l' h3
    simp only [Option.some.injEq, Prod.mk.injEq] at h
    obtain ⟨rfl, rfl, rfl, rfl⟩ := h
    have h3' : (mk L G lim).H n' = some (.blk T0 l') := h3
    simp only [rd, hx, h1, h2, h3', hv, Option.map_some]
    rfl
   ·cases h
  ·cases h
 ·cases h
theorem Cg {α : Type} {enc : α → List CV} {xs : List α} {k : Nat} {e : α} {j : TI} {v : AV} {l : List CV} {off : Nat} (he : xs[k]? = some e) (hl : l.drop off = ((xs.map enc).flatten).drop (k * j.size)) (hsz : ∀ x, (enc x).length = j.size) (hpos : 0 < j.size) (hv : cut j.k.agg j.size (enc e) = some v) : cut j.k.agg j.size (l.drop off) = some v := by
 obtain ⟨r, hr⟩ := Bf (sz := j.size) (l := xs.map enc) (i := k) (e := enc e) (fun x hx => by obtain ⟨y, _, rfl⟩ := List.mem_map.1 hx; exact hsz y) (by rw [List.getElem?_map, he]; rfl)
 rw [hl, hr]
 exact Hw (hsz e) hpos hv
theorem oN {α : Type} {enc : α → List CV} {xs : List α} {k sz : Nat} {v : α} (hk : k < xs.length) (hsz : ∀ x, (enc x).length = sz) : gL ((xs.map enc).flatten) (k * sz) (enc v) = (((xs.set k v).map enc).flatten) := by
 unfold gL
 induction xs generalizing k with
 | nil => simp at hk
 | cons x xs ih =>
  cases k with
  | zero =>
   simp only [Nat.zero_mul, List.take_zero, List.nil_append, Nat.zero_add, List.map_cons, List.flatten_cons, List.set_cons_zero]
   rw [hsz v, ← hsz x, List.drop_left]
  | succ k =>
   have hx := hsz x
   have := ih (k := k) (by simpa using hk)
   simp only [List.map_cons, List.flatten_cons, List.set_cons_succ]
   rw [← this]
   have e1 : (k + 1) * sz = (enc x).length + k * sz := by rw [hx, Nat.add_mul]; omega
   rw [e1, List.take_length_add_append, Nat.add_assoc, List.drop_length_add_append, List.append_assoc, List.append_assoc]
   simp [List.append_assoc]
theorem rd_idxA {α : Type} {enc : α → List CV} {xs : List α} {ix : Int} {e : α} {len sz : Nat} (he : idx xs ix = some e) (h : Pg C o L = some ((xs.map enc).flatten, ix, len, sz)) (hn : xs.length = len) : rd C (mk L G lim) o.op = some ⟨some (.c (.imm ((xs.map enc).flatten.drop (ix.toNat * sz)))), [], [], []⟩ := by
 unfold idx at he
 split at he
 ·rename_i h0
  have hlt : ix.toNat < len := by rw [← hn]; exact (List.getElem?_eq_some_iff.1 he).1
  unfold Pg at h
  split at h
  ·rename_i T' x y ho
   have hx : ∀ z, (mk L G lim).ev C z = (mk L [] 0).ev C z := fun z => eN rfl z
   rw [ho]
   split at h
   ·rename_i l' k' i' len' e' z1 z2 z3 h1 h2 h3
    split at h
    ·rename_i j hj
     simp only [Option.some.injEq, Prod.mk.injEq] at h
     obtain ⟨rfl, rfl, rfl, rfl⟩ := h
     have hcond : 0 ≤ i' ∧ i' < len' := ⟨h0, by omega⟩
     simp only [rd, hx, h1, h2, h3, hj, hcond, and_self, if_true]
     rfl
    ·cases h
   ·cases h
  ·cases h
 ·cases he
theorem opW_less {v v2 : AV} {foot : List Nat} (h : Yf C o L G v foot) (hv : ∀ μ β y, uN μ β v y → uN μ β v2 y) : Yf C o L G v2 foot :=
 fun s' U β μ a W h1 h2 h3 Q K hK => h s' U β μ a W h1 h2 h3 Q K fun μ' W' y g1 g2 g3 => hK μ' W' y g1 g2 (hv _ _ _ g3)
theorem Gk {es : List Bool} (l : Ls) {α : Type} {enc : α → List CV} {xs : List α} {ix : Int} {e : α} {c : List CV} {len sz : Nat} (he : es.all id = true → idx xs ix = some e) (hw : pN ops o L = some es) (hs : l.have_ L = l.want es) (hchk : Bp C ops dr T b i o D es l (.c (.imm c)) [] = true)
  (h : Pg C o l.st = some ((xs.map enc).flatten, ix, len, sz)) (hn : xs.length = len) (hc : enc e = c) (hsz : ∀ x, (enc x).length = sz) (hL : lG o.dst (some (.cnd es (.c (.imm c)))) L = L') (hD : fM dr D i [] [] = D') (hk : RX C ops dr T b (i + 1) os D' (mk L' G lim) K) : RX C ops dr T b i (o :: os) D (mk L G lim) K := by
 subst hL hD
 simp only [Bp, Bool.and_eq_true] at hchk
 obtain ⟨⟨⟨⟨c1, c2⟩, c3⟩, c4⟩, c5⟩ := hchk
 refine mH (fun hi => yG (lim := lim) hi hw c1 c2 hs c3 (fun hg => ?_) c5) c4 ?_
 ·have he := he hg
  have hrd := rd_idxA (G := G) (lim := 0) he h hn
  unfold idx at he
  split at he
  ·obtain ⟨r, hr⟩ := Bf (sz := sz) (l := xs.map enc) (i := ix.toNat) (e := c) (fun x hx => by obtain ⟨y, _, rfl⟩ := List.mem_map.1 hx; exact hsz y) (by rw [List.getElem?_map, he, ← hc]; rfl)
   exact opW_less (opW_rd rfl hrd) fun μ β y hy => iT (β := β) (Rl (μ := μ) hy hr)
  ·cases he
 ·rw [iA]
  exact hk
end
end Go.Bm
