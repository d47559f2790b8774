import Derived.OrdersIn
import Derived.RangeFuncRecord
import Derived.Laws.Tables
import Derived.Laws.Cells
import Derived.Laws.CopyRow
import Derived.Great.BuildSlice
import Derived.WalkKit
import Derived.WalkSpells
import Derived.WalkLawsBesides
import Derived.Deep.QuietTactic
import Derived.BigQuiet
import Derived.BigRegion
import Derived.Lib.Hide
import Derived.Deep.RegionWith
set_option linter.all false
namespace Go
structure jK where
 objs : Array Obj
 n : Nat
instance : Inhabited jK := ⟨⟨#[], 0⟩⟩
def jK.size (d : jK) : Nat := d.objs.size
def jK.drew (d : jK) : jK := ⟨d.objs, d.n + 1⟩
def jK.drews (d : jK) (k : Nat) : jK := ⟨d.objs, d.n + k⟩
def jK.add (d e : jK) : jK := ⟨d.objs ++ e.objs, e.n⟩
def World.ext (w : World) (d : jK) : World := { w with heap := w.heap ++ d.objs, drawn := d.n }
section
variable (w : World) (d e : jK)
@[simp, go_sem] theorem World.size_ext : (w.ext d).heap.size = w.heap.size + d.size := by simp [World.ext, jK.size]
@[simp, go_sem] theorem World.tape_ext : (w.ext d).tape = w.tape := rfl
theorem World.heap_ext (k : Nat) (h : k < w.heap.size) : (w.ext d).heap[k]? = w.heap[k]? := by
 simp [World.ext, Array.getElem?_append, h]
@[simp, go_sem] theorem World.ext_drew : (w.ext d).drew = w.ext d.drew := rfl
@[simp, go_sem] theorem World.ext_drewN (k : Nat) : (w.ext d).drewN k = w.ext (d.drews k) := rfl
theorem World.ext_ext : (w.ext d).ext e = w.ext (d.add e) := by
 unfold World.ext jK.add
 simp [Array.append_assoc]
@[simp, go_sem] theorem jK.size_drew : d.drew.size = d.size := rfl
@[simp, go_sem] theorem jK.size_drews (k : Nat) : (d.drews k).size = d.size := rfl
@[simp, go_sem] theorem jK.size_add : (d.add e).size = d.size + e.size := by simp [jK.size, jK.add]
def World.grow1 (w : World) : jK := ⟨#[], w.drawn + 1⟩
def World.grow0 (w : World) : jK := ⟨#[], w.drawn⟩
theorem World.drew_is_ext : w.drew = w.ext w.grow1 := by
 simp only [World.ext, World.grow1, Array.append_empty]; rfl
theorem World.ext_none : w.ext w.grow0 = w := by simp [World.ext, World.grow0]
end
def Kh (w w' : World) : Prop := ∃ d, w' = w.ext d
theorem Kh.refl (w : World) : Kh w w := ⟨w.grow0, (World.ext_none w).symm⟩
theorem Kh.trans {a b c : World} : Kh a b → Kh b c → Kh a c := by
 rintro ⟨d, rfl⟩ ⟨e, rfl⟩
 exact ⟨d.add e, World.ext_ext a d e⟩
theorem Kh.ext {a b : World} (h : Kh a b) (d : jK) : Kh a (b.ext d) := h.trans ⟨d, rfl⟩
theorem Kh.drew {a b : World} (h : Kh a b) : Kh a b.drew := h.trans ⟨b.grow1, World.drew_is_ext b⟩
theorem Kh.alloc {a b : World} (h : Kh a b) (o : Obj) : Kh a (b.alloc o) :=
 h.trans ⟨⟨#[o], b.drawn⟩, by simp only [World.ext, ← Array.push_eq_append]; rfl⟩
theorem Kh.below {w w' : World} (h : Kh w w') : Go.RowKit.Below w.heap.size w w' := by
 obtain ⟨d, rfl⟩ := h
 exact ⟨rfl, rfl, rfl, by simp, fun k hk => World.heap_ext w d k hk⟩
theorem Kh.cell {w w' : World} (h : Kh w w') {p : Addr} (hp : p.block < w.heap.size) : w'.cell? p = w.cell? p := h.below.cell hp
theorem Kh.size {w w' : World} (h : Kh w w') : w.heap.size ≤ w'.heap.size := h.below.size
section
variable {P : Program} (w : World)
end
end Go
namespace Go.Bm
open Go
inductive CV where
 | v (x : Value)
 | lit (l : List (List CV))
 | imm (l : List CV)
 | lmap (ag : Bool) (l : List (Value × List CV))
 | fn (f : FuncId) (caps : List CV)
 | ptr (n off : Nat)
 | app (n : Nat) (l : List (List CV))
 | row (n : Nat)
 | mapr (n : Nat)
inductive AV where
 | c (x : CV)
 | agg (l : List CV)
 | tup (l : List AV)
 | cnd (gs : List Bool) (x : AV)
instance : Inhabited CV := ⟨.v (.bool false)⟩
instance : Inhabited AV := ⟨.agg []⟩
def CV.ments1 : CV → List Nat
 | .ptr n _ => [n]
 | .app n _ => [n]
 | .row n => [n]
 | .mapr n => [n]
 | _ => []
def CV.ments : CV → List Nat
 | .fn _ caps => caps.flatMap CV.ments1
 | x => x.ments1
def AV.ments1 : AV → List Nat
 | .c x => x.ments
 | .agg l => l.flatMap CV.ments
 | _ => []
def AV.ments0 : AV → List Nat
 | .tup l => l.flatMap AV.ments1
 | x => x.ments1
def AV.ments : AV → List Nat
 | .cnd _ x => x.ments0
 | x => x.ments0
inductive bH where
 | blk (T : TypeId) (l : List CV)
 | tok (T : TypeId) (sz k : Nat)
 | vec (T : TypeId) (sz : Nat) (l : List (List CV))
 | map (ag : Bool) (l : List (Value × List CV))
def bH.ments : bH → List Nat
 | .blk _ l => l.flatMap CV.ments
 | _ => []
structure Bk where
 blk : Nat
 cap : Nat
 nil : Bool
 len : Nat
instance : Inhabited Bk := ⟨⟨0, 0, false, 0⟩⟩
structure cL where
 c : Nat → Nat → Option Value
 m : Nat → Option (Array MapEntry × Nat)
structure cL.le (μ μ' : cL) : Prop where
 c : ∀ b j v, μ.c b j = some v → μ'.c b j = some v
 m : ∀ b x, μ.m b = some x → μ'.m b = some x
theorem cL.le_refl (μ : cL) : μ.le μ := ⟨fun _ _ _ h => h, fun _ _ h => h⟩
theorem cL.le_trans {a b c : cL} (h : a.le b) (k : b.le c) : a.le c := ⟨fun x j v hx => k.c x j v (h.c x j v hx), fun x o hx => k.m x o (h.m x o hx)⟩
inductive cQ (μ : cL) : CV → Value → Prop where
 | v (x : Value) : cQ μ (.v x) x
 | nil (a : Option Addr) (c : Nat) : cQ μ (.lit []) (.slice a 0 c)
 | lit (l : List (List CV)) (b off c sz : Nat) (w : Nat → Nat → Value) (hc : l.length ≤ c)
   (hz : ∀ (i : Nat) (e : List CV), l[i]? = some e → e.length = sz)
   (hw : ∀ (i j : Nat) (e : List CV) (x : CV), l[i]? = some e → e[j]? = some x → μ.c b (off + i * sz + j) = some (w i j) ∧ (w i j).oneCell' = true)
   (hd : ∀ (i j : Nat) (e : List CV) (x : CV), l[i]? = some e → e[j]? = some x → cQ μ x (w i j)) : cQ μ (.lit l) (.slice (some ⟨b, off, none⟩) l.length c)
 | imm (l : List CV) (b off : Nat) (w : Nat → Value)
   (hw : ∀ (j : Nat) (x : CV), l[j]? = some x → μ.c b (off + j) = some (w j)) (hd : ∀ (j : Nat) (x : CV), l[j]? = some x → cQ μ x (w j)) : cQ μ (.imm l) (.pointer (some ⟨b, off, none⟩))
 | lmap (ag : Bool) (l : List (Value × List CV)) (b clk : Nat) (es : Array MapEntry) (w : Nat → Nat → Value) (hm : μ.m b = some (es, clk)) (hn : es.size = l.length)
   (hk : ∀ (i : Nat) (k : Value) (e : List CV), l[i]? = some (k, e) → ∃ m, es[i]? = some m ∧ m.key = k ∧ (ag = true → ∃ cs : Array Value, m.val = .agg cs ∧ cs.size = e.length ∧ ∀ (j : Nat) (x : CV), e[j]? = some x → cs[j]? = some (w i j)) ∧ (ag = false → e.length = 1 ∧ m.val = w i 0))
   (hd : ∀ (i j : Nat) (k : Value) (e : List CV) (x : CV), l[i]? = some (k, e) → e[j]? = some x → cQ μ x (w i j)) : cQ μ (.lmap ag l) (.map (some b))
 | lmapn (ag : Bool) : cQ μ (.lmap ag []) (.map none)
 | fn (f : FuncId) (caps : List CV) (vs : Array Value) (w : Nat → Value) (hn : vs.size = caps.length)
   (hw : ∀ (j : Nat) (x : CV), caps[j]? = some x → vs[j]? = some (w j)) (hd : ∀ (j : Nat) (x : CV), caps[j]? = some x → cQ μ x (w j)) : cQ μ (.fn f caps) (.func (.func f) #[] vs)
theorem cQ.mono {μ μ' : cL} (h : μ.le μ') {x : CV} {v : Value} (hd : cQ μ x v) : cQ μ' x v := by
 induction hd with
 | v x => exact .v x
 | nil a c => exact .nil a c
 | lit l b off c sz w hc hz hw _ ih => exact .lit l b off c sz w hc hz (fun i j e x hi hj => ⟨h.c _ _ _ (hw i j e x hi hj).1, (hw i j e x hi hj).2⟩) ih
 | imm l b off w hw _ ih => exact .imm l b off w (fun j x hj => h.c _ _ _ (hw j x hj)) ih
 | lmap ag l b clk es w hm hn hk _ ih => exact .lmap ag l b clk es w (h.m _ _ hm) hn hk ih
 | lmapn ag => exact .lmapn ag
 | fn f caps vs w hn hw _ ih => exact .fn f caps vs w hn hw ih
def Bk.sl (k : Bk) (len : Nat) : Value := if k.nil then .slice none 0 0 else .slice (some ⟨k.blk, 0, none⟩) len k.cap
def pW (μ : cL) (β : Nat → Bk) : CV → Value → Prop
 | .ptr n off, v => v = .pointer (some ⟨(β n).blk, off, none⟩)
 | .app n l, v => cQ μ (.lit l) v ∧ v = (β n).sl l.length
 | .row n, v => v = (β n).sl (β n).len
 | .mapr n, v => v = .map (some (β n).blk)
 | x, v => cQ μ x v
def Kf (μ : cL) (β : Nat → Bk) : CV → Value → Prop
 | .fn f caps, v => ∃ vs : Array Value, v = .func (.func f) #[] vs ∧ vs.size = caps.length ∧ ∀ (j : Nat) (x : CV), caps[j]? = some x → ∃ y, vs[j]? = some y ∧ pW μ β x y
 | x, v => pW μ β x v
def wQ (μ : cL) (β : Nat → Bk) (l : List CV) (vs : Array Value) : Prop := vs.size = l.length ∧ ∀ (j : Nat) (x : CV), l[j]? = some x → ∃ y, vs[j]? = some y ∧ Kf μ β x y
def Bq (μ : cL) (β : Nat → Bk) : AV → Value → Prop
 | .c x, v => Kf μ β x v
 | .agg l, v => ∃ vs, v = .agg vs ∧ wQ μ β l vs
 | _, _ => False
def uN (μ : cL) (β : Nat → Bk) : AV → Value → Prop
 | .tup l, v => ∃ vs : Array Value, v = .tuple vs ∧ vs.size = l.length ∧ ∀ (j : Nat) (x : AV), l[j]? = some x → ∃ y, vs[j]? = some y ∧ Bq μ β x y
 | x, v => Bq μ β x v
def dL (μ : cL) (β : Nat → Bk) : AV → Value → Prop
 | .cnd gs x, v => if gs.all id = true then uN μ β x v else v = undef
 | x, v => uN μ β x v
theorem pW.mono {μ μ' : cL} {β β' : Nat → Bk} (h : μ.le μ') {x : CV} (hb : ∀ n, n ∈ x.ments1 → β' n = β n) {v : Value} (hd : pW μ β x v) : pW μ' β' x v := by
 cases x with
 | ptr n off => simp only [pW, hb n (by simp [CV.ments1])] at hd ⊢; exact hd
 | row n => simp only [pW, hb n (by simp [CV.ments1])] at hd ⊢; exact hd
 | app n l => simp only [pW, hb n (by simp [CV.ments1])] at hd ⊢; exact ⟨hd.1.mono h, hd.2⟩
 | mapr n => simp only [pW, hb n (by simp [CV.ments1])] at hd ⊢; exact hd
 | v x => exact cQ.mono h hd
 | lit l => exact cQ.mono h hd
 | imm l => exact cQ.mono h hd
 | lmap ag l => exact cQ.mono h hd
 | fn f l => exact cQ.mono h hd
theorem Kf.mono {μ μ' : cL} {β β' : Nat → Bk} (h : μ.le μ') {x : CV} (hb : ∀ n, n ∈ x.ments → β' n = β n) {v : Value} (hd : Kf μ β x v) : Kf μ' β' x v := by
 cases x with
 | fn f caps =>
  obtain ⟨vs, h1, h2, h3⟩ := hd
  refine ⟨vs, h1, h2, fun j x hj => ?_⟩
  obtain ⟨y, hy, hd⟩ := h3 j x hj
  exact ⟨y, hy, hd.mono h fun n hn => hb n (List.mem_flatMap.2 ⟨x, List.mem_of_getElem? hj, hn⟩)⟩
 | v x => exact @pW.mono μ μ' β β' h (.v x) hb v hd
 | lit l => exact @pW.mono μ μ' β β' h (.lit l) hb v hd
 | imm l => exact @pW.mono μ μ' β β' h (.imm l) hb v hd
 | lmap ag l => exact @pW.mono μ μ' β β' h (.lmap ag l) hb v hd
 | ptr n o => exact @pW.mono μ μ' β β' h (.ptr n o) hb v hd
 | app n l => exact @pW.mono μ μ' β β' h (.app n l) hb v hd
 | row n => exact @pW.mono μ μ' β β' h (.row n) hb v hd
 | mapr n => exact @pW.mono μ μ' β β' h (.mapr n) hb v hd
theorem wQ.mono {μ μ' : cL} {β β' : Nat → Bk} (h : μ.le μ') {l : List CV} (hb : ∀ n, n ∈ l.flatMap CV.ments → β' n = β n) {vs : Array Value} (hd : wQ μ β l vs) : wQ μ' β' l vs :=
 ⟨hd.1, fun j x hj => let ⟨y, hy, k⟩ := hd.2 j x hj; ⟨y, hy, k.mono h fun n hn => hb n (List.mem_flatMap.2 ⟨x, List.mem_of_getElem? hj, hn⟩)⟩⟩
theorem Bq.mono {μ μ' : cL} {β β' : Nat → Bk} (h : μ.le μ') {x : AV} (hb : ∀ n, n ∈ x.ments1 → β' n = β n) {v : Value} (hd : Bq μ β x v) : Bq μ' β' x v := by
 cases x with
 | c x => exact Kf.mono h hb hd
 | agg l => exact let ⟨vs, h1, h2⟩ := hd; ⟨vs, h1, h2.mono h hb⟩
 | tup l => exact hd.elim
 | cnd gs x => exact hd.elim
theorem uN.mono {μ μ' : cL} {β β' : Nat → Bk} (h : μ.le μ') {x : AV} (hb : ∀ n, n ∈ x.ments0 → β' n = β n) {v : Value} (hd : uN μ β x v) : uN μ' β' x v := by
 cases x with
 | tup l =>
  obtain ⟨vs, h1, h2, h3⟩ := hd
  refine ⟨vs, h1, h2, fun j x hj => ?_⟩
  obtain ⟨y, hy, hd⟩ := h3 j x hj
  exact ⟨y, hy, hd.mono h fun n hn => hb n (List.mem_flatMap.2 ⟨x, List.mem_of_getElem? hj, hn⟩)⟩
 | c x => exact @Bq.mono μ μ' β β' h (.c x) hb v hd
 | agg l => exact @Bq.mono μ μ' β β' h (.agg l) hb v hd
 | cnd gs x => exact hd.elim
theorem dL.mono {μ μ' : cL} {β β' : Nat → Bk} (h : μ.le μ') {x : AV} (hb : ∀ n, n ∈ x.ments → β' n = β n) {v : Value} (hd : dL μ β x v) : dL μ' β' x v := by
 cases x with
 | cnd gs x =>
  simp only [dL] at hd ⊢
  split
  ·rename_i hg; rw [if_pos hg] at hd; exact uN.mono h hb hd
  ·rename_i hg; rw [if_neg hg] at hd; exact hd
 | tup l => exact @uN.mono μ μ' β β' h (.tup l) hb v hd
 | c x => exact @uN.mono μ μ' β β' h (.c x) hb v hd
 | agg l => exact @uN.mono μ μ' β β' h (.agg l) hb v hd
def qT (μ : cL) (β : Nat → Bk) (W : World) (k : Bk) : bH → Prop
 | .blk T l => k.nil = false ∧ ∃ vs : Array Value, W.heap[k.blk]? = some (.cells vs T (0, 0)) ∧ wQ μ β l vs
 | .tok T sz e => (k.nil = true ∧ e = 0) ∨ (k.nil = false ∧ ∃ vs : Array Value, W.heap[k.blk]? = some (.cells vs T (0, 0)) ∧ vs.size = k.cap * sz ∧ k.cap ≤ maxLen ∧ e ≤ k.cap)
 | .vec T sz l => l.length = k.len ∧ ((k.nil = true ∧ l = []) ∨ (k.nil = false ∧ ∃ vs : Array Value, W.heap[k.blk]? = some (.cells vs T (0, 0)) ∧ vs.size = k.cap * sz ∧ k.cap ≤ maxLen ∧ l.length ≤ k.cap ∧
   ∀ (i : Nat) (e : List CV), l[i]? = some e → e.length = sz ∧ ∀ (j : Nat) (x : CV), e[j]? = some x → ∃ y, vs[i * sz + j]? = some y ∧ y.oneCell' = true ∧ cQ μ x y))
 | .map ag l => k.nil = false ∧ ∃ (es : Array MapEntry) (clk : Nat), W.heap[k.blk]? = some (.map es clk) ∧ es.size = l.length ∧
   ∀ (i : Nat) (key : Value) (e : List CV), l[i]? = some (key, e) → ∃ m, es[i]? = some m ∧ m.key = key ∧ (ag = false → ∃ y, e = [y] ∧ cQ μ y m.val) ∧ (ag = true → ∃ cs : Array Value, m.val = .agg cs ∧ cs.size = e.length ∧ ∀ (j : Nat) (x : CV), e[j]? = some x → ∃ y, cs[j]? = some y ∧ cQ μ x y)
theorem qT.mono {μ μ' : cL} {β β' : Nat → Bk} {W W' : World} {k : Bk} {o : bH} (h : μ.le μ') (hb : ∀ n, n ∈ o.ments → β' n = β n) (hw : k.nil = false → W'.heap[k.blk]? = W.heap[k.blk]?) (hd : qT μ β W k o) : qT μ' β' W' k o := by
 cases o with
 | blk T l =>
  obtain ⟨h0, vs, h1, h2⟩ := hd
  exact ⟨h0, vs, by rw [hw h0]; exact h1, h2.mono h hb⟩
 | tok T sz e =>
  rcases hd with hd | ⟨h0, vs, h1, h2⟩
  ·exact .inl hd
  ·exact .inr ⟨h0, vs, by rw [hw h0]; exact h1, h2⟩
 | vec T sz l =>
  obtain ⟨hl, hd | ⟨h0, vs, h1, h2, h3, h4, h5⟩⟩ := hd
  ·exact ⟨hl, .inl hd⟩
  ·refine ⟨hl, .inr ⟨h0, vs, by rw [hw h0]; exact h1, h2, h3, h4, fun i e hi => ⟨(h5 i e hi).1, fun j x hj => ?_⟩⟩⟩
   obtain ⟨y, hy, h6, k⟩ := (h5 i e hi).2 j x hj
   exact ⟨y, hy, h6, k.mono h⟩
 | map ag l =>
  obtain ⟨h0, es, clk, h1, h2, h3⟩ := hd
  refine ⟨h0, es, clk, by rw [hw h0]; exact h1, h2, fun i key e hi => ?_⟩
  obtain ⟨m, hm, hk, ha, hb'⟩ := h3 i key e hi
  refine ⟨m, hm, hk, fun he => ?_, fun he => ?_⟩
  ·obtain ⟨y, rfl, hy⟩ := ha he
   exact ⟨y, rfl, hy.mono h⟩
  ·obtain ⟨cs, hcs, hsz, hcd⟩ := hb' he
   exact ⟨cs, hcs, hsz, fun j x hj => let ⟨y, hy, hd⟩ := hcd j x hj; ⟨y, hy, hd.mono h⟩⟩
def tR (μ : cL) (b : Nat) : bH → Prop
 | .tok _ sz e => μ.m b = none ∧ ∀ j, e * sz ≤ j → μ.c b j = none
 | _ => μ.m b = none ∧ ∀ j, μ.c b j = none
inductive TK where
 | sl (e : TypeId)
 | arr (n : Nat) (e : TypeId)
 | st (fs : List (TypeId × Nat × Nat))
 | mp (k e : TypeId)
 | str
 | boo
 | int (k : IntKind)
 | oth
structure TI where
 k : TK
 size : Nat
 bytes : Nat
 zero : List Value
def TK.agg : TK → Bool
 | .arr .. => true
 | .st _ => true
 | _ => false
def TK.ok (P : Program) (T : TypeId) : TK → Prop
 | .sl e => P.underlying T = some (.slice e)
 | .arr n e => P.underlying T = some (.array n e)
 | .st fs => ∃ f : Array Field, P.underlying T = some (.struct f) ∧ (∀ (i t o z : Nat), fs[i]? = some (t, o, z) → ∃ x inf, f[i]? = some x ∧ x.type = t ∧ x.offset = o ∧ P.info? t = some inf ∧ inf.size = z) ∧ f.size = fs.length
 | .mp k e => P.underlying T = some (.map k e)
 | .str => P.underlying T = some .string
 | .boo => P.underlying T = some .bool
 | .int k => P.underlying T = some (.int k)
 | .oth => ∃ d, P.underlying T = some d ∧ (match d with | .struct _ | .array _ _ => False | _ => True)
structure TI.ok (P : Program) (T : TypeId) (i : TI) : Prop where
 k : i.k.ok P T
 info : ∃ f, P.info? T = some f ∧ f.size = i.size ∧ f.bytes = i.bytes ∧ ∃ z, f.zero = some z ∧ z.cells.toList = i.zero ∧ (if i.k.agg = true then z = .agg z.cells else z.cells = #[z])
structure oT where
 P : Program
 ti : TypeId → Option TI
 ok : ∀ T i, ti T = some i → i.ok P T
 glob : Nat → Option (List CV)
 mixed : P.follows .mixedOrders = true
def oT.globOk (E : oT) (μ : cL) : Prop := ∀ g l, E.glob g = some l → cQ μ (.imm l) (.pointer (some ⟨g, 0, none⟩))
structure cD where
 E : oT
 n : Nat
 W0 : World
 F : Nat → Prop
 μ0 : cL
 k : Nat
 β0 : Nat → Bk
 ro : Option Nat
 ds : List Deferred
def cD.on (C D : cD) : cD := ⟨C.E, C.n, D.W0, D.F, D.μ0, C.k, D.β0, C.ro, D.ds⟩
def cD.st (E : oT) (n k : Nat) (ro : Option Nat) : cD := ⟨E, n, ⟨#[], fun _ _ => 0, 0, default, #[]⟩, fun _ => False, ⟨fun _ _ => none, fun _ => none⟩, k, fun _ => default, ro, []⟩
structure St where
 fr : Nat → Option AV
 H : Nat → Option bH
 lim : Nat
def St.app (s : St) (dst : Option Nat) (v : Option AV) (wr : List (Nat × Option bH)) : St :=
 {fr := match dst with | none => s.fr | some d => fun t => if t = d then v else s.fr t,
  H := fun n => match wr.lookup n with | some o => o | none => s.H n,
  lim := s.lim }
structure FR (C : cD) (fr : Nat → Option AV) (U : Nat → Prop) (β : Nat → Bk) (μ : cL) (a : Act) : Prop where
 defers : a.defers = C.ds
 size : a.tmps.size = C.n
 den : ∀ t x, fr t = some x → ∃ v, a.tmps[t]? = some v ∧ dL μ β x v
 used : ∀ t x, fr t = some x → ∀ n, n ∈ x.ments → U n
structure fQ (μ : cL) (W : World) : Prop where
 c : ∀ b j v, μ.c b j = some v → ∃ cs T fr, W.heap[b]? = some (.cells cs T fr) ∧ cs[j]? = some v
 m : ∀ b es clk, μ.m b = some (es, clk) → W.heap[b]? = some (.map es clk)
structure WR (C : cD) (H : Nat → Option bH) (U : Nat → Prop) (β : Nat → Bk) (μ : cL) (W : World) : Prop where
 keep : ∀ b, b < C.W0.heap.size → ¬ C.F b → W.heap[b]? = C.W0.heap[b]?
 size : C.W0.heap.size ≤ W.heap.size
 os : W.os = C.W0.os
 tape : W.tape = C.W0.tape
 output : W.output = C.W0.output
 own : ∀ n o, H n = some o → qT μ β W (β n) o
 inj : ∀ n m o p, H n = some o → H m = some p → (β n).nil = false → (β m).nil = false → (β n).blk = (β m).blk → n = m
 imm : fQ μ W
 sep : ∀ n o, H n = some o → (β n).nil = false → tR μ (β n).blk o
 loc : ∀ n o, H n = some o → (β n).nil = false → C.W0.heap.size ≤ (β n).blk ∨ C.F (β n).blk
 used : ∀ n o, H n = some o → U n ∧ ∀ m, m ∈ o.ments → U m
 mu : C.μ0.le μ
 newc : ∀ b j v, μ.c b j = some v → C.μ0.c b j = some v ∨ C.W0.heap.size ≤ b ∨ C.F b
 newm : ∀ b x, μ.m b = some x → C.μ0.m b = some x ∨ C.W0.heap.size ≤ b ∨ C.F b
 glob : C.E.globOk μ
 fix : ∀ n, n < C.k → U n ∧ β n = C.β0 n
structure pV (C : cD) (s : St) (U : Nat → Prop) (β : Nat → Bk) (μ : cL) (a : Act) (W : World) : Prop where
 f : FR C s.fr U β μ a
 w : WR C s.H U β μ W
theorem fQ.drew {μ : cL} {W : World} (h : fQ μ W) (k : Nat) : fQ μ { W with drawn := k } := ⟨h.c, h.m⟩
theorem WR.drew {C : cD} {H : Nat → Option bH} {U : Nat → Prop} {β : Nat → Bk} {μ : cL} {W : World} (h : WR C H U β μ W) (k : Nat) : WR C H U β μ { W with drawn := k } :=
 ⟨h.keep, h.size, h.os, h.tape, h.output, fun n o hn => (h.own n o hn).mono (cL.le_refl μ) (fun _ _ => rfl) (fun _ => rfl), h.inj, h.imm.drew k, h.sep, h.loc, h.used, h.mu, h.newc, h.newm, h.glob, h.fix⟩
theorem FR.weaken {C : cD} {fr : Nat → Option AV} {U U' : Nat → Prop} {β : Nat → Bk} {μ : cL} {a : Act} (h : FR C fr U β μ a) (hu : ∀ n, U n → U' n) : FR C fr U' β μ a :=
 ⟨h.defers, h.size, h.den, fun t x ht n hn => hu n (h.used t x ht n hn)⟩
theorem WR.weaken {C : cD} {H : Nat → Option bH} {U U' : Nat → Prop} {β : Nat → Bk} {μ : cL} {W : World} (h : WR C H U β μ W) (hu : ∀ n, U n → U' n) : WR C H U' β μ W :=
 ⟨h.keep, h.size, h.os, h.tape, h.output, h.own, h.inj, h.imm, h.sep, h.loc, fun n o hn => ⟨hu n (h.used n o hn).1, fun m hm => hu m ((h.used n o hn).2 m hm)⟩, h.mu, h.newc, h.newm, h.glob, fun n hn => ⟨hu n (h.fix n hn).1, (h.fix n hn).2⟩⟩
theorem pV.weaken {C : cD} {s : St} {U U' : Nat → Prop} {β : Nat → Bk} {μ : cL} {a : Act} {W : World} (h : pV C s U β μ a W) (hu : ∀ n, U n → U' n) : pV C s U' β μ a W := ⟨h.f.weaken hu, h.w.weaken hu⟩
theorem FR.mono {C : cD} {fr : Nat → Option AV} {U : Nat → Prop} {β β' : Nat → Bk} {μ μ' : cL} {a : Act} (h : FR C fr U β μ a) (hb : ∀ n, U n → β' n = β n) (hm : μ.le μ') : FR C fr U β' μ' a :=
 ⟨h.defers, h.size, fun t x ht => let ⟨v, hv, hd⟩ := h.den t x ht; ⟨v, hv, hd.mono hm fun n hn => hb n (h.used t x ht n hn)⟩, h.used⟩
theorem FR.put {C : cD} {s : St} {U : Nat → Prop} {β : Nat → Bk} {μ : cL} {a : Act} (h : FR C s.fr U β μ a) {dst : Option Nat} {v : Option AV} {wr : List (Nat × Option bH)} {y : Value}
  (hd : ∀ d, dst = some d → d < C.n) (hv : ∀ x, v = some x → dL μ β x y ∧ ∀ n, n ∈ x.ments → U n) : FR C (s.app dst v wr).fr U β μ (a.put dst y) := by
 cases dst with
 | none => exact h
 | some d =>
  refine ⟨h.defers, by simpa [Act.put] using h.size, fun t x ht => ?_, fun t x ht => ?_⟩
  ·simp only [St.app] at ht
   by_cases e : t = d
   ·subst e
    rw [if_pos rfl] at ht
    exact ⟨y, by simp [Act.put, h.size, hd t rfl], (hv x ht).1⟩
   ·rw [if_neg e] at ht
    obtain ⟨v', hv', hd'⟩ := h.den t x ht
    exact ⟨v', by simp [Act.put, Array.getElem?_setIfInBounds_ne (Ne.symm e), hv'], hd'⟩
  ·simp only [St.app] at ht
   by_cases e : t = d
   ·rw [if_pos e] at ht; exact (hv x ht).2
   ·rw [if_neg e] at ht; exact h.used t x ht
end Go.Bm
namespace Go.Bm
open Go
def uJ (ops : Array Oper) (o : Oper) (foot : List Nat) (s s' : St) : Prop := (∀ t, t ∈ o.looksAt ops → s'.fr t = s.fr t) ∧ ∀ n, n ∈ foot → s'.H n = s.H n
def xP (p : Nat → Prop) (v : Option AV) (wr : List (Nat × Option bH)) : Prop :=
 (∀ x, v = some x → ∀ n, n ∈ x.ments → p n) ∧ ∀ q, q ∈ wr → ∀ ob, q.2 = some ob → ∀ n, n ∈ ob.ments → p n
theorem xP.mono {p q : Nat → Prop} {v : Option AV} {wr : List (Nat × Option bH)} (h : xP p v wr) (k : ∀ n, p n → q n) : xP q v wr :=
 ⟨fun x hx n hn => k n (h.1 x hx n hn), fun r hr ob ho n hn => k n (h.2 r hr ob ho n hn)⟩
def wW (C : cD) (ops : Array Oper) (i : Nat) (o : Oper) (s : St) (v : Option AV) (wr : List (Nat × Option bH)) (foot new : List Nat) : Prop :=
 ∀ (s' : St) (U : Nat → Prop) (β : Nat → Bk) (μ : cL) (a : Act) (W : World), uJ ops o foot s s' → (∀ n, n ∈ new → ¬ U n) →
  xP (fun n => U n ∨ n ∈ new) v wr → pV C s' U β μ a W →
  ∀ (Q : Exit → Act → World → Prop) (K : Act → World → Prop), (∀ β' μ' a' W', pV C (s'.app o.dst v wr) (fun n => U n ∨ n ∈ new) β' μ' a' W' → K a' W') → wpOp C.E.P ops Q i K a W
theorem wW.agree {C : cD} {ops : Array Oper} {i : Nat} {o : Oper} {s s' : St} {v : Option AV} {wr : List (Nat × Option bH)} {foot new : List Nat} (h : wW C ops i o s v wr foot new) (ha : uJ ops o foot s s') : wW C ops i o s' v wr foot new :=
 fun s2 U β μ a W hs => h s2 U β μ a W ⟨fun t ht => (hs.1 t ht).trans (ha.1 t ht), fun n hn => (hs.2 n hn).trans (ha.2 n hn)⟩
def RWs (C : cD) (ops : Array Oper) (b : Nat) : Nat → List Oper → St → (St → Prop) → Prop
 | _, [], s, K => K s
 | i, o :: os, s, K => ∃ v wr foot new, wW C ops i o s v wr foot new ∧ (∀ n, n ∈ new → n = b + i) ∧ xP (fun n => n < b + i ∨ n ∈ new) v wr ∧ RWs C ops b (i + 1) os (s.app o.dst v wr) K
theorem Me {C : cD} {ops : Array Oper} {b : Nat} {Q : Exit → Act → World → Prop} {K : St → Prop} : ∀ (os : List Oper) (i : Nat) (s : St) (β : Nat → Bk) (μ : cL) (a : Act) (W : World), RWs C ops b i os s K →
  (∀ s' β' μ' a' W', K s' → pV C s' (· < b + i + os.length) β' μ' a' W' → Q .normal a' W') → pV C s (· < b + i) β μ a W → wpOps C.E.P ops Q (List.range' i os.length) a W
 | [], i, s, β, μ, a, W, h, hq, hr => by
  simp only [List.length_nil, List.range'_zero, wpOps]
  exact hq s β μ a W h (by simpa using hr)
 | o :: os, i, s, β, μ, a, W, ⟨v, wr, foot, new, ho, hn, hv, h⟩, hq, hr => by
  rw [List.length_cons, List.range'_succ, wpOps_cons]
  refine ho s (· < b + i) β μ a W ⟨fun _ _ => rfl, fun _ _ => rfl⟩ (fun n h1 h2 => ?_) hv hr Q _ fun β' μ' a' W' hr' => ?_
  ·have := hn n h1; omega
  ·refine Me os (i + 1) _ β' μ' a' W' h (fun s' β' μ' a' W' hk hr => hq s' β' μ' a' W' hk (hr.weaken fun n hn => ?_)) (hr'.weaken fun n h1 => ?_)
   ·simp only [List.length_cons] at hn ⊢; omega
   ·rcases h1 with h1 | h1
    ·omega
    ·have := hn n h1; omega
structure sU (D : Nat) (H : Nat → Option bH) (β : Nat → Bk) (μ : cL) (W : World) : Prop where
 own : ∀ n ob, H n = some ob → (β n).nil = false → (β n).blk ≠ D
 c : ∀ j, μ.c D j = none
 m : μ.m D = none
def wD (D : Nat) : Deferred := { target := .collected D, args := #[] }
structure cD.Le (C C' : cD) : Prop where
 wr : ∀ H U β μ W, WR C' H U β μ W → WR C H U β μ W
 sz : C.W0.heap.size ≤ C'.W0.heap.size
 ds : ∃ ms : List Nat, C'.ds = ms.map wD ++ C.ds ∧ ms.Nodup ∧ ∀ D, D ∈ ms → C.W0.heap.size ≤ D ∧ D < C'.W0.heap.size ∧ ∀ H U β μ W, WR C' H U β μ W → sU D H β μ W ∧ W.heap[D]? = some (.deferred (some []))
theorem cD.Le.refl (C : cD) : C.Le C := ⟨fun _ _ _ _ _ h => h, Nat.le_refl _, [], rfl, .nil, fun D hD => nomatch hD⟩
theorem cD.Le.trans {A B C : cD} (h : A.Le B) (k : B.Le C) : A.Le C := by
 obtain ⟨h1, h2, ms, h3, h4, h5⟩ := h
 obtain ⟨k1, k2, ns, k3, k4, k5⟩ := k
 refine ⟨fun H U β μ W hw => h1 _ _ _ _ _ (k1 _ _ _ _ _ hw), Nat.le_trans h2 k2, ns ++ ms, by rw [k3, h3]; simp, ?_, fun D hD => ?_⟩
 ·refine List.nodup_append.2 ⟨k4, h4, fun x hx y hy e => ?_⟩
  have := (k5 x hx).1
  have := (h5 y hy).2.1
  omega
 ·rcases List.mem_append.1 hD with hD | hD
  ·obtain ⟨a, b, c⟩ := k5 D hD
   exact ⟨Nat.le_trans h2 a, b, c⟩
  ·obtain ⟨a, b, c⟩ := h5 D hD
   exact ⟨a, Nat.lt_of_lt_of_le b k2, fun H U β μ W hw => c H U β μ W (k1 _ _ _ _ _ hw)⟩
def nU (ro : Option Nat) : Fence := { Fence.wide with round := ro }
def AW (C : cD) (c : Code) (s : St) (K : Exit → St → Prop) : Prop :=
 ∀ D β μ a W, pV (C.on D) s (· < s.lim) β μ a W → c.wpIn (nU C.ro) 0 C.E.P (fun e a' W' => ∃ D' s' β' μ', (C.on D).Le (C.on D') ∧ K e s' ∧ pV (C.on D') s' (· < s'.lim) β' μ' a' W') a W
def wR (C : cD) (ops : Array Oper) : Bool := match C.ro with
 | none => true
 | some _ => ops.all fun o => match o.op with | .defer _ => false | _ => true
theorem upon_in {P : Program} {ro : Option Nat} {o : Oper} {a : Act} {next next' : Act → World → Prop} {Q : Exit → Act → World → Prop} (hn : ∀ a w, next a w → next' a w) : ∀ {r : Result Next}, o.upon P a next Q r → o.uponIn (nU ro) 0 P a next' Q r
 | .ok (.value v) w', h => hn _ _ h
 | .ok .skip w', h => hn _ _ h
 | .ok (.defer d) w', h => hn _ _ h
 | .ok (.enter f args) w', h => by
  rw [Oper.uponIn_enter]
  refine ⟨fun h => by simp [nU, Fence.wide] at h, ?_⟩
  have h2 : Calls P f args w' fun | .returned v, w'' => next' (a.put o.dst v) w'' | .panicked chain, w'' => Q (.panic chain) a w'' | .outgrown, _ => LetsOut Q := Calls.mono h fun e w'' he => by
   cases e with
   | returned v => exact hn _ _ he
   | panicked chain => exact he
   | outgrown => exact he
  exact callsIn_wide.2 h2
 | .ok (.row row args) w', h => by
  rw [Oper.uponIn_row]
  refine ⟨fun h => by simp [nU, Fence.wide] at h, fun c cs _ => ?_⟩
  obtain ⟨v, w'', hv, hs⟩ := h c cs
  exact ⟨v, w'', hn _ _ hv, stepsIn_wide.2 hs⟩
 | .halt (.panic v) w', h => h
theorem xC {C : cD} {ops : Array Oper} (hnd : wR C ops = true) {Q : Exit → Act → World → Prop} (hQ : ¬ LetsOut Q) : ∀ (l : List Nat) (a : Act) (W : World), wpOps C.E.P ops Q l a W → wpOpsIn (nU C.ro) 0 C.E.P ops Q l a W
 | [], a, W, h => h
 | i :: l, a, W, h => by
  unfold wpOps at h
  unfold wpOpsIn
  cases hi : ops[i]? with
  | none => rw [hi] at h; exact xC hnd hQ l a W h
  | some o =>
   rw [hi] at h
   simp only at h ⊢
   split
   ·rename_i hw
    rw [if_pos hw] at h
    have h := h.resolve_right fun h => hQ h.2
    have hs : o.semAt C.ro a.eval = execOp a.eval o := by
     cases hro : C.ro with
     | none => rfl
     | some l =>
      refine Oper.semAt_eq _ _ _ fun c hc => ?_
      simp only [wR, hro] at hnd
      have := Array.all_eq_true'.1 hnd o (Array.mem_of_getElem? hi)
      rw [hc] at this
      cases this
    refine ⟨fun f _ => trivial, ?_⟩
    show o.uponIn (nU C.ro) 0 C.E.P a _ Q ((o.semAt C.ro a.eval).run C.E.P W)
    rw [hs]
    exact upon_in (fun a w h => xC hnd hQ l a w h) h
   ·rename_i hw
    rw [if_neg hw] at h
    exact ⟨fun f _ => trivial, xC hnd hQ l _ W h⟩
theorem Xb {C : cD} {id : Nat} {ops : Array Oper} {s : St} {K : Exit → St → Prop} (h : ∀ D, RWs (C.on D) ops s.lim 0 ops.toList s fun s' => K .normal { s' with lim := s.lim + ops.size }) (hnd : wR C ops = true) : AW C (.region id ops false) s K :=
 fun D β μ a W hr => wpIn_mono (wpIn_region (Q := fun e a' W' => e = .normal ∧ ∃ D' s' β' μ', (C.on D).Le (C.on D') ∧ K .normal s' ∧ pV (C.on D') s' (· < s'.lim) β' μ' a' W') (by
  refine xC hnd (by rintro ⟨_, _, h, _⟩; cases h) _ _ _ ?_
  rw [List.range_eq_range', ← Array.length_toList]
  exact Me (C := C.on D) ops.toList 0 s β μ a W (h D) (fun s' β' μ' a' W' hk hr' => ⟨rfl, D, _, β', μ', .refl _, hk, ⟨hr'.f.weaken fun n hn => by simpa using hn, hr'.w.weaken fun n hn => by simpa using hn⟩⟩) (by simpa using hr))) fun e a' W' ⟨he, hq⟩ => he ▸ hq
structure Sb where
 i : Nat
 o : Oper
 v : Option AV
 wr : List (Nat × Option bH)
 foot : List Nat
 new : List Nat
def Ax (C : cD) (ops : Array Oper) : List Sb → St → (St → Prop) → Prop
 | [], s, K => K s
 | r :: rs, s, K => wW C ops r.i r.o s r.v r.wr r.foot r.new ∧ Ax C ops rs (s.app r.o.dst r.v r.wr) K
structure Fx where
 foot : List Nat
 wr : List Nat
def Fx.apart (f g : Fx) : Bool := f.wr.all (fun n => !g.foot.contains n && !g.wr.contains n) && g.wr.all (fun n => !f.foot.contains n)
def Sb.fx (r : Sb) : Fx := ⟨r.foot, r.wr.map (·.1)⟩
theorem xH {α : Type} {n : Nat} : ∀ {l : List (Nat × α)}, n ∉ l.map (·.1) → l.lookup n = none
 | [], _ => rfl
 | p :: l, h => by
  simp only [List.map_cons, List.mem_cons, not_or] at h
  rw [List.lookup_cons, show (n == p.1) = false from by simpa using h.1]
  exact xH h.2
theorem Jg {α : Type} {n : Nat} {x : α} : ∀ {l : List (Nat × α)}, l.lookup n = some x → n ∈ l.map (·.1)
 | [], h => by simp at h
 | p :: l, h => by
  rw [List.lookup_cons] at h
  by_cases e : n = p.1
  ·simp [e]
  ·rw [show (n == p.1) = false from by simpa using e] at h
   exact List.mem_cons_of_mem _ (Jg h)
theorem Fx.apart_spec {f g : Fx} (h : f.apart g = true) : (∀ n, n ∈ f.wr → n ∉ g.foot ∧ n ∉ g.wr) ∧ ∀ n, n ∈ g.wr → n ∉ f.foot := by
 simp only [Fx.apart, Bool.and_eq_true, List.all_eq_true, Bool.not_eq_true', List.contains_eq_mem, decide_eq_false_iff_not] at h
 exact h
theorem app_comm (s : St) {r q : Sb} (hd : ∀ d, r.o.dst = some d → q.o.dst ≠ some d) (hw : ∀ n, n ∈ r.wr.map (·.1) → n ∉ q.wr.map (·.1)) :
  (s.app r.o.dst r.v r.wr).app q.o.dst q.v q.wr = (s.app q.o.dst q.v q.wr).app r.o.dst r.v r.wr := by
 unfold St.app
 congr 1
 ·cases h1 : r.o.dst with
  | none => rfl
  | some d =>
   cases h2 : q.o.dst with
   | none => rfl
   | some e =>
    have hne : d ≠ e := fun he => hd d h1 (by rw [h2, he])
    funext t
    simp only
    by_cases e1 : t = d
    ·rw [if_pos e1, if_pos e1, if_neg (fun e2 => hne (e1.symm.trans e2))]
    ·simp only [if_neg e1]
 ·funext n
  cases h1 : r.wr.lookup n with
  | none => simp only [h1]
  | some x =>
   have := xH (hw n (Jg h1))
   simp only [this, h1]
theorem Mm {ops : Array Oper} {r q : Sb} (s : St) (hd : ∀ d, r.o.dst = some d → d ∉ q.o.looksAt ops) (hw : ∀ n, n ∈ r.wr.map (·.1) → n ∉ q.foot) : uJ ops q.o q.foot s (s.app r.o.dst r.v r.wr) := by
 refine ⟨fun t ht => ?_, fun n hn => ?_⟩
 ·unfold St.app
  cases h1 : r.o.dst with
  | none => rfl
  | some d =>
   simp only
   rw [if_neg (fun e => hd d h1 (by rw [← e]; exact ht))]
 ·unfold St.app
  simp only
  rw [xH (fun h => hw n h hn)]
theorem uJ.symm {ops : Array Oper} {o : Oper} {foot : List Nat} {s s' : St} (h : uJ ops o foot s s') : uJ ops o foot s' s := ⟨fun t ht => (h.1 t ht).symm, fun n hn => (h.2 n hn).symm⟩
def Sb.apart (ops : Array Oper) (r q : Sb) : Prop := r.o.apart ops q.o = true ∧ r.fx.apart q.fx = true
theorem Ax.pull {C : cD} {ops : Array Oper} {K : St → Prop} {q : Sb} {l2 : List Sb} : ∀ {l1 : List Sb} {s : St}, (∀ r, r ∈ l1 → r.apart ops q) → Ax C ops (l1 ++ q :: l2) s K → Ax C ops (q :: (l1 ++ l2)) s K
 | [], s, _, h => h
 | r :: l1, s, ha, ⟨h1, h2⟩ => by
  obtain ⟨h3, h4⟩ := Ax.pull (fun x hx => ha x (List.mem_cons_of_mem _ hx)) h2
  obtain ⟨a1, a2⟩ := ha r (List.mem_cons_self ..)
  obtain ⟨b1, b2, b3⟩ := Oper.apart_spec a1
  obtain ⟨c1, c2⟩ := Fx.apart_spec a2
  refine ⟨h3.agree (Mm s b1 fun n hn => (c1 n hn).1).symm, h1.agree (Mm s b3 fun n hn => c2 n hn), ?_⟩
  rw [← app_comm s b2 fun n hn => (c1 n hn).2]
  exact h4
def Yd (o : Oper) : List Nat := o.after.toList.filterMap fun e => if Region.binds .any e then some e.on else none
def Uo (ops : Array Oper) (T : List (List Nat)) : Bool :=
 (List.range ops.size).all fun j => (T.getD j []).all fun i => match ops[j]? with
  | some o => (Yd o).contains i || (Yd o).any fun k => decide (k < j) && (T.getD k []).contains i
  | none => false
def Ei (ops : Array Oper) (T : List (List Nat)) : Bool :=
 (Uo ops T && (List.range ops.size).all fun j => match ops[j]? with | some o => (Yd o).all fun k => decide (k < j) | none => true) && (List.range ops.size).all fun j => (List.range j).all fun i => (T.getD j []).contains i || match ops[i]?, ops[j]? with | some x, some y => x.apart ops y | _, _ => false
def RWd (C : cD) (ops : Array Oper) (T : List (List Nat)) (b : Nat) : Nat → List Oper → List (Nat × Fx) → St → (St → Prop) → Prop
 | _, [], _, s, K => K s
 | i, o :: os, done, s, K => ∃ v wr foot new, wW C ops i o s v wr foot new ∧ (∀ n, n ∈ new → n = b + i) ∧ xP (fun n => n < b ∨ (n ∈ new ∨ ∃ k, k ∈ T.getD i [] ∧ n = b + k)) v wr ∧
   (∀ p, p ∈ done → p.1 ∈ T.getD i [] ∨ p.2.apart ⟨foot, wr.map (·.1)⟩ = true) ∧ RWd C ops T b (i + 1) os (done ++ [(i, ⟨foot, wr.map (·.1)⟩)]) (s.app o.dst v wr) K
structure Good (ops : Array Oper) (T : List (List Nat)) (b : Nat) (r : Sb) : Prop where
 at_ : ops[r.i]? = some r.o
 new : ∀ n, n ∈ r.new → n = b + r.i
 ment : xP (fun n => n < b ∨ (n ∈ r.new ∨ ∃ k, k ∈ T.getD r.i [] ∧ n = b + k)) r.v r.wr
def To (ops : Array Oper) (T : List (List Nat)) (r q : Sb) : Prop := r.i < q.i ∧ (r.i ∈ T.getD q.i [] ∨ r.fx.apart q.fx = true)
theorem Lz {C : cD} {ops : Array Oper} {T : List (List Nat)} {b : Nat} {K : St → Prop} : ∀ (os : List Oper) (i : Nat) (done : List (Nat × Fx)) (s : St), (∀ j, os[j]? = ops[i + j]?) → RWd C ops T b i os done s K →
  ∃ l : List Sb, Ax C ops l s K ∧ (∀ r, r ∈ l → Good ops T b r) ∧ l.Pairwise (To ops T) ∧ (∀ r, r ∈ l → i ≤ r.i ∧ ∀ p, p ∈ done → p.1 ∈ T.getD r.i [] ∨ p.2.apart r.fx = true) ∧ (l.map (·.i)) = List.range' i os.length
 | [], i, done, s, _, h => ⟨[], h, by simp, by simp, by simp, by simp⟩
 | o :: os, i, done, s, hi, ⟨v, wr, foot, new, ho, hn, hm, hd, h⟩ => by
  obtain ⟨l, h1, h2, h3, h4, h5⟩ := Lz os (i + 1) _ _ (fun j => by have := hi (j + 1); simpa [Nat.add_assoc, Nat.add_comm 1 j] using this) h
  refine ⟨⟨i, o, v, wr, foot, new⟩ :: l, ⟨ho, h1⟩, ?_, ?_, ?_, by simp [h5, List.range'_succ]⟩
  ·intro r hr
   rcases List.mem_cons.1 hr with rfl | hr
   ·exact ⟨by simpa using (hi 0).symm, hn, hm⟩
   ·exact h2 r hr
  ·refine List.pairwise_cons.2 ⟨fun r hr => ?_, h3⟩
   obtain ⟨h6, h7⟩ := h4 r hr
   refine ⟨by show i < r.i; omega, ?_⟩
   exact h7 (i, ⟨foot, wr.map (·.1)⟩) (by simp)
  ·intro r hr
   rcases List.mem_cons.1 hr with rfl | hr
   ·exact ⟨Nat.le_refl _, hd⟩
   ·obtain ⟨h6, h7⟩ := h4 r hr
    exact ⟨by omega, fun p hp => h7 p (List.mem_append_left _ hp)⟩
theorem Ik {ops : Array Oper} {listed : Array Bool} {j : Nat} (h : j ∈ Region.ready .any ops listed) : listed.getD j true = false ∧ ∃ o, ops[j]? = some o ∧ ∀ k, k ∈ Yd o → listed.getD k false = true := by
 simp only [Region.ready, List.mem_filter, Bool.and_eq_true, Bool.not_eq_true'] at h
 refine ⟨h.2.1, ?_⟩
 cases ho : ops[j]? with
 | none => have := h.2.2; simp [ho] at this
 | some o =>
  refine ⟨o, rfl, fun k hk => ?_⟩
  have h2 := h.2.2
  simp only [ho, Option.map_some, Option.getD_some, Array.all_eq_true_iff_forall_mem] at h2
  obtain ⟨e, he, hk⟩ := List.mem_filterMap.1 hk
  have h3 := h2 e (by simpa using he)
  by_cases hb : Region.binds .any e = true
  ·rw [if_pos hb] at hk
   simp only [Option.some.injEq] at hk
   subst hk
   simpa [hb] using h3
  ·rw [if_neg hb] at hk; cases hk
def Closed (ops : Array Oper) (listed : Array Bool) : Prop := ∀ (j : Nat) (o : Oper), listed.getD j false = true → ops[j]? = some o → ∀ k, k ∈ Yd o → listed.getD k false = true
theorem Hr {ops : Array Oper} {T : List (List Nat)} (hT : Uo ops T = true) {listed : Array Bool} (hc : Closed ops listed) : ∀ (m j : Nat) (o : Oper), j < m → ops[j]? = some o → (∀ k, k ∈ Yd o → listed.getD k false = true) → ∀ i, i ∈ T.getD j [] → listed.getD i false = true
 | 0, j, _, h, _, _, _, _ => by omega
 | m + 1, j, o, hj, ho, hd, i, hi => by
  have hlt : j < ops.size := (Array.getElem?_eq_some_iff.1 ho).1
  simp only [Uo, List.all_eq_true, List.mem_range] at hT
  have := hT j hlt i hi
  simp only [ho, Bool.or_eq_true, List.contains_eq_mem, decide_eq_true_eq, List.any_eq_true, Bool.and_eq_true] at this
  rcases this with h | ⟨k, hk, hkj, hik⟩
  ·exact hd i h
  ·cases hok : ops[k]? with
   | none => exact absurd (Array.getElem?_eq_none_iff.1 hok) (by omega)
   | some ok =>
    exact Hr (by simp only [Uo, List.all_eq_true, List.mem_range]; exact hT) hc m k ok (by omega) hok (hc k ok (hd k hk) hok) i hik
theorem pK {listed : Array Bool} {i : Nat} (b : Bool) (h : i < listed.size) : (listed.setIfInBounds i true).getD i b = true := by
 simp [h]
theorem rQ {listed : Array Bool} {i j : Nat} (b : Bool) (h : i ≠ j) : (listed.setIfInBounds i true).getD j b = listed.getD j b := by
 simp [Array.getElem?_setIfInBounds_ne h]
theorem Pt {C : cD} {ops : Array Oper} {T : List (List Nat)} {b : Nat} {Q : Exit → Act → World → Prop} {K : St → Prop} (hT : Ei ops T = true)
  (hq : ∀ s' β' μ' a' W', K s' → pV C s' (· < b + ops.size) β' μ' a' W' → Q .normal a' W') : ∀ (fuel : Nat) (l : List Sb) (listed : Array Bool) (s : St) (β : Nat → Bk) (μ : cL) (a : Act) (W : World), l.length ≤ fuel → listed.size = ops.size → Ax C ops l s K → (∀ r, r ∈ l → Good ops T b r) → l.Pairwise (To ops T) →
  (∀ i, i < ops.size → (listed.getD i false = false ↔ ∃ r, r ∈ l ∧ r.i = i)) → Closed ops listed → pV C s (fun n => n < b ∨ ∃ k, n = b + k ∧ listed.getD k false = true) β μ a W →
  wpAny C.E.P .any ops Q fuel listed a W := by
 have hT' := hT
 simp only [Ei, Bool.and_eq_true] at hT'
 obtain ⟨⟨hT1, hT3⟩, hT2⟩ := hT'
 simp only [List.all_eq_true, List.mem_range] at hT2 hT3
 have hend : ∀ (l : List Sb) (listed : Array Bool) (s : St) (β : Nat → Bk) (μ : cL) (a : Act) (W : World), listed.size = ops.size → l = [] → Ax C ops l s K → pV C s (fun n => n < b ∨ ∃ k, n = b + k ∧ listed.getD k false = true) β μ a W → Q .normal a W := by
  intro l listed s β μ a W hs hl hc hr
  subst hl
  refine hq s β μ a W hc (hr.weaken fun n hn => ?_)
  rcases hn with hn | ⟨k, rfl, hk⟩
  ·show n < _; omega
  ·have : k < listed.size := by
    rcases Nat.lt_or_ge k listed.size with h | h
    ·exact h
    ·simp [Array.getElem?_eq_none h] at hk
   show b + k < _; omega
 have hno : ∀ (l : List Sb) (listed : Array Bool), listed.size = ops.size → (∀ r, r ∈ l → Good ops T b r) → l.Pairwise (To ops T) → (∀ i, i < ops.size → (listed.getD i false = false ↔ ∃ r, r ∈ l ∧ r.i = i)) → Region.ready .any ops listed = [] → l = [] := by
  intro l listed hs hg hp hl hr
  cases l with
  | nil => rfl
  | cons r l =>
   exfalso
   have hgr := hg r (List.mem_cons_self ..)
   have hlt : r.i < ops.size := (Array.getElem?_eq_some_iff.1 hgr.at_).1
   have hf : listed.getD r.i false = false := (hl r.i hlt).2 ⟨r, List.mem_cons_self .., rfl⟩
   have hmem : r.i ∈ Region.ready .any ops listed := by
    simp only [Region.ready, List.mem_filter, List.mem_range, hlt, true_and, Bool.and_eq_true, Bool.not_eq_true', hgr.at_, Option.map_some, Option.getD_some, Array.all_eq_true_iff_forall_mem]
    refine ⟨?_, fun e he => ?_⟩
    ·have h1 : r.i < listed.size := by omega
     simpa [Array.getElem?_eq_getElem h1] using hf
    ·by_cases hb : Region.binds .any e = true
     ·have hk : e.on < r.i := by
       have := hT3 r.i hlt
       simp only [hgr.at_, List.all_eq_true, decide_eq_true_eq] at this
       exact this e.on (List.mem_filterMap.2 ⟨e, by simpa using he, by rw [if_pos hb]⟩)
      simp only [hb, Bool.not_true, Bool.false_or]
      cases hle : listed.getD e.on false with
      | true => rfl
      | false =>
       obtain ⟨q, hq, hqi⟩ := (hl e.on (by omega)).1 hle
       rcases List.mem_cons.1 hq with rfl | hq
       ·omega
       ·have := (List.pairwise_cons.1 hp).1 q hq
        have := this.1
        omega
     ·simp [hb]
   rw [hr] at hmem
   exact absurd hmem (by simp)
 intro fuel
 induction fuel with
 | zero =>
  intro l listed s β μ a W hlen hs hc hg hp hl hcl hr
  have hl0 : l = [] := List.length_eq_zero_iff.1 (by omega)
  refine ⟨?_, hend l listed s β μ a W hs hl0 hc hr⟩
  cases hrd : Region.ready .any ops listed with
  | nil => rfl
  | cons j js =>
   have := Ik (ops := ops) (listed := listed) (j := j) (by rw [hrd]; exact List.mem_cons_self ..)
   obtain ⟨h1, o, ho, -⟩ := this
   have hlt : j < ops.size := (Array.getElem?_eq_some_iff.1 ho).1
   have : listed.getD j false = false := by
    have h2 : j < listed.size := by omega
    simpa [Array.getElem?_eq_getElem h2] using h1
   obtain ⟨r, hr, _⟩ := (hl j hlt).1 this
   rw [hl0] at hr
   exact absurd hr (by simp)
 | succ fuel ih =>
  intro l listed s β μ a W hlen hs hc hg hp hl hcl hr
  refine ⟨fun h0 => hend l listed s β μ a W hs (hno l listed hs hg hp hl h0) hc hr, fun i hi => ?_⟩
  obtain ⟨h1, o, ho, hdo⟩ := Ik hi
  have hlt : i < ops.size := (Array.getElem?_eq_some_iff.1 ho).1
  have hlt2 : i < listed.size := by omega
  have hf : listed.getD i false = false := by simpa [Array.getElem?_eq_getElem hlt2] using h1
  obtain ⟨r, hrl, hri⟩ := (hl i hlt).1 hf
  obtain ⟨l1, l2, rfl⟩ := List.append_of_mem hrl
  have hgr := hg r hrl
  have hro : r.o = o := by have := hgr.at_; rw [hri, ho] at this; exact (Option.some.inj this).symm
  have hanc : ∀ k, k ∈ T.getD i [] → listed.getD k false = true := Hr hT1 hcl (i + 1) i o (Nat.lt_succ_self _) ho hdo
  have hp' := List.pairwise_append.1 hp
  have hap : ∀ q, q ∈ l1 → q.apart ops r := by
   intro q hq
   have hb := hp'.2.2 q hq r (List.mem_cons_self ..)
   have hgq := hg q (List.mem_append_left _ hq)
   have hqlt : q.i < ops.size := (Array.getElem?_eq_some_iff.1 hgq.at_).1
   have hqf : listed.getD q.i false = false := (hl q.i hqlt).2 ⟨q, List.mem_append_left _ hq, rfl⟩
   have hqn : q.i ∉ T.getD r.i [] := fun hm => by
    have := hanc q.i (hri ▸ hm)
    rw [hqf] at this
    cases this
   refine ⟨?_, hb.2.resolve_left hqn⟩
   have h4 := hT2 r.i (hri ▸ hlt) q.i hb.1
   simp only [Bool.or_eq_true, List.contains_eq_mem, decide_eq_true_eq, hgq.at_, hgr.at_] at h4
   exact h4.resolve_left hqn
  obtain ⟨h5, h6⟩ := Ax.pull hap hc
  have hU : ∀ n, n ∈ r.new → ¬ (n < b ∨ ∃ k, n = b + k ∧ listed.getD k false = true) := by
   intro n hn hu
   have := hgr.new n hn
   rcases hu with hu | ⟨k, hk, hkl⟩
   ·omega
   ·have : k = i := by omega
    subst this
    rw [hf] at hkl
    cases hkl
  rw [← hri]
  refine h5 s _ β μ a W ⟨fun _ _ => rfl, fun _ _ => rfl⟩ hU (hgr.ment.mono fun n hn => ?_) hr Q _ fun β' μ' a' W' hr' => ?_
  ·rcases hn with hn | hn | ⟨k, hk, rfl⟩
   ·exact .inl (.inl hn)
   ·exact .inr hn
   ·exact .inl (.inr ⟨k, rfl, hanc k (hri ▸ hk)⟩)
  ·refine ih (l1 ++ l2) _ _ β' μ' a' W' ?_ (by simpa using hs) h6 (fun q hq => hg q ?_) ?_ ?_ ?_ (hr'.weaken fun n hn => ?_)
   ·simp only [List.length_append, List.length_cons] at hlen ⊢; omega
   ·rcases List.mem_append.1 hq with hq | hq
    ·exact List.mem_append_left _ hq
    ·exact List.mem_append_right _ (List.mem_cons_of_mem _ hq)
   ·refine List.pairwise_append.2 ⟨hp'.1, (List.pairwise_cons.1 hp'.2.1).2, fun x hx y hy => hp'.2.2 x hx y (List.mem_cons_of_mem _ hy)⟩
   ·intro j hj
    have hne : ∀ q, q ∈ l1 ++ l2 → q.i ≠ i := by
     intro q hq
     rcases List.mem_append.1 hq with hq | hq
     ·have := (hp'.2.2 q hq r (List.mem_cons_self ..)).1; omega
     ·have := ((List.pairwise_cons.1 hp'.2.1).1 q hq).1; omega
    rw [hri]
    by_cases e : j = i
    ·subst e
     constructor
     ·intro h
      rw [pK _ hlt2] at h
      cases h
     ·rintro ⟨q, hq, hqi⟩
      exact absurd hqi (hne q hq)
    ·rw [rQ _ (Ne.symm e)]
     rw [hl j hj]
     constructor
     ·rintro ⟨q, hq, hqi⟩
      refine ⟨q, ?_, hqi⟩
      rcases List.mem_append.1 hq with hq | hq
      ·exact List.mem_append_left _ hq
      ·rcases List.mem_cons.1 hq with rfl | hq
       ·exact absurd (hqi.symm.trans hri) e
       ·exact List.mem_append_right _ hq
     ·rintro ⟨q, hq, hqi⟩
      refine ⟨q, ?_, hqi⟩
      rcases List.mem_append.1 hq with hq | hq
      ·exact List.mem_append_left _ hq
      ·exact List.mem_append_right _ (List.mem_cons_of_mem _ hq)
   ·intro j oj hj hoj k hk
    rw [hri] at hj ⊢
    by_cases e : k = i
    ·subst e; exact pK _ hlt2
    ·rw [rQ _ (Ne.symm e)]
     by_cases e2 : j = i
     ·subst e2
      rw [ho] at hoj
      cases hoj
      exact hdo k hk
     ·rw [rQ _ (Ne.symm e2)] at hj
      exact hcl j oj hj hoj k hk
   ·rw [hri]
    rcases hn with (hn | ⟨k, hk, hkl⟩) | hn
    ·exact .inl hn
    ·refine .inr ⟨k, hk, ?_⟩
     by_cases e : k = i
     ·subst e; exact pK _ hlt2
     ·rw [rQ _ (Ne.symm e)]; exact hkl
    ·have := hgr.new n hn
     rw [hri] at this
     exact .inr ⟨i, this, pK _ hlt2⟩
theorem Hj {C : cD} {id : Nat} {ops : Array Oper} {T : List (List Nat)} {s : St} {K : Exit → St → Prop} (hT : Ei ops T = true) (h : ∀ D, RWd (C.on D) ops T s.lim 0 ops.toList [] s fun s' => K .normal { s' with lim := s.lim + ops.size }) (hnd : wR C ops = true) : AW C (.region id ops true) s K := by
 intro D β μ a W hr
 obtain ⟨l, h1, h2, h3, -, h5⟩ := Lz ops.toList 0 [] s (fun j => by simp) (h D)
 refine wpIn_mono (wpIn_region_draw (Q := fun e a' W' => e = .normal ∧ ∃ D' s' β' μ', (C.on D).Le (C.on D') ∧ K .normal s' ∧ pV (C.on D') s' (· < s'.lim) β' μ' a' W') fun t => xC hnd (by rintro ⟨_, _, h, _⟩; cases h) _ _ _ ?_) fun e a' W' ⟨he, hq⟩ => he ▸ hq
 simp only [Region.schedule, C.E.mixed, Bool.true_or, if_true]
 refine wpAny_sound ops.size t _ a _ (Pt (C := C.on D) hT (fun s' β' μ' a' W' hk hr' => ⟨rfl, D, _, β', μ', .refl _, hk, ⟨hr'.f.weaken fun n hn => hn, hr'.w.weaken fun n hn => hn⟩⟩) ops.size l _ s β μ a _ ?_ (by simp) h1 h2 h3 ?_ ?_ ⟨hr.f.weaken fun n hn => .inl hn, (hr.w.weaken fun n hn => .inl hn).drew _⟩)
 ·have := congrArg List.length h5
  simp only [List.length_map, List.length_range', Array.length_toList] at this
  omega
 ·intro i hi
  constructor
  ·intro _
   have : i ∈ l.map (·.i) := by rw [h5]; simp [List.mem_range']; omega
   obtain ⟨r, hr, hri⟩ := List.mem_map.1 this
   exact ⟨r, hr, hri⟩
  ·intro _
   simp [hi]
 ·intro j o hj
  exfalso
  by_cases hlt : j < ops.size
  ·simp [hlt] at hj
  ·simp [hlt] at hj
end Go.Bm
namespace Go.Bm
open Go
def AV.of : Value → AV
 | .agg cs => .agg (cs.toList.map .v)
 | .tuple vs => .tup (vs.toList.map fun v => .c (.v v))
 | v => .c (.v v)
theorem Nz (μ : cL) (β : Nat → Bk) (cs : Array Value) : wQ μ β (cs.toList.map .v) cs := by
 refine ⟨by simp, fun j x hj => ?_⟩
 rw [List.getElem?_map] at hj
 cases h : cs.toList[j]? with
 | none => simp [h] at hj
 | some y =>
  rw [h] at hj
  simp only [Option.map_some, Option.some.injEq] at hj
  subst hj
  exact ⟨y, by simpa using h, .v y⟩
theorem AV.of_den (μ : cL) (β : Nat → Bk) (v : Value) : dL μ β (AV.of v) v := by
 cases v with
 | agg cs => exact ⟨cs, rfl, Nz μ β cs⟩
 | tuple vs =>
  refine ⟨vs, rfl, by simp, fun j x hj => ?_⟩
  rw [List.getElem?_map] at hj
  cases h : vs.toList[j]? with
  | none => simp [h] at hj
  | some y =>
   rw [h] at hj
   simp only [Option.map_some, Option.some.injEq] at hj
   subst hj
   exact ⟨y, by simpa using h, .v y⟩
 | _ => exact .v _
theorem AV.of_ments (v : Value) : (AV.of v).ments = [] := by
 cases v <;> simp [AV.of, AV.ments, AV.ments0, AV.ments1, CV.ments, CV.ments1]
def St.ev (C : cD) (s : St) : Operand → Option AV
 | .tmp t => s.fr t
 | .const v => some (AV.of v)
 | .global g => (C.E.glob g).map fun l => .c (.imm l)
 | .func f => some (.c (.fn f []))
theorem St.ev_den {C : cD} {s : St} {U : Nat → Prop} {β : Nat → Bk} {μ : cL} {a : Act} {W : World} (h : pV C s U β μ a W) {x : Operand} {A : AV} (he : s.ev C x = some A) : dL μ β A (a.eval x) := by
 cases x with
 | tmp t =>
  obtain ⟨v, hv, hd⟩ := h.f.den t A he
  simpa [Act.eval, hv] using hd
 | const v => simp only [St.ev, Option.some.injEq] at he; subst he; exact AV.of_den μ β v
 | global g =>
  simp only [St.ev, Option.map_eq_some_iff] at he
  obtain ⟨l, hl, rfl⟩ := he
  exact h.w.glob g l hl
 | func f =>
  simp only [St.ev, Option.some.injEq] at he
  subst he
  exact ⟨#[], rfl, rfl, fun j x hj => by simp at hj⟩
theorem St.ev_used {C : cD} {s : St} {U : Nat → Prop} {β : Nat → Bk} {μ : cL} {a : Act} {W : World} (h : pV C s U β μ a W) {x : Operand} {A : AV} (he : s.ev C x = some A) : ∀ n, n ∈ A.ments → U n := by
 cases x with
 | tmp t => exact h.f.used t A he
 | const v => simp only [St.ev, Option.some.injEq] at he; subst he; rw [AV.of_ments]; simp
 | global g =>
  simp only [St.ev, Option.map_eq_some_iff] at he
  obtain ⟨l, hl, rfl⟩ := he
  simp [AV.ments, AV.ments0, AV.ments1, CV.ments, CV.ments1]
 | func f =>
  simp only [St.ev, Option.some.injEq] at he
  subst he
  simp [AV.ments, AV.ments0, AV.ments1, CV.ments]
theorem St.ev_agree {C : cD} {ops : Array Oper} {o : Oper} {foot : List Nat} {s s' : St} (h : uJ ops o foot s s') {x : Operand} (hx : x ∈ o.op.operands) : s'.ev C x = s.ev C x := by
 cases x with
 | tmp t => exact h.1 t (List.mem_append_left _ (List.mem_filterMap.2 ⟨.tmp t, by simpa using hx, rfl⟩))
 | _ => rfl
def gN (ops : Array Oper) (o : Oper) (fr : Nat → Option AV) : Option Bool :=
 match o.guard with
 | none => some true
 | some (j, w) => match (ops[j]?).bind (·.dst) with
  | none => none
  | some t => match fr t with
   | some (.c (.v (.bool c))) => some (c == w)
   | some (.tup []) => some false
   | _ => none
theorem vJ {C : cD} {ops : Array Oper} {o : Oper} {foot : List Nat} {s s' : St} {U : Nat → Prop} {β : Nat → Bk} {μ : cL} {a : Act} {W : World} {b : Bool} (h : gN ops o s.fr = some b) (ha : uJ ops o foot s s') (hr : pV C s' U β μ a W) : Region.wanted o (yielded ops a.tmps) = b := by
 unfold gN at h
 unfold Region.wanted
 cases hg : o.guard with
 | none => simp only [hg, Option.some.injEq] at h; exact h
 | some p =>
  obtain ⟨j, w⟩ := p
  simp only [hg] at h ⊢
  cases ht : (ops[j]?).bind (·.dst) with
  | none => simp [ht] at h
  | some t =>
   simp only [ht] at h
   have hfr : s'.fr t = s.fr t := ha.1 t (List.mem_append_right _ (by simp [hg, ht]))
   have hy : ∀ x, s.fr t = some x → ∃ v, a.tmps[t]? = some v ∧ dL μ β x v := fun x hx => hr.f.den t x (hfr.trans hx)
   simp only [yielded, ht, Option.bind_some]
   split at h
   ·rename_i c hc
    obtain ⟨v, hv, hd⟩ := hy _ hc
    cases hd
    simp only [Option.some.injEq] at h
    subst h
    simp only [hv]
    cases c <;> cases w <;> rfl
   ·rename_i hc
    obtain ⟨v, hv, vs, rfl, _, _⟩ := hy _ hc
    simp only [Option.some.injEq] at h
    subst h
    simp only [hv]
    rfl
   ·cases h
theorem opT_skip {C : cD} {ops : Array Oper} {i : Nat} {o : Oper} {s : St} (hi : ops[i]? = some o) (hw : gN ops o s.fr = some false) (hd : ∀ d, o.dst = some d → d < C.n) : wW C ops i o s (some (.tup [])) [] [] [] := by
 intro s' U β μ a W ha _ _ hr Q K hK
 unfold wpOp
 simp only [hi]
 rw [if_neg (by rw [vJ hw ha hr]; simp)]
 refine hK β μ _ W ⟨?_, ?_⟩
 ·refine (hr.f.put hd fun x hx => ?_).weaken fun n hn => .inl hn
  cases hx
  exact ⟨⟨#[], rfl, rfl, fun j x hj => by simp at hj⟩, by simp [AV.ments, AV.ments0]⟩
 ·exact hr.w.weaken fun n hn => .inl hn
theorem rP {C : cD} {ops : Array Oper} {i : Nat} {o : Oper} {s : St} {v : Option AV} {wr : List (Nat × Option bH)} {foot new : List Nat} (hi : ops[i]? = some o) (hw : gN ops o s.fr = some true) (hd : ∀ d, o.dst = some d → d < C.n)
  (h : ∀ (s' : St) (U : Nat → Prop) (β : Nat → Bk) (μ : cL) (a : Act) (W : World), uJ ops o foot s s' → (∀ n, n ∈ new → ¬ U n) → xP (fun n => U n ∨ n ∈ new) v wr → pV C s' U β μ a W →
   ∃ y W' β' μ', ((execOp a.eval o).run C.E.P W = .ok (.value y) W' ∨ (o.dst = none ∧ (execOp a.eval o).run C.E.P W = .ok .skip W')) ∧ (∀ x, v = some x → dL μ' β' x y) ∧ (∀ n, U n → β' n = β n) ∧ μ.le μ' ∧ WR C (s'.app o.dst v wr).H (fun n => U n ∨ n ∈ new) β' μ' W') : wW C ops i o s v wr foot new := by
 intro s' U β μ a W ha hn hm hr Q K hK
 obtain ⟨y, W', β', μ', hrun, hv, hb, hmu, hw'⟩ := h s' U β μ a W ha hn hm hr
 unfold wpOp
 simp only [hi]
 rw [if_pos (vJ hw ha hr)]
 left
 have hf : FR C (s'.app o.dst v wr).fr (fun n => U n ∨ n ∈ new) β' μ' (a.put o.dst y) :=
  FR.put ((hr.f.mono hb hmu).weaken fun n hn => .inl hn) hd fun x hx => ⟨hv x hx, hm.1 x hx⟩
 unfold Oper.wp
 rcases hrun with hrun | ⟨hd0, hrun⟩
 ·rw [hrun]
  exact hK β' μ' _ W' ⟨hf, hw'⟩
 ·rw [hrun]
  simp only [Oper.upon_skip]
  refine hK β' μ' _ W' ⟨?_, hw'⟩
  rw [hd0] at hf ⊢
  exact hf
theorem Qu {C : cD} {ops : Array Oper} {i : Nat} {o : Oper} {s : St} {v : AV} {foot : List Nat} (hi : ops[i]? = some o) (hw : gN ops o s.fr = some true) (hd : ∀ d, o.dst = some d → d < C.n)
  (h : ∀ (s' : St) (U : Nat → Prop) (β : Nat → Bk) (μ : cL) (a : Act) (W : World), uJ ops o foot s s' → pV C s' U β μ a W → ∃ y, (execOp a.eval o).run C.E.P W = .ok (.value y) W ∧ dL μ β v y) : wW C ops i o s (some v) [] foot [] :=
 rP hi hw hd fun s' U β μ a W ha _ _ hr => by
  obtain ⟨y, h1, h2⟩ := h s' U β μ a W ha hr
  exact ⟨y, W, β, μ, .inl h1, fun x hx => by cases hx; exact h2, fun _ _ => rfl, cL.le_refl μ, hr.w.weaken fun n hn => .inl hn⟩
def wT (β : Nat → Bk) (n : Nat) (k : Bk) : Nat → Bk := fun m => if m = n then k else β m
theorem eG (β : Nat → Bk) (n : Nat) (k : Bk) : wT β n k n = k := if_pos rfl
theorem eW {β : Nat → Bk} {n m : Nat} {k : Bk} (h : m ≠ n) : wT β n k m = β m := if_neg h
theorem qO {μ : cL} {W : World} (h : fQ μ W) {b j : Nat} {v : Value} (hb : μ.c b j = some v) : b < W.heap.size := by
 obtain ⟨cs, T, fr, h1, _⟩ := h.c b j v hb
 exact (Array.getElem?_eq_some_iff.1 h1).1
theorem tH {μ : cL} {W : World} (h : fQ μ W) {b : Nat} {x : Array MapEntry × Nat} (hb : μ.m b = some x) : b < W.heap.size :=
 (Array.getElem?_eq_some_iff.1 (h.m b x.1 x.2 hb)).1
theorem qT.lt {μ : cL} {β : Nat → Bk} {W : World} {k : Bk} {o : bH} (h : qT μ β W k o) (h0 : k.nil = false) : k.blk < W.heap.size := by
 cases o with
 | blk T l =>
  obtain ⟨_, vs, h1, _⟩ := h
  exact (Array.getElem?_eq_some_iff.1 h1).1
 | tok T sz e =>
  rcases h with ⟨h1, _⟩ | ⟨_, vs, h1, _⟩
  ·rw [h0] at h1; cases h1
  ·exact (Array.getElem?_eq_some_iff.1 h1).1
 | vec T sz l =>
  obtain ⟨_, ⟨h1, _⟩ | ⟨_, vs, h1, _⟩⟩ := h
  ·rw [h0] at h1; cases h1
  ·exact (Array.getElem?_eq_some_iff.1 h1).1
 | map ag l =>
  obtain ⟨_, es, clk, h1, _⟩ := h
  exact (Array.getElem?_eq_some_iff.1 h1).1
theorem vH {C : cD} {H : Nat → Option bH} {U : Nat → Prop} {β : Nat → Bk} {μ : cL} {W : World} (h : WR C H U β μ W) {n : Nat} {o : bH} (hn : H n = some o) (h0 : (β n).nil = false) : (β n).blk < W.heap.size :=
 (h.own n o hn).lt h0
structure jK (μ μ' : cL) (b : Option Nat) : Prop where
 le : μ.le μ'
 c : ∀ x j v, μ'.c x j = some v → μ.c x j = some v ∨ b = some x
 m : ∀ x v, μ'.m x = some v → μ.m x = some v ∨ b = some x
theorem jK.refl (μ : cL) (b : Option Nat) : jK μ μ b := ⟨cL.le_refl μ, fun _ _ _ h => .inl h, fun _ _ h => .inl h⟩
theorem tR.grow {μ μ' : cL} {b : Option Nat} (h : jK μ μ' b) {x : Nat} {o : bH} (hne : b ≠ some x) (hf : tR μ x o) : tR μ' x o := by
 have hc : ∀ j, μ.c x j = none → μ'.c x j = none := fun j hj => by
  cases hq : μ'.c x j with
  | none => rfl
  | some v =>
   rcases h.c x j v hq with h1 | h1
   ·rw [hj] at h1; cases h1
   ·exact absurd h1 hne
 have hm : μ.m x = none → μ'.m x = none := fun hj => by
  cases hq : μ'.m x with
  | none => rfl
  | some v =>
   rcases h.m x v hq with h1 | h1
   ·rw [hj] at h1; cases h1
   ·exact absurd h1 hne
 cases o with
 | tok T sz e => exact ⟨hm hf.1, fun j hj => hc j (hf.2 j hj)⟩
 | blk T l => exact ⟨hm hf.1, fun j => hc j (hf.2 j)⟩
 | vec T sz l => exact ⟨hm hf.1, fun j => hc j (hf.2 j)⟩
 | map ag l => exact ⟨hm hf.1, fun j => hc j (hf.2 j)⟩
theorem Ia {n m : Nat} {x y : Option bH} (j : Nat) (H : Nat → Option bH) : (match [(m, x), (n, y)].lookup j with | some o => o | none => H j) = if j = m then x else if j = n then y else H j := by
 by_cases e : j = m
 ·subst e; simp [List.lookup]
 ·have h1 : (j == m) = false := by simpa using e
  by_cases e2 : j = n
  ·subst e2; simp [List.lookup, h1, e]
  ·have h2 : (j == n) = false := by simpa using e2
   simp [List.lookup, h1, h2, e, e2]
theorem oJ {m : Nat} {x : Option bH} (j : Nat) (H : Nat → Option bH) : (match [(m, x)].lookup j with | some o => o | none => H j) = if j = m then x else H j := by
 by_cases e : j = m
 ·subst e; simp [List.lookup]
 ·have h1 : (j == m) = false := by simpa using e
  simp [List.lookup, h1, e]
theorem WR.put_new {C : cD} {H H' : Nat → Option bH} {U : Nat → Prop} {β : Nat → Bk} {μ μ' : cL} {W W' : World} (h : WR C H U β μ W) {m : Nat} (hm : ¬ U m) (old : Option Nat) {ob : bH} {k : Bk}
  (hH : ∀ j, H' j = if j = m then some ob else if old = some j then none else H j)
  (hos : W'.os = W.os) (htape : W'.tape = W.tape) (hout : W'.output = W.output) (hsz : W.heap.size ≤ W'.heap.size)
  (hblk : ∀ b, b < W.heap.size → (∀ n o, old = some n → H n = some o → (β n).nil = false → b ≠ (β n).blk) → W'.heap[b]? = W.heap[b]?)
  (hu : ∀ x, x ∈ ob.ments → U x) (hg : jK μ μ' (if k.nil then none else some k.blk)) (himm : fQ μ' W') (hown : qT μ' (wT β m k) W' k ob)
  (hfree : k.nil = false → tR μ' k.blk ob) (hk : k.nil = false → W.heap.size ≤ k.blk ∨ ∃ n o, old = some n ∧ H n = some o ∧ (β n).nil = false ∧ (β n).blk = k.blk) :
  WR C H' (fun j => U j ∨ j ∈ [m]) (wT β m k) μ' W' := by
 have hbu : ∀ x, U x → wT β m k x = β x := fun x hx => eW (fun e => hm (e ▸ hx))
 have hkeep : ∀ b, b < C.W0.heap.size → ¬ C.F b → W'.heap[b]? = W.heap[b]? := fun b hb hF => hblk b (Nat.lt_of_lt_of_le hb h.size) fun n o _ hn h0 e => by
  rcases h.loc n o hn h0 with h1 | h1
  ·omega
  ·exact hF (e ▸ h1)
 have hoth : ∀ j o, H' j = some o → j ≠ m → old ≠ some j ∧ H j = some o := fun j o hj e => by
  rw [hH, if_neg e] at hj
  by_cases e2 : old = some j
  ·rw [if_pos e2] at hj; cases hj
  ·rw [if_neg e2] at hj; exact ⟨e2, hj⟩
 have hstay : ∀ j o, H j = some o → old ≠ some j → (β j).nil = false → W'.heap[(β j).blk]? = W.heap[(β j).blk]? := fun j o hj e h0 => hblk _ (vH h hj h0) fun n p hn hp h1 he => by
  have := h.inj j n o p hj hp h0 h1 he
  exact e (this ▸ hn)
 have hnk : ∀ j o, H j = some o → old ≠ some j → (β j).nil = false → (if k.nil then none else some k.blk) ≠ some (β j).blk := fun j o hj e h0 he => by
  by_cases hk0 : k.nil = true
  ·rw [if_pos hk0] at he; cases he
  ·rw [if_neg hk0] at he
   have he := Option.some.inj he
   rcases hk (by simpa using hk0) with h1 | ⟨n, p, hn, hp, h1, h2⟩
   ·have := vH h hj h0; omega
   ·exact e ((h.inj j n o p hj hp h0 h1 (he.symm.trans h2.symm)) ▸ hn)
 refine ⟨fun b hb hF => (hkeep b hb hF).trans (h.keep b hb hF), Nat.le_trans h.size hsz, hos.trans h.os, htape.trans h.tape, hout.trans h.output, fun j o hj => ?_, fun j j' o p hj hj' h0 h0' he => ?_, himm, fun j o hj h0 => ?_, fun j o hj h0 => ?_, fun j o hj => ?_, cL.le_trans h.mu hg.le, fun b j v hb => ?_, fun b x hb => ?_, fun g l hgl => (h.glob g l hgl).mono hg.le, fun n hn => ⟨.inl (h.fix n hn).1, (hbu n (h.fix n hn).1).trans (h.fix n hn).2⟩⟩
 ·by_cases e : j = m
  ·subst e
   rw [hH, if_pos rfl] at hj
   cases hj
   rw [eG]; exact hown
  ·obtain ⟨h1, h2⟩ := hoth j o hj e
   rw [eW e]
   exact (h.own j o h2).mono hg.le (fun x hx => hbu x ((h.used j o h2).2 x hx)) (fun h0 => hstay j o h2 h1 h0)
 ·have hcross : ∀ j o, H' j = some o → j ≠ m → (β j).nil = false → k.nil = false → (β j).blk ≠ k.blk := fun j o hj e h0 hk0 he => by
   obtain ⟨h1, h2⟩ := hoth j o hj e
   exact hnk j o h2 h1 h0 (by rw [if_neg (by simp [hk0]), he])
  by_cases e : j = m
  ·by_cases e' : j' = m
   ·exact e.trans e'.symm
   ·rw [eW e'] at h0' he
    rw [e, eG] at he h0
    exact absurd he.symm (hcross j' p hj' e' h0' h0)
  ·rw [eW e] at h0 he
   by_cases e' : j' = m
   ·rw [e', eG] at he h0'
    exact absurd he (hcross j o hj e h0 h0')
   ·rw [eW e'] at h0' he
    exact h.inj j j' o p (hoth j o hj e).2 (hoth j' p hj' e').2 h0 h0' he
 ·by_cases e : j = m
  ·subst e
   rw [hH, if_pos rfl] at hj
   cases hj
   rw [eG] at h0 ⊢
   exact hfree h0
  ·obtain ⟨h1, h2⟩ := hoth j o hj e
   rw [eW e] at h0 ⊢
   exact (h.sep j o h2 h0).grow hg (hnk j o h2 h1 h0)
 ·by_cases e : j = m
  ·subst e
   rw [eG] at h0 ⊢
   rcases hk h0 with h1 | ⟨n, p, hn, hp, h1, h2⟩
   ·exact .inl (Nat.le_trans h.size h1)
   ·rw [← h2]; exact h.loc n p hp h1
  ·obtain ⟨h1, h2⟩ := hoth j o hj e
   rw [eW e] at h0 ⊢
   exact h.loc j o h2 h0
 ·by_cases e : j = m
  ·subst e
   rw [hH, if_pos rfl] at hj
   cases hj
   exact ⟨.inr (by simp), fun x hx => .inl (hu x hx)⟩
  ·obtain ⟨h1, h2⟩ := hoth j o hj e
   exact ⟨.inl (h.used j o h2).1, fun x hx => .inl ((h.used j o h2).2 x hx)⟩
 ·rcases hg.c b j v hb with h1 | h1
  ·exact h.newc b j v h1
  ·by_cases hk0 : k.nil = true
   ·rw [if_pos hk0] at h1; cases h1
   ·rw [if_neg hk0] at h1
    cases h1
    rcases hk (by simpa using hk0) with h2 | ⟨n, p, hn, hp, h2, h3⟩
    ·exact .inr (.inl (Nat.le_trans h.size h2))
    ·rw [← h3]; exact .inr (h.loc n p hp h2)
 ·rcases hg.m b x hb with h1 | h1
  ·exact h.newm b x h1
  ·by_cases hk0 : k.nil = true
   ·rw [if_pos hk0] at h1; cases h1
   ·rw [if_neg hk0] at h1
    cases h1
    rcases hk (by simpa using hk0) with h2 | ⟨n, p, hn, hp, h2, h3⟩
    ·exact .inr (.inl (Nat.le_trans h.size h2))
    ·rw [← h3]; exact .inr (h.loc n p hp h2)
theorem WR.put_same {C : cD} {H H' : Nat → Option bH} {U : Nat → Prop} {β : Nat → Bk} {μ : cL} {W W' : World} (h : WR C H U β μ W) {n : Nat} {o ob : bH} (hn : H n = some o) (h0 : (β n).nil = false)
  (hH : ∀ j, H' j = if j = n then some ob else H j)
  (hos : W'.os = W.os) (htape : W'.tape = W.tape) (hout : W'.output = W.output) (hsz : W.heap.size ≤ W'.heap.size)
  (hblk : ∀ b, b < W.heap.size → b ≠ (β n).blk → W'.heap[b]? = W.heap[b]?)
  (hu : ∀ x, x ∈ ob.ments → U x) (himm : fQ μ W') (hown : qT μ β W' (β n) ob) (hfree : tR μ (β n).blk ob) : WR C H' U β μ W' := by
 have hkeep : ∀ b, b < C.W0.heap.size → ¬ C.F b → W'.heap[b]? = W.heap[b]? := fun b hb hF => hblk b (Nat.lt_of_lt_of_le hb h.size) fun e => by
  rcases h.loc n o hn h0 with h1 | h1
  ·omega
  ·exact hF (e ▸ h1)
 have hoth : ∀ j p, H' j = some p → j ≠ n → H j = some p := fun j p hj e => by rw [hH, if_neg e] at hj; exact hj
 have hany : ∀ j p, H' j = some p → ∃ q, H j = some q := fun j p hj => by
  by_cases e : j = n
  ·exact ⟨o, e ▸ hn⟩
  ·exact ⟨p, hoth j p hj e⟩
 refine ⟨fun b hb hF => (hkeep b hb hF).trans (h.keep b hb hF), Nat.le_trans h.size hsz, hos.trans h.os, htape.trans h.tape, hout.trans h.output, fun j p hj => ?_, fun j j' p q hj hj' k0 k0' he => ?_, himm, fun j p hj k0 => ?_, fun j p hj k0 => ?_, fun j p hj => ?_, h.mu, h.newc, h.newm, h.glob, h.fix⟩
 ·by_cases e : j = n
  ·subst e
   rw [hH, if_pos rfl] at hj
   cases hj
   exact hown
  ·exact (h.own j p (hoth j p hj e)).mono (cL.le_refl μ) (fun x hx => rfl) (fun k0 => hblk _ (vH h (hoth j p hj e) k0) fun he => e (h.inj j n p o (hoth j p hj e) hn k0 h0 he))
 ·obtain ⟨p', hp'⟩ := hany j p hj
  obtain ⟨q', hq'⟩ := hany j' q hj'
  exact h.inj j j' p' q' hp' hq' k0 k0' he
 ·by_cases e : j = n
  ·subst e
   rw [hH, if_pos rfl] at hj
   cases hj
   exact hfree
  ·exact h.sep j p (hoth j p hj e) k0
 ·obtain ⟨p', hp'⟩ := hany j p hj
  exact h.loc j p' hp' k0
 ·by_cases e : j = n
  ·subst e
   rw [hH, if_pos rfl] at hj
   cases hj
   exact ⟨(h.used j o hn).1, hu⟩
  ·exact h.used j p (hoth j p hj e)
theorem fQ.ext {μ : cL} {W W' : World} (h : fQ μ W) (hb : ∀ b, b < W.heap.size → W'.heap[b]? = W.heap[b]?) : fQ μ W' :=
 ⟨fun b j v hv => let ⟨cs, T, fr, h1, h2⟩ := h.c b j v hv; ⟨cs, T, fr, (hb b (qO h hv)).trans h1, h2⟩, fun b es clk hm => (hb b (tH h hm)).trans (h.m b es clk hm)⟩
theorem tR.fresh {μ : cL} {W : World} (h : fQ μ W) {b : Nat} (hb : W.heap.size ≤ b) (o : bH) : tR μ b o := by
 have hc : ∀ j, μ.c b j = none := fun j => by
  cases hq : μ.c b j with
  | none => rfl
  | some v => have := qO h hq; omega
 have hm : μ.m b = none := by
  cases hq : μ.m b with
  | none => rfl
  | some v => have := tH h hq; omega
 cases o with
 | tok T sz e => exact ⟨hm, fun j _ => hc j⟩
 | _ => exact ⟨hm, hc⟩
theorem WR.new_block {C : cD} {H : Nat → Option bH} {U : Nat → Prop} {β : Nat → Bk} {μ : cL} {W : World} (h : WR C H U β μ W) {n : Nat} (hn : ¬ U n) {ob : bH} {O : Obj} {cap len : Nat} (hu : ∀ m, m ∈ ob.ments → U m)
  (ho : ∀ W' : World, W'.heap[W.heap.size]? = some O → qT μ β W' ⟨W.heap.size, cap, false, len⟩ ob) (d : Nat) :
  WR C (fun m => match [(n, some ob)].lookup m with | some o => o | none => H m) (fun m => U m ∨ m ∈ [n]) (wT β n ⟨W.heap.size, cap, false, len⟩) μ { W.alloc O with drawn := d } := by
 have hold : ∀ b, b < W.heap.size → (W.alloc O).heap[b]? = W.heap[b]? := fun b hb => by rw [heap_alloc_old]; exact hb
 refine h.put_new hn none (fun j => ?_) rfl rfl rfl (by simp) (fun b hb _ => hold b hb) hu (jK.refl μ _) ((h.imm.ext hold).drew d) ?_ (fun _ => tR.fresh h.imm (Nat.le_refl _) ob) (fun _ => .inl (Nat.le_refl _))
 ·simp only [oJ, reduceCtorEq, if_false]
 ·have := ho { W.alloc O with drawn := d } (heap_alloc_new W O)
  exact this.mono (cL.le_refl μ) (fun x hx => eW (fun e => hn (e ▸ hu x hx))) (fun _ => rfl)
end Go.Bm
namespace Go.Bm
open Go
section
variable {E : oT} {T : TypeId} {i : TI} (h : E.ti T = some i) (w : World)
include h
theorem Mx : ∃ f, E.P.info? T = some f ∧ f.size = i.size ∧ f.bytes = i.bytes ∧ ∃ z, f.zero = some z ∧ z.cells.toList = i.zero ∧ (if i.k.agg = true then z = .agg z.cells else z.cells = #[z]) := (E.ok T i h).info
theorem lH : (sizeOf T).run E.P w = .ok i.size w := by
 obtain ⟨f, h1, h2, _⟩ := Mx h
 simp [sizeOf, typeInfo, h1, h2]
theorem An : ∃ z, (zeroValue T).run E.P w = .ok z w ∧ z.cells.toList = i.zero ∧ (if i.k.agg = true then z = .agg z.cells else z.cells = #[z]) := by
 obtain ⟨f, h1, h2, _, z, h3, h4⟩ := Mx h
 exact ⟨z, by simp [zeroValue, typeInfo, h1, h3], h4⟩
theorem Yu : (isAgg T).run E.P w = .ok i.k.agg w := by
 have := (E.ok T i h).k
 cases hk : i.k with
 | st fs => rw [hk] at this; obtain ⟨f, h1, _⟩ := this; simp [isAgg, run_underlying h1, TK.agg]
 | oth =>
  rw [hk] at this
  obtain ⟨d, h1, h2⟩ := this
  cases d <;> first | exact h2.elim | simp [isAgg, run_underlying h1, TK.agg]
 | _ => rw [hk] at this; simp [isAgg, run_underlying this, TK.agg]
end
structure rE where
 v : Option AV
 wr : List (Nat × Option bH)
 foot : List Nat
 new : List Nat
def rE.val (v : AV) : rE := ⟨some v, [], [], []⟩
def rE.rd (v : AV) (foot : List Nat) : rE := ⟨some v, [], foot, []⟩
def oU (k : IntKind) (a b : Int) : Int := k.wrap (BitVec.ofInt k.bits a &&& BitVec.ofInt k.bits b).toNat
def bOr (k : IntKind) (a b : Int) : Int := k.wrap (BitVec.ofInt k.bits a ||| BitVec.ofInt k.bits b).toNat
def bXor (k : IntKind) (a b : Int) : Int := k.wrap (BitVec.ofInt k.bits a ^^^ BitVec.ofInt k.bits b).toNat
def Uj (k : IntKind) (a b : Int) : Int := k.wrap (BitVec.ofInt k.bits a &&& ~~~BitVec.ofInt k.bits b).toNat
def bShl (k : IntKind) (a b : Int) : Int := k.wrap (a * 2 ^ min b.toNat k.bits)
def bShr (k : IntKind) (a b : Int) : Int := a.fdiv (2 ^ min b.toNat k.bits)
def bP (x y : ByteArray) : Bool := x.toList == y.toList
def Rz (x y : ByteArray) : Bool := Op.bytesLess x.toList y.toList
def Rx (x y : ByteArray) : Bool := Op.bytesLess x.toList y.toList || x.toList == y.toList
def Gi (op : BinOp) (k : IntKind) (a b : Int) : Option Value :=
 match op with
 | .add => some (.int k (k.wrap (a + b)))
 | .sub => some (.int k (k.wrap (a - b)))
 | .mul => some (.int k (k.wrap (a * b)))
 | .eql => some (.bool (a == b))
 | .neq => some (.bool (a != b))
 | .lss => some (.bool (decide (a < b)))
 | .leq => some (.bool (decide (a ≤ b)))
 | .gtr => some (.bool (decide (a > b)))
 | .geq => some (.bool (decide (a ≥ b)))
 | .and => some (.int k (oU k a b))
 | .or => some (.int k (bOr k a b))
 | .xor => some (.int k (bXor k a b))
 | .andNot => some (.int k (Uj k a b))
 | .quo => if b = 0 then none else some (.int k (k.wrap (a.tdiv b)))
 | .rem => if b = 0 then none else some (.int k (a.tmod b))
 | .shl => if b < 0 then none else some (.int k (bShl k a b))
 | .shr => if b < 0 then none else some (.int k (bShr k a b))
def Ud (op : BinOp) (x y : ByteArray) : Option Value :=
 match op with
 | .eql => some (.bool (bP x y))
 | .neq => some (.bool (!bP x y))
 | .lss => some (.bool (Rz x y))
 | .leq => some (.bool (Rx x y))
 | .gtr => some (.bool (!Rx x y))
 | .geq => some (.bool (!Rz x y))
 | _ => none
def zU (op : BinOp) (j k : IntKind) : Bool := match op with | .shl => true | .shr => true | _ => j == k
def Dm (op : BinOp) (x y : Value) : Option Value :=
 match x, y with
 | .int j a, .int k b => if zU op j k = true then Gi op j a b else none
 | .string a, .string b => Ud op a b
 | .bool a, .bool b => match op with
  | .eql => some (.bool (a == b))
  | .neq => some (.bool (a != b))
  | _ => none
 | _, _ => none
theorem Tq {op : BinOp} {j k : IntKind} {a b : Int} {z : Value} (hk : zU op j k = true) (h : Gi op j a b = some z) (T : TypeId) (P : Program) (w : World) : (binOp op T (.int j a) (.int k b)).run P w = .ok z w := by
 cases op <;> simp only [Gi] at h
 case shl =>
  split at h
  ·cases h
  ·rename_i hb
   obtain rfl := Option.some.inj h
   simp [binOp, Op.shift, hb, bShl]
 case shr =>
  split at h
  ·cases h
  ·rename_i hb
   obtain rfl := Option.some.inj h
   simp [binOp, Op.shift, hb, bShr]
 case quo =>
  have hk2 : j = k := by simpa [zU] using hk
  subst hk2
  split at h
  ·cases h
  ·rename_i hb
   obtain rfl := Option.some.inj h
   simp [binOp, Op.intDiv, hb]
 case rem =>
  have hk2 : j = k := by simpa [zU] using hk
  subst hk2
  split at h
  ·cases h
  ·rename_i hb
   obtain rfl := Option.some.inj h
   simp [binOp, Op.intDiv, hb]
 all_goals
  have hk2 : j = k := by simpa [zU] using hk
  subst hk2
  obtain rfl := Option.some.inj h
  simp [binOp, Op.intArith, Op.intCmp, Op.intBits, oU, bOr, bXor, Uj]
theorem Ub {op : BinOp} {x y : ByteArray} {z : Value} (h : Ud op x y = some z) (T : TypeId) (P : Program) (w : World) : (binOp op T (.string x) (.string y)).run P w = .ok z w := by
 cases op <;> simp only [Ud, reduceCtorEq, Option.some.injEq] at h <;> subst h <;> rfl
def TK.isBoo : TK → Bool
 | .boo => true
 | _ => false
def Value.isBoo : Value → Bool
 | .bool _ => true
 | _ => false
theorem Ua {E : oT} {op : BinOp} {T : TypeId} {x y z : Value} (hb : Value.isBoo x = true → ∃ k, E.ti T = some k ∧ k.k.isBoo = true) (h : Dm op x y = some z) (xo yo : Operand) (w : World) :
  (do eqGuard op T xo yo x y; binOp op T x y).run E.P w = .ok z w := by
 have hg : (eqGuard op T xo yo x y).run E.P w = .ok () w := by
  unfold eqGuard
  unfold Dm at h
  split at h
  ·split <;> simp
  ·split <;> simp
  ·split <;> simp
  ·cases h
 rw [Sem.run_bind, hg, Result.andThen_ok]
 unfold Dm at h
 split at h
 ·rename_i j a k b
  split at h
  ·rename_i hk; exact Tq hk h T _ w
  ·cases h
 ·rename_i a b
  exact Ub h T _ w
 ·rename_i a b
  obtain ⟨k, hk, hkb⟩ := hb rfl
  have hT := (E.ok T k hk).k
  have hk2 : k.k = .boo := by cases hq : k.k <;> rw [hq] at hkb <;> first | rfl | cases hkb
  rw [hk2] at hT
  simp only [TK.ok] at hT
  have he : (Op.equal T (.bool a) (.bool b)).run E.P w = .ok (a == b) w := by
   unfold Op.equal
   obtain ⟨d, hd⟩ : ∃ d, Op.maxDepth = d + 1 := ⟨9999, rfl⟩
   rw [hd, Op.equalIn, Sem.run_bind, run_underlying hT]
   rfl
  cases op <;> simp only [reduceCtorEq, Option.some.injEq] at h <;> subst h
  ·show (do pure (Value.bool (← Op.equal T (.bool a) (.bool b))) : Sem Value).run E.P w = _
   rw [Sem.run_bind, he]; rfl
  ·show (do pure (Value.bool (!(← Op.equal T (.bool a) (.bool b)))) : Sem Value).run E.P w = _
   rw [Sem.run_bind, he]; rfl
 ·cases h
theorem iE (s : Sem Value) (P : Program) (w : World) {w' : World} {y : Value} (h : s.run P w = .ok y w') : (do pure (Next.value (← s)) : Sem Next).run P w = .ok (.value y) w' := by
 rw [Sem.run_bind, h]; rfl
def cut (ag : Bool) (n : Nat) (l : List CV) : Option AV :=
 if ag then (if n ≤ l.length then some (.agg (l.take n)) else none) else match l with | x :: _ => some (.c x) | [] => none
def CV.one : CV → Bool
 | .v x => x.oneCell'
 | _ => true
def Mk : Value → CV
 | .slice _ 0 _ => .lit []
 | x => .v x
theorem Lg {μ : cL} {x : Value} : cQ μ (Mk x) x := by
 unfold Mk
 split
 ·exact .nil _ _
 ·exact .v x
def CV.pub1 : CV → Option CV
 | .app _ l => some (.lit l)
 | .ptr _ _ => none
 | .row _ => none
 | .mapr _ => none
 | .v x => some (Mk x)
 | x => some x
def Jw (f : CV → Option CV) : List CV → Option (List CV)
 | [] => some []
 | x :: l => match f x, Jw f l with
  | some y, some r => some (y :: r)
  | _, _ => none
def CV.pub : CV → Option CV
 | .fn f caps => match Jw CV.pub1 caps with | some l => some (.fn f l) | none => none
 | x => x.pub1
def AV.pub1 : AV → Option AV
 | .c x => match x.pub with | some y => some (.c y) | none => none
 | .agg l => match Jw CV.pub l with | some r => some (.agg r) | none => none
 | _ => none
def xX : List AV → Option (List AV)
 | [] => some []
 | x :: l => match x.pub1, xX l with
  | some y, some r => some (y :: r)
  | _, _ => none
def AV.pub : AV → Option AV
 | .tup l => match xX l with | some r => some (.tup r) | none => none
 | x => x.pub1
def AV.cells? : AV → Option (List CV)
 | .c x => if x.one then some [x] else none
 | .agg l => if l.all CV.one then some l else none
 | _ => none
def gL (l : List CV) (o : Nat) (x : List CV) : List CV := l.take o ++ x ++ l.drop (o + x.length)
def uR (place : Nat → Option (Nat × Nat)) : List CV → List (Nat × Option AV) → Option (List CV)
 | cells, [] => some cells
 | cells, (i, A) :: rest => match place i, A with
  | some (off, size), some A => match A.cells? with
   | some lx => if lx.length = size ∧ off + size ≤ cells.length then uR place (gL cells off lx) rest else none
   | none => none
  | _, _ => none
def Ba (f : TypeId × Nat × Nat) : Nat × Nat := (f.2.1, f.2.2)
def wO (sz : Nat) : Nat → List CV → List (List CV)
 | 0, _ => []
 | n + 1, l => l.take sz :: wO sz n (l.drop sz)
def Kq {α : Type} (l : List α) : Nat → List α
 | 0 => []
 | n + 1 => l ++ Kq l n
def Yl (C : cD) (s : St) : List Operand → Option (List CV)
 | [] => some []
 | x :: l => match s.ev C x, Yl C s l with
  | some (.c y), some r => some (y :: r)
  | _, _ => none
def rd (C : cD) (s : St) : Op → Option rE
 | .move x => (s.ev C x).map rE.val
 | .assign x => (s.ev C x).map rE.val
 | .pick c a b => match s.ev C c with
  | some (.c (.v (.bool t))) => (s.ev C (if t then a else b)).map rE.val
  | _ => none
 | .binOp op T x y _ => match s.ev C x, s.ev C y with
  | some (.c (.v a)), some (.c (.v b)) => match Dm op a b with
   | some z => if Value.isBoo a then (match C.E.ti T with | some k => if k.k.isBoo then some (rE.val (.c (.v z))) else none | none => none) else some (rE.val (.c (.v z)))
   | none => none
  | _, _ => none
 | .unOp op _ x => match s.ev C x with
  | some (.c (.v (.bool b))) => match op with | .not => some (rE.val (.c (.v (.bool (!b))))) | _ => none
  | some (.c (.v (.int k n))) => match op with | .neg => some (rE.val (.c (.v (.int k (k.wrap (0 - n)))))) | _ => none
  | _ => none
 | .extract x i => match s.ev C x with
  | some (.tup l) => (l[i]?).map rE.val
  | _ => none
 | .nilCheck x => match s.ev C x with
  | some (.c (.ptr n k)) => some (rE.val (.c (.ptr n k)))
  | some (.c (.imm l)) => some (rE.val (.c (.imm l)))
  | _ => none
 | .fieldAddr T x f => match s.ev C x, C.E.ti T with
  | some (.c (.ptr n k)), some ⟨.st fs, _, _, _⟩ => match fs[f]? with
   | some (_, o, z) => if 0 < z then some (rE.val (.c (.ptr n (k + o)))) else none
   | none => none
  | some (.c (.imm l)), some ⟨.st fs, _, _, _⟩ => match fs[f]? with
   | some (_, o, z) => if 0 < z then some (rE.val (.c (.imm (l.drop o)))) else none
   | none => none
  | _, _ => none
 | .field T x f => match s.ev C x, C.E.ti T with
  | some (.agg l), some ⟨.st fs, _, _, _⟩ => match fs[f]? with
   | some (t, o, _) => match C.E.ti t with
    | some i => (cut i.k.agg i.size (l.drop o)).map rE.val
    | none => none
   | none => none
  | _, _ => none
 | .indexAddr T x y => match s.ev C x, s.ev C y, C.E.ti T with
  | some (.c (.lit l)), some (.c (.v (.int _ i))), some ⟨.sl e, _, _, _⟩ => match C.E.ti e with
   | some j => if 0 ≤ i then match l[i.toNat]? with
     | some c => if c.length = j.size then some (rE.val (.c (.imm c))) else none
     | none => none
    else none
   | none => none
  | some (.c (.app _ l)), some (.c (.v (.int _ i))), some ⟨.sl e, _, _, _⟩ => match C.E.ti e with
   | some j => if 0 ≤ i then match l[i.toNat]? with
     | some c => if c.length = j.size then some (rE.val (.c (.imm c))) else none
     | none => none
    else none
   | none => none
  | some (.c (.row n)), some (.c (.v (.int _ i))), some ⟨.sl e, _, _, _⟩ => match C.E.ti e, s.H n with
   | some j, some (.vec _ _ l) => if 0 ≤ i ∧ i < l.length then some (rE.rd (.c (.ptr n (i.toNat * j.size))) [n]) else none
   | _, _ => none
  | some (.c (.ptr n o)), some (.c (.v (.int _ i))), some ⟨.arr len e, _, _, _⟩ => match C.E.ti e with
   | some j => if 0 ≤ i ∧ i < len then some (rE.val (.c (.ptr n (o + i.toNat * j.size)))) else none
   | none => none
  | some (.c (.imm l)), some (.c (.v (.int _ i))), some ⟨.arr len e, _, _, _⟩ => match C.E.ti e with
   | some j => if 0 ≤ i ∧ i < len then some (rE.val (.c (.imm (l.drop (i.toNat * j.size))))) else none
   | none => none
  | _, _, _ => none
 | .index T x y => match s.ev C x, s.ev C y, C.E.ti T with
  | some (.c (.v (.string b))), some (.c (.v (.int _ i))), some ⟨.str, _, _, _⟩ => if 0 ≤ i then match b[i.toNat]? with
    | some u => some (rE.val (.c (.v (.int .u8 u.toNat))))
    | none => none
   else none
  | some (.agg l), some (.c (.v (.int _ i))), some ⟨.arr len e, _, _, _⟩ => match C.E.ti e with
   | some j => if 0 ≤ i ∧ i < len then (cut j.k.agg j.size (l.drop (i.toNat * j.size))).map rE.val else none
   | none => none
  | _, _, _ => none
 | .load T x => match s.ev C x, C.E.ti T with
  | some (.c (.ptr n o)), some i => match s.H n with
   | some (.blk _ l) => (cut i.k.agg i.size (l.drop o)).map fun v => rE.rd v [n]
   | _ => none
  | some (.c (.imm l)), some i => (cut i.k.agg i.size l).map rE.val
  | _, _ => none
 | .convert S T x => match s.ev C x, C.E.ti S, C.E.ti T with
  | some (.c (.v (.int _ n))), some ⟨.int _, _, _, _⟩, some ⟨.int k, _, _, _⟩ => some (rE.val (.c (.v (.int k (k.wrap n)))))
  | some (.c (.v (.string b))), some ⟨.str, _, _, _⟩, some ⟨.str, _, _, _⟩ => some (rE.val (.c (.v (.string b))))
  | _, _, _ => none
 | .build T parts => match C.E.ti T with
  | some ⟨.st fs, _, _, z⟩ => (uR (fun i => (fs[i]?).map Ba) (z.map .v) (parts.toList.map fun p => (p.1, s.ev C p.2))).map fun l => rE.val (.agg l)
  | some ⟨.arr _ e, _, _, z⟩ => match C.E.ti e with
   | some j => (uR (fun i => some (i * j.size, j.size)) (z.map .v) (parts.toList.map fun p => (p.1, s.ev C p.2))).map fun l => rE.val (.agg l)
   | none => none
  | _ => none
 | .makeFunc (.func f) first caps => match Yl C s caps.toList with
  | some l => if first.isEmpty && l.all (fun | .fn _ _ => false | _ => true) then some (rE.val (.c (.fn f l))) else none
  | none => none
 | .call ⟨.builtin .len, args, ts⟩ => match args[0]?, ts[0]? with
  | some x, some T => match s.ev C x, C.E.ti T with
   | some (.c (.v (.string b))), some ⟨.str, _, _, _⟩ => some (rE.val (.c (.v (.int .i64 b.size))))
   | some (.c (.v (.slice _ n _))), some ⟨.sl _, _, _, _⟩ => some (rE.val (.c (.v (.int .i64 n))))
   | some (.c (.lit l)), some ⟨.sl _, _, _, _⟩ => some (rE.val (.c (.v (.int .i64 l.length))))
   | some (.c (.app _ l)), some ⟨.sl _, _, _, _⟩ => some (rE.val (.c (.v (.int .i64 l.length))))
   | some (.c (.row n)), some ⟨.sl _, _, _, _⟩ => match s.H n with
    | some (.vec _ _ l) => some (rE.rd (.c (.v (.int .i64 l.length))) [n])
    | _ => none
   | _, _ => none
  | _, _ => none
 | _ => none
end Go.Bm
namespace Go.Bm
open Go
theorem En {α β : Type} : ∀ (l : List α) (p : Nat → α → β → Prop), (∀ (j : Nat) (x : α), l[j]? = some x → ∃ y, p j x y) → ∃ ys : List β, ys.length = l.length ∧ ∀ (j : Nat) (x : α), l[j]? = some x → ∃ y, ys[j]? = some y ∧ p j x y
 | [], p, h => ⟨[], rfl, fun j x hj => by simp at hj⟩
 | x :: l, p, h => by
  obtain ⟨y, hy⟩ := h 0 x rfl
  obtain ⟨ys, h1, h2⟩ := En l (fun j => p (j + 1)) fun j x hj => h (j + 1) x hj
  refine ⟨y :: ys, by simp [h1], fun j z hj => ?_⟩
  cases j with
  | zero => simp at hj; subst hj; exact ⟨y, rfl, hy⟩
  | succ j => exact h2 j z hj
theorem rJ (b o j : Nat) : (⟨b, o, none⟩ : Addr).add j = ⟨b, o + j, none⟩ := by
 unfold Addr.add
 split
 ·simp_all
 ·rfl
theorem Br {E : oT} {T : TypeId} {i : TI} (h : E.ti T = some i) {W : World} {b o : Nat} {μ : cL} {β : Nat → Bk} {l : List CV} (hc : ∀ (j : Nat) (x : CV), l[j]? = some x → ∃ y, W.cell? ⟨b, o + j, none⟩ = some y ∧ Kf μ β x y) {v : AV} (hv : cut i.k.agg i.size l = some v) :
  ∃ y, (loadVar T ⟨b, o, none⟩).run E.P W = .ok y W ∧ dL μ β v y := by
 unfold cut at hv
 unfold loadVar
 rw [Sem.run_bind, Yu h, Result.andThen_ok]
 by_cases ha : i.k.agg = true
 ·rw [if_pos ha] at hv
  by_cases hn : i.size ≤ l.length
  ·rw [if_pos hn] at hv
   simp only [Option.some.injEq] at hv
   subst hv
   obtain ⟨ys, h1, h2⟩ := En (l.take i.size) (fun j x y => W.cell? ⟨b, o + j, none⟩ = some y ∧ Kf μ β x y) fun j x hj => by
    rw [List.getElem?_take] at hj
    split at hj
    ·exact hc j x hj
    ·cases hj
   have hlen : ys.length = i.size := by rw [h1, List.length_take]; omega
   have hl := run_loadCells_list (P := E.P) W ⟨b, o, none⟩ ys fun j v hj => by
    rw [rJ]
    have hj2 : j < (l.take i.size).length := by rw [← h1]; exact (List.getElem?_eq_some_iff.1 hj).1
    obtain ⟨y, hy, hcell, -⟩ := h2 j _ (List.getElem?_eq_getElem hj2)
    rw [hj] at hy
    cases hy
    exact hcell
   rw [hlen] at hl
   rw [if_pos ha, Sem.run_bind, lH h, Result.andThen_ok, Sem.run_bind, hl, Result.andThen_ok]
   refine ⟨_, rfl, ys.toArray, rfl, by simp [h1], fun j x hj => ?_⟩
   obtain ⟨y, hy, _, hd⟩ := h2 j x hj
   exact ⟨y, by simpa using hy, hd⟩
  ·rw [if_neg hn] at hv; cases hv
 ·rw [if_neg ha] at hv
  cases l with
  | nil => cases hv
  | cons x l =>
   simp only [Option.some.injEq] at hv
   subst hv
   obtain ⟨y, hy, hd⟩ := hc 0 x rfl
   rw [if_neg ha]
   refine ⟨y, ?_, hd⟩
   rw [run_load]
   rw [Nat.add_zero] at hy
   rw [hy]
theorem xT {E : oT} {T : TypeId} {i : TI} (h : E.ti T = some i) {W : World} {o : Nat} {μ : cL} {β : Nat → Bk} {l : List CV} {cs : Array Value} (hc : wQ μ β l cs) {v : AV} (hv : cut i.k.agg i.size (l.drop o) = some v) :
  ∃ y, (part T cs o).run E.P W = .ok y W ∧ dL μ β v y := by
 obtain ⟨hs, hc⟩ := hc
 unfold cut at hv
 unfold part
 rw [Sem.run_bind, Yu h, Result.andThen_ok]
 by_cases ha : i.k.agg = true
 ·rw [if_pos ha] at hv ⊢
  by_cases hn : i.size ≤ (l.drop o).length
  ·rw [if_pos hn] at hv
   simp only [Option.some.injEq] at hv
   subst hv
   rw [Sem.run_bind, lH h, Result.andThen_ok]
   rw [List.length_drop] at hn
   refine ⟨_, rfl, _, rfl, ?_, fun j x hj => ?_⟩
   ·rw [Array.size_extract, List.length_take, List.length_drop]; omega
   ·rw [List.getElem?_take] at hj
    split at hj
    ·rename_i hj2
     rw [List.getElem?_drop] at hj
     obtain ⟨y, hy, hd⟩ := hc _ x hj
     refine ⟨y, ?_, hd⟩
     rw [Array.getElem?_extract, if_pos (by omega)]
     exact hy
    ·cases hj
  ·rw [if_neg hn] at hv; cases hv
 ·rw [if_neg ha] at hv ⊢
  cases hl : l.drop o with
  | nil => rw [hl] at hv; cases hv
  | cons x r =>
   rw [hl] at hv
   simp only [Option.some.injEq] at hv
   subst hv
   have hx : l[o]? = some x := by have := List.getElem?_drop (xs := l) (i := o) (j := 0); rw [hl] at this; simpa using this.symm
   obtain ⟨y, hy, hd⟩ := hc o x hx
   exact ⟨y, by rw [hy]; rfl, hd⟩
theorem qV {μ : cL} {β : Nat → Bk} {n o : Nat} {y : Value} (h : dL μ β (.c (.ptr n o)) y) : y = .pointer (some ⟨(β n).blk, o, none⟩) := h
theorem Ly {μ : cL} {l : List CV} {y : Value} (h : cQ μ (.imm l) y) : ∃ b o, y = .pointer (some ⟨b, o, none⟩) ∧ ∀ (j : Nat) (x : CV), l[j]? = some x → ∃ v, μ.c b (o + j) = some v ∧ cQ μ x v := by
 cases h with
 | imm _ b o w hw hd => exact ⟨b, o, rfl, fun j x hj => ⟨w j, hw j x hj, hd j x hj⟩⟩
theorem yD {μ : cL} {β : Nat → Bk} {l : List CV} {y : Value} (h : dL μ β (.c (.imm l)) y) : ∃ b o, y = .pointer (some ⟨b, o, none⟩) ∧ ∀ (j : Nat) (x : CV), l[j]? = some x → ∃ v, μ.c b (o + j) = some v ∧ cQ μ x v :=
 Ly (μ := μ) h
theorem Wr {μ : cL} {β : Nat → Bk} {x : CV} {v : Value} (h : cQ μ x v) : pW μ β x v := by
 cases x with
 | ptr n o => nomatch h
 | app n l => nomatch h
 | row n => nomatch h
 | mapr n => nomatch h
 | v x => exact h
 | lit l => exact h
 | imm l => exact h
 | lmap ag l => exact h
 | fn f l => exact h
theorem iT {μ : cL} {β : Nat → Bk} {x : CV} {v : Value} (h : cQ μ x v) : Kf μ β x v := by
 cases x with
 | fn f caps =>
  have h2 : cQ μ (.fn f caps) v := h
  generalize hq : CV.fn f caps = q at h2
  cases h2 with
  | fn f' caps' vs w hn hw hd =>
   injection hq with h3 h4
   subst h3 h4
   exact ⟨vs, rfl, hn, fun j x hj => ⟨w j, hw j x hj, Wr (hd j x hj)⟩⟩
  | _ => cases hq
 | ptr n o => nomatch h
 | app n l => nomatch h
 | row n => nomatch h
 | mapr n => nomatch h
 | v x => exact h
 | lit l => exact h
 | imm l => exact h
 | lmap ag l => exact h
theorem Ao {μ : cL} {β : Nat → Bk} {x : CV} {v : Value} (h : pW μ β x v) : Kf μ β x v := by
 cases x with
 | fn f caps => exact iT (β := β) h
 | v x => exact h
 | lit l => exact h
 | imm l => exact h
 | lmap ag l => exact h
 | ptr n o => exact h
 | app n l => exact h
 | row n => exact h
 | mapr n => exact h
theorem vY {W : World} {b o : Nat} {cs : Array Value} {T : TypeId} {fr : Nat × Nat} (h : W.heap[b]? = some (.cells cs T fr)) : W.cell? ⟨b, o, none⟩ = cs[o]? := by
 simp only [World.cell?, h]; rfl
theorem uZ {μ : cL} {W : World} (h : fQ μ W) {b j : Nat} {v : Value} (hb : μ.c b j = some v) : W.cell? ⟨b, j, none⟩ = some v := by
 obtain ⟨cs, T, fr, h1, h2⟩ := h.c b j v hb
 rw [vY h1, h2]
theorem oX {μ : cL} {β : Nat → Bk} {x y : CV} {v : Value} (hp : x.pub1 = some y) (h : pW μ β x v) : cQ μ y v := by
 cases x with
 | ptr n o => cases hp
 | row n => cases hp
 | mapr n => cases hp
 | app n l => obtain rfl := Option.some.inj hp; exact h.1
 | v x =>
  obtain rfl := Option.some.inj hp
  cases h
  exact Lg
 | lit l => obtain rfl := Option.some.inj hp; exact h
 | imm l => obtain rfl := Option.some.inj hp; exact h
 | lmap ag l => obtain rfl := Option.some.inj hp; exact h
 | fn f l => obtain rfl := Option.some.inj hp; exact h
theorem tA {f : CV → Option CV} : ∀ {l l' : List CV}, Jw f l = some l' → l'.length = l.length ∧ ∀ (j : Nat) (y : CV), l'[j]? = some y → ∃ x, l[j]? = some x ∧ f x = some y
 | [], l', h => by simp only [Jw, Option.some.injEq] at h; subst h; simp
 | x :: l, l', h => by
  simp only [Jw] at h
  split at h
  ·rename_i y r hy hr
   obtain rfl := Option.some.inj h
   obtain ⟨h1, h2⟩ := tA hr
   refine ⟨by simp [h1], fun j z hj => ?_⟩
   cases j with
   | zero => simp at hj; subst hj; exact ⟨x, rfl, hy⟩
   | succ j => exact h2 j z hj
  ·cases h
theorem Bx {μ : cL} {β : Nat → Bk} {x y : CV} {v : Value} (hp : x.pub = some y) (h : Kf μ β x v) : cQ μ y v := by
 cases x with
 | fn f caps =>
  simp only [CV.pub] at hp
  split at hp
  ·rename_i l hl
   obtain rfl := Option.some.inj hp
   obtain ⟨vs, rfl, h1, h2⟩ := h
   obtain ⟨h3, h4⟩ := tA hl
   have key : ∀ (j : Nat) (y : CV), l[j]? = some y → ∃ z, vs[j]? = some z ∧ cQ μ y z := fun j y hj => by
    obtain ⟨x, hx, hxy⟩ := h4 j y hj
    obtain ⟨z, hz, hd⟩ := h2 j x hx
    exact ⟨z, hz, oX hxy hd⟩
   refine .fn f l vs (fun j => vs.getD j undef) (by rw [h1, h3]) (fun j x hj => ?_) (fun j x hj => ?_)
   ·obtain ⟨z, hz, _⟩ := key j x hj
    simp [hz]
   ·obtain ⟨z, hz, hd⟩ := key j x hj
    simpa [hz] using hd
  ·cases hp
 | v x => exact oX (x := .v x) (β := β) hp h
 | lit l => exact oX (x := .lit l) (β := β) hp h
 | imm l => exact oX (x := .imm l) (β := β) hp h
 | lmap ag l => exact oX (x := .lmap ag l) (β := β) hp h
 | ptr n o => exact oX (x := .ptr n o) (β := β) hp h
 | app n l => exact oX (x := .app n l) (β := β) hp h
 | row n => exact oX (x := .row n) (β := β) hp h
 | mapr n => exact oX (x := .mapr n) (β := β) hp h
end Go.Bm
namespace Go.Bm
open Go
def uO (C : cD) (s : St) (op : Op) (r : rE) : Prop :=
 r.wr = [] ∧ r.new = [] ∧ ∃ v, r.v = some v ∧ ∀ (o : Oper) (s' : St) (U : Nat → Prop) (β : Nat → Bk) (μ : cL) (a : Act) (W : World), o.op = op → (∀ x, x ∈ op.operands → s'.ev C x = s.ev C x) → (∀ n, n ∈ r.foot → s'.H n = s.H n) → pV C s' U β μ a W →
  ∃ y, (execOp a.eval o).run C.E.P W = .ok (.value y) W ∧ dL μ β v y
theorem uO.val {C : cD} {s : St} {op : Op} {v : AV} (h : ∀ (o : Oper) (s' : St) (U : Nat → Prop) (β : Nat → Bk) (μ : cL) (a : Act) (W : World), o.op = op → (∀ x, x ∈ op.operands → s'.ev C x = s.ev C x) → pV C s' U β μ a W → ∃ y, (execOp a.eval o).run C.E.P W = .ok (.value y) W ∧ dL μ β v y) : uO C s op (rE.val v) :=
 ⟨rfl, rfl, v, rfl, fun o s' U β μ a W ho he _ hr => h o s' U β μ a W ho he hr⟩
variable {C : cD} {s : St} {r : rE}
theorem rd_move {x : Operand} (h : rd C s (.move x) = some r) : uO C s (.move x) r := by
 simp only [rd, Option.map_eq_some_iff] at h
 obtain ⟨A, hA, rfl⟩ := h
 refine .val fun o s' U β μ a W ho he hr => ⟨a.eval x, ?_, St.ev_den hr ((he x (by simp [Op.operands])).trans hA)⟩
 simp only [execOp, ho]; rfl
theorem Ww {x : Operand} (h : rd C s (.assign x) = some r) : uO C s (.assign x) r := by
 simp only [rd, Option.map_eq_some_iff] at h
 obtain ⟨A, hA, rfl⟩ := h
 refine .val fun o s' U β μ a W ho he hr => ⟨a.eval x, ?_, St.ev_den hr ((he x (by simp [Op.operands])).trans hA)⟩
 simp only [execOp, ho]; rfl
theorem dY {μ : cL} {β : Nat → Bk} {x y : Value} (h : dL μ β (.c (.v x)) y) : y = x := by
 have h2 : cQ μ (.v x) y := h
 cases h2; rfl
theorem rd_pick {c x y : Operand} (h : rd C s (.pick c x y) = some r) : uO C s (.pick c x y) r := by
 simp only [rd] at h
 split at h
 ·rename_i t hc
  simp only [Option.map_eq_some_iff] at h
  obtain ⟨A, hA, rfl⟩ := h
  refine .val fun o s' U β μ a W ho he hr => ?_
  have e1 := dY (St.ev_den hr ((he c (by simp [Op.operands])).trans hc))
  refine ⟨a.eval (if t then x else y), ?_, St.ev_den hr ((he _ (by cases t <;> simp [Op.operands])).trans hA)⟩
  simp only [execOp, ho, e1, asBool]
  cases t <;> rfl
 ·cases h
theorem Ze {b : BinOp} {T T' : TypeId} {x y : Operand} (h : rd C s (.binOp b T x y T') = some r) : uO C s (.binOp b T x y T') r := by
 simp only [rd] at h
 split at h
 ·rename_i p q hp hq
  split at h
  ·rename_i z hz
   have key : (Value.isBoo p = true → ∃ k, C.E.ti T = some k ∧ k.k.isBoo = true) ∧ r = rE.val (.c (.v z)) := by
    by_cases hb : Value.isBoo p = true
    ·rw [if_pos hb] at h
     split at h
     ·rename_i k hk
      split at h
      ·rename_i hk2
       exact ⟨fun _ => ⟨k, hk, hk2⟩, (Option.some.inj h).symm⟩
      ·cases h
     ·cases h
    ·rw [if_neg hb] at h
     exact ⟨fun h2 => absurd h2 hb, (Option.some.inj h).symm⟩
   obtain ⟨hk, rfl⟩ := key
   refine .val fun o s' U β μ a W ho he hr => ⟨z, ?_, .v z⟩
   have e1 := dY (St.ev_den hr ((he x (by simp [Op.operands])).trans hp))
   have e2 := dY (St.ev_den hr ((he y (by simp [Op.operands])).trans hq))
   simp only [execOp, ho, e1, e2]
   exact iE _ _ _ (Ua hk hz x y W)
  ·cases h
 ·cases h
theorem rd_unOp {b : UnOp} {T : TypeId} {x : Operand} (h : rd C s (.unOp b T x) = some r) : uO C s (.unOp b T x) r := by
 simp only [rd] at h
 split at h
 ·rename_i p hp
  split at h
  ·obtain rfl := Option.some.inj h
   refine .val fun o s' U β μ a W ho he hr => ⟨_, ?_, .v _⟩
   have e1 := dY (St.ev_den hr ((he x (by simp [Op.operands])).trans hp))
   simp only [execOp, ho, e1]
   exact iE _ _ _ rfl
  ·cases h
 ·rename_i k n hp
  split at h
  ·obtain rfl := Option.some.inj h
   refine .val fun o s' U β μ a W ho he hr => ⟨_, ?_, .v _⟩
   have e1 := dY (St.ev_den hr ((he x (by simp [Op.operands])).trans hp))
   simp only [execOp, ho, e1]
   exact iE _ _ _ rfl
  ·cases h
 ·cases h
theorem Ss {x : Operand} {k : Nat} (h : rd C s (.extract x k) = some r) : uO C s (.extract x k) r := by
 simp only [rd] at h
 split at h
 ·rename_i l hl
  simp only [Option.map_eq_some_iff] at h
  obtain ⟨A, hA, rfl⟩ := h
  refine .val fun o s' U β μ a W ho he hr => ?_
  obtain ⟨vs, e1, _, hd⟩ := St.ev_den hr ((he x (by simp [Op.operands])).trans hl)
  obtain ⟨y, hy, hd⟩ := hd k A hA
  refine ⟨y, ?_, ?_⟩
  ·simp only [execOp, ho, e1, Instr.extract, hy]; rfl
  ·cases A with
   | tup l => exact hd.elim
   | cnd gs x => exact hd.elim
   | c x => exact hd
   | agg l => exact hd
 ·cases h
theorem Rt {x : Operand} (h : rd C s (.nilCheck x) = some r) : uO C s (.nilCheck x) r := by
 simp only [rd] at h
 split at h
 ·rename_i n k hx
  obtain rfl := Option.some.inj h
  refine .val fun o s' U β μ a W ho he hr => ?_
  have hd := St.ev_den hr ((he x (by simp [Op.operands])).trans hx)
  refine ⟨a.eval x, ?_, hd⟩
  have e1 := qV hd
  simp only [execOp, ho, e1]; rfl
 ·rename_i l hx
  obtain rfl := Option.some.inj h
  refine .val fun o s' U β μ a W ho he hr => ?_
  have hd := St.ev_den hr ((he x (by simp [Op.operands])).trans hx)
  refine ⟨a.eval x, ?_, hd⟩
  obtain ⟨b, o', e1, _⟩ := yD hd
  simp only [execOp, ho, e1]; rfl
 ·cases h
theorem Ii {μ : cL} {b o k : Nat} {l : List CV} (hc : ∀ (j : Nat) (x : CV), l[j]? = some x → ∃ v, μ.c b (o + j) = some v ∧ cQ μ x v) : cQ μ (.imm (l.drop k)) (.pointer (some ⟨b, o + k, none⟩)) := by
 refine .imm _ b (o + k) (fun j => (μ.c b (o + k + j)).getD undef) (fun j x hj => ?_) (fun j x hj => ?_)
 ·rw [List.getElem?_drop] at hj
  obtain ⟨v, hv, _⟩ := hc _ x hj
  rw [show o + k + j = o + (k + j) by omega]
  simp [hv]
 ·rw [List.getElem?_drop] at hj
  obtain ⟨v, hv, hd⟩ := hc _ x hj
  rw [show o + k + j = o + (k + j) by omega]
  simpa [hv] using hd
theorem Lt {E : oT} {T : TypeId} {fs : List (TypeId × Nat × Nat)} {sz by_ : Nat} {z : List Value} (h : E.ti T = some ⟨.st fs, sz, by_, z⟩) {f t o n : Nat} (hf : fs[f]? = some (t, o, n)) (hn : 0 < n) (b k : Nat) (W : World) :
  (Instr.fieldAt T (.pointer (some ⟨b, k, none⟩)) f).run E.P W = .ok (.pointer (some ⟨b, k + o, none⟩)) W := by
 obtain ⟨F, h1, h2, _⟩ := (E.ok T _ h).k
 obtain ⟨x, inf, h3, h4, h5, h6, h7⟩ := h2 f t o n hf
 unfold Instr.fieldAt
 rw [Sem.run_bind, run_underlying h1]
 simp only [Result.andThen_ok, h3, Instr.sureAddr, Sem.run_bind, Sem.run_pure]
 have : (fieldPlace ⟨b, k, none⟩ x).run E.P W = .ok ⟨b, k + o, none⟩ W := by
  unfold fieldPlace
  have hs : (sizeOf x.type).run E.P W = .ok n W := by simp [sizeOf, typeInfo, h4, h6, h7]
  rw [Sem.run_bind, hs, Result.andThen_ok, if_neg (by omega), rJ, h5]
  rfl
 rw [this]
 rfl
theorem Ob {T : TypeId} {x : Operand} {f : Nat} (h : rd C s (.fieldAddr T x f) = some r) : uO C s (.fieldAddr T x f) r := by
 simp only [rd] at h
 split at h
 ·rename_i n k fs sz b z hx hT
  split at h
  ·rename_i t o c hf
   split at h
   ·rename_i hc
    obtain rfl := Option.some.inj h
    refine .val fun op s' U β μ a W ho he hr => ?_
    have e1 := qV (St.ev_den hr ((he x (by simp [Op.operands])).trans hx))
    refine ⟨_, ?_, rfl⟩
    simp only [execOp, ho, e1]
    exact iE _ _ _ (Lt hT hf hc _ _ W)
   ·cases h
  ·cases h
 ·rename_i l fs sz b z hx hT
  split at h
  ·rename_i t o c hf
   split at h
   ·rename_i hc
    obtain rfl := Option.some.inj h
    refine .val fun op s' U β μ a W ho he hr => ?_
    obtain ⟨bb, oo, e1, hd⟩ := yD (St.ev_den hr ((he x (by simp [Op.operands])).trans hx))
    refine ⟨_, ?_, iT (β := β) (Ii (k := o) hd)⟩
    simp only [execOp, ho, e1]
    exact iE _ _ _ (Lt hT hf hc _ _ W)
   ·cases h
  ·cases h
 ·cases h
theorem Zh {T : TypeId} {x : Operand} {f : Nat} (h : rd C s (.field T x f) = some r) : uO C s (.field T x f) r := by
 simp only [rd] at h
 split at h
 ·rename_i l fs sz b z hx hT
  split at h
  ·rename_i t o c hf
   split at h
   ·rename_i i hi
    simp only [Option.map_eq_some_iff] at h
    obtain ⟨v, hv, rfl⟩ := h
    refine .val fun op s' U β μ a W ho he hr => ?_
    obtain ⟨vs, e1, hd⟩ := St.ev_den hr ((he x (by simp [Op.operands])).trans hx)
    obtain ⟨y, hy, hyd⟩ := xT hi (W := W) hd hv
    refine ⟨y, ?_, hyd⟩
    simp only [execOp, ho, e1]
    refine iE _ _ _ ?_
    obtain ⟨F, h1, h2, _⟩ := (C.E.ok T _ hT).k
    obtain ⟨x', inf, h3, h4, h5, h6, h7⟩ := h2 f t o c hf
    unfold Instr.field
    rw [Sem.run_bind, run_underlying h1]
    simp only [Result.andThen_ok, h3, asAgg, Sem.run_bind, Sem.run_pure, h4, h5]
    exact hy
   ·cases h
  ·cases h
 ·cases h
end Go.Bm
namespace Go.Bm
open Go
variable {C : cD} {s : St} {r : rE}
theorem Mz {P : Program} {T e : TypeId} (hu : P.underlying T = some (.slice e)) {n : Nat} (W : World) (hz : (sizeOf e).run P W = .ok n W) (b o len c : Nat) (k : IntKind) (i : Int) (h0 : 0 ≤ i) (h1 : i < len) :
  (Instr.indexAt T (.slice (some ⟨b, o, none⟩) len c) (.int k i)).run P W = .ok (.pointer (some ⟨b, o + i.toNat * n, none⟩)) W := by
 unfold Instr.indexAt
 simp only [asIntOf, Sem.run_bind, Sem.run_pure, Result.andThen_ok, run_underlying hu]
 rw [if_pos ⟨h0, h1⟩, Sem.run_bind, hz, Result.andThen_ok, rJ]
 rfl
theorem Vf {P : Program} {T e : TypeId} {len : Nat} (hu : P.underlying T = some (.array len e)) {n : Nat} (W : World) (hz : (sizeOf e).run P W = .ok n W) (b o : Nat) (k : IntKind) (i : Int) (h0 : 0 ≤ i) (h1 : i < len) :
  (Instr.indexAt T (.pointer (some ⟨b, o, none⟩)) (.int k i)).run P W = .ok (.pointer (some ⟨b, o + i.toNat * n, none⟩)) W := by
 unfold Instr.indexAt
 simp only [asIntOf, Sem.run_bind, Sem.run_pure, Result.andThen_ok, run_underlying hu, Instr.sureAddr]
 rw [if_pos ⟨h0, h1⟩, Sem.run_bind, hz, Result.andThen_ok, rJ]
 rfl
theorem Uw {μ : cL} {l : List (List CV)} {y : Value} (h2 : cQ μ (.lit l) y) {i : Nat} {e : List CV} (hi : l[i]? = some e) : ∃ b o c, y = .slice (some ⟨b, o, none⟩) l.length c ∧ i < l.length ∧ cQ μ (.imm e) (.pointer (some ⟨b, o + i * e.length, none⟩)) := by
 have hlt : i < l.length := (List.getElem?_eq_some_iff.1 hi).1
 cases h2 with
 | nil a c => simp at hlt
 | lit _ b o c sz w hc hz hw hd =>
  refine ⟨b, o, c, rfl, hlt, ?_⟩
  rw [hz i e hi]
  exact .imm e b _ (w i) (fun j x hj => (hw i j e x hi hj).1) fun j x hj => hd i j e x hi hj
theorem Ht {μ : cL} {l : List (List CV)} {y : Value} (h2 : cQ μ (.lit l) y) : ∃ a c, y = .slice a l.length c := by
 cases h2 with
 | nil a c => exact ⟨a, c, rfl⟩
 | lit _ b o c sz w hc hz hw hd => exact ⟨_, c, rfl⟩
theorem lit_at {μ : cL} {β : Nat → Bk} {l : List (List CV)} {y : Value} (h : dL μ β (.c (.lit l)) y) {i : Nat} {e : List CV} (hi : l[i]? = some e) : ∃ b o c, y = .slice (some ⟨b, o, none⟩) l.length c ∧ i < l.length ∧ cQ μ (.imm e) (.pointer (some ⟨b, o + i * e.length, none⟩)) :=
 Uw h hi
theorem Vu {μ : cL} {β : Nat → Bk} {l : List (List CV)} {y : Value} (h : dL μ β (.c (.lit l)) y) : ∃ a c, y = .slice a l.length c := Ht (μ := μ) h
theorem rH {μ : cL} {β : Nat → Bk} {n : Nat} {l : List (List CV)} {y : Value} (h : dL μ β (.c (.app n l)) y) : cQ μ (.lit l) y ∧ y = (β n).sl l.length := h
theorem Fw {μ : cL} {β : Nat → Bk} {n : Nat} {y : Value} (h : dL μ β (.c (.row n)) y) : y = (β n).sl (β n).len := h
theorem Nh {T : TypeId} {x y : Operand} (h : rd C s (.indexAddr T x y) = some r) : uO C s (.indexAddr T x y) r := by
 simp only [rd] at h
 split at h
 ·rename_i l k i e z1 z2 z3 hx hy hT
  split at h
  ·rename_i j hj
   split at h
   ·rename_i h0
    split at h
    ·rename_i c hc
     split at h
     ·rename_i hlen
      obtain rfl := Option.some.inj h
      refine .val fun op s' U β μ a W ho he hr => ?_
      obtain ⟨b, o, cap, e1, hlt, hd⟩ := lit_at (St.ev_den hr ((he x (by simp [Op.operands])).trans hx)) hc
      have e2 := dY (St.ev_den hr ((he y (by simp [Op.operands])).trans hy))
      rw [hlen] at hd
      refine ⟨_, ?_, iT (β := β) hd⟩
      simp only [execOp, ho, e1, e2]
      exact iE _ _ _ (Mz (C.E.ok T _ hT).k W (lH hj W) b o _ cap k i h0 (by omega))
     ·cases h
    ·cases h
   ·cases h
  ·cases h
 ·rename_i ap l k i e z1 z2 z3 hx hy hT
  split at h
  ·rename_i j hj
   split at h
   ·rename_i h0
    split at h
    ·rename_i c hc
     split at h
     ·rename_i hlen
      obtain rfl := Option.some.inj h
      refine .val fun op s' U β μ a W ho he hr => ?_
      obtain ⟨b, o, cap, e1, hlt, hd⟩ := Uw (rH (St.ev_den hr ((he x (by simp [Op.operands])).trans hx))).1 hc
      have e2 := dY (St.ev_den hr ((he y (by simp [Op.operands])).trans hy))
      rw [hlen] at hd
      refine ⟨_, ?_, iT (β := β) hd⟩
      simp only [execOp, ho, e1, e2]
      exact iE _ _ _ (Mz (C.E.ok T _ hT).k W (lH hj W) b o _ cap k i h0 (by omega))
     ·cases h
    ·cases h
   ·cases h
  ·cases h
 ·rename_i n k i e z1 z2 z3 hx hy hT
  split at h
  ·rename_i j T' sz l hj hH
   split at h
   ·rename_i h0
    obtain rfl := Option.some.inj h
    refine ⟨rfl, rfl, _, rfl, fun op s' U β μ a W ho he hf hr => ?_⟩
    have e1 := Fw (St.ev_den hr ((he x (by simp [Op.operands])).trans hx))
    have e2 := dY (St.ev_den hr ((he y (by simp [Op.operands])).trans hy))
    have hH' := (hf n (by simp [rE.rd])).trans hH
    obtain ⟨hl, hown⟩ := hr.w.own n _ hH'
    have h00 : (β n).nil = false := by
     rcases hown with ⟨_, rfl⟩ | ⟨h1, _⟩
     ·simp at h0; omega
     ·exact h1
    rw [Bk.sl, h00, ← hl] at e1
    refine ⟨_, ?_, rfl⟩
    simp only [execOp, ho, e1, e2, Bool.false_eq_true, if_false]
    have := iE _ _ _ (Mz (C.E.ok T _ hT).k W (lH hj W) (β n).blk 0 l.length (β n).cap k i h0.1 h0.2)
    rw [Nat.zero_add] at this
    exact this
   ·cases h
  ·cases h
 ·rename_i n o k i len e z1 z2 z3 hx hy hT
  split at h
  ·rename_i j hj
   split at h
   ·rename_i h0
    obtain rfl := Option.some.inj h
    refine .val fun op s' U β μ a W ho he hr => ?_
    have e1 := qV (St.ev_den hr ((he x (by simp [Op.operands])).trans hx))
    have e2 := dY (St.ev_den hr ((he y (by simp [Op.operands])).trans hy))
    refine ⟨_, ?_, rfl⟩
    simp only [execOp, ho, e1, e2]
    exact iE _ _ _ (Vf (C.E.ok T _ hT).k W (lH hj W) _ o k i h0.1 h0.2)
   ·cases h
  ·cases h
 ·rename_i l k i len e z1 z2 z3 hx hy hT
  split at h
  ·rename_i j hj
   split at h
   ·rename_i h0
    obtain rfl := Option.some.inj h
    refine .val fun op s' U β μ a W ho he hr => ?_
    obtain ⟨bb, oo, e1, hd⟩ := yD (St.ev_den hr ((he x (by simp [Op.operands])).trans hx))
    have e2 := dY (St.ev_den hr ((he y (by simp [Op.operands])).trans hy))
    refine ⟨_, ?_, iT (β := β) (Ii (k := i.toNat * j.size) hd)⟩
    simp only [execOp, ho, e1, e2]
    exact iE _ _ _ (Vf (C.E.ok T _ hT).k W (lH hj W) _ _ k i h0.1 h0.2)
   ·cases h
  ·cases h
 ·cases h
theorem rd_index {T : TypeId} {x y : Operand} (h : rd C s (.index T x y) = some r) : uO C s (.index T x y) r := by
 simp only [rd] at h
 split at h
 ·rename_i b k i z1 z2 z3 hx hy hT
  split at h
  ·rename_i h0
   split at h
   ·rename_i u hu
    obtain rfl := Option.some.inj h
    refine .val fun op s' U β μ a W ho he hr => ⟨_, ?_, .v _⟩
    have e1 := dY (St.ev_den hr ((he x (by simp [Op.operands])).trans hx))
    have e2 := dY (St.ev_den hr ((he y (by simp [Op.operands])).trans hy))
    simp only [execOp, ho, e1, e2]
    refine iE _ _ _ ?_
    unfold Instr.index
    have hk : C.E.P.underlying T = some .string := (C.E.ok T _ hT).k
    simp only [asIntOf, Sem.run_bind, Sem.run_pure, Result.andThen_ok, run_underlying hk]
    rw [if_pos h0, hu]
    rfl
   ·cases h
  ·cases h
 ·rename_i l k i len e z1 z2 z3 hx hy hT
  split at h
  ·rename_i j hj
   split at h
   ·rename_i h0
    simp only [Option.map_eq_some_iff] at h
    obtain ⟨v, hv, rfl⟩ := h
    refine .val fun op s' U β μ a W ho he hr => ?_
    obtain ⟨vs, e1, hd⟩ := St.ev_den hr ((he x (by simp [Op.operands])).trans hx)
    have e2 := dY (St.ev_den hr ((he y (by simp [Op.operands])).trans hy))
    obtain ⟨z, hz, hzd⟩ := xT hj (W := W) hd hv
    refine ⟨z, ?_, hzd⟩
    simp only [execOp, ho, e1, e2]
    refine iE _ _ _ ?_
    unfold Instr.index
    have hk : C.E.P.underlying T = some (.array len e) := (C.E.ok T _ hT).k
    simp only [asIntOf, Sem.run_bind, Sem.run_pure, Result.andThen_ok, run_underlying hk]
    rw [if_pos h0, Sem.run_bind, lH hj, Result.andThen_ok]
    exact hz
   ·cases h
  ·cases h
 ·cases h
theorem Lx {H : Nat → Option bH} {U : Nat → Prop} {β : Nat → Bk} {μ : cL} {W : World} (h : WR C H U β μ W) {n : Nat} {T : TypeId} {l : List CV} (hn : H n = some (.blk T l)) {j : Nat} {x : CV} (hj : l[j]? = some x) : (β n).nil = false ∧ ∃ y, W.cell? ⟨(β n).blk, j, none⟩ = some y ∧ Kf μ β x y := by
 obtain ⟨h0, vs, h1, h3⟩ := h.own n _ hn
 obtain ⟨y, hy, hd⟩ := h3.2 j x hj
 exact ⟨h0, y, by rw [vY h1]; exact hy, hd⟩
theorem rd_load {T : TypeId} {x : Operand} (h : rd C s (.load T x) = some r) : uO C s (.load T x) r := by
 simp only [rd] at h
 split at h
 ·rename_i n o i hx hT
  split at h
  ·rename_i T' l hH
   simp only [Option.map_eq_some_iff] at h
   obtain ⟨v, hv, rfl⟩ := h
   refine ⟨rfl, rfl, v, rfl, fun op s' U β μ a W ho he hf hr => ?_⟩
   have e1 := qV (St.ev_den hr ((he x (by simp [Op.operands])).trans hx))
   have hH' := (hf n (by simp [rE.rd])).trans hH
   obtain ⟨y, hy, hd⟩ := Br hT (W := W) (b := (β n).blk) (o := o) (μ := μ) (β := β) (l := l.drop o) (fun j x hj => by
    rw [List.getElem?_drop] at hj
    exact (Lx hr.w hH' hj).2) hv
   refine ⟨y, ?_, hd⟩
   simp only [execOp, ho, e1, Instr.loadAt, Instr.sureAddr]
   exact iE _ _ _ hy
  ·cases h
 ·rename_i l i hx hT
  simp only [Option.map_eq_some_iff] at h
  obtain ⟨v, hv, rfl⟩ := h
  refine .val fun op s' U β μ a W ho he hr => ?_
  obtain ⟨b, o, e1, hd⟩ := yD (St.ev_den hr ((he x (by simp [Op.operands])).trans hx))
  obtain ⟨y, hy, hyd⟩ := Br hT (W := W) (b := b) (o := o) (μ := μ) (β := β) (l := l) (fun j x hj => by
   obtain ⟨v, hv, hvd⟩ := hd j x hj
   exact ⟨v, uZ hr.w.imm hv, iT hvd⟩) hv
  refine ⟨y, ?_, hyd⟩
  simp only [execOp, ho, e1, Instr.loadAt, Instr.sureAddr]
  exact iE _ _ _ hy
 ·cases h
theorem Su {S T : TypeId} {x : Operand} (h : rd C s (.convert S T x) = some r) : uO C s (.convert S T x) r := by
 simp only [rd] at h
 split at h
 ·rename_i k1 n k2 z1 z2 z3 k z4 z5 z6 hx hS hT
  obtain rfl := Option.some.inj h
  refine .val fun o s' U β μ a W ho he hr => ⟨_, ?_, .v _⟩
  have e1 := dY (St.ev_den hr ((he x (by simp [Op.operands])).trans hx))
  have u1 : C.E.P.underlying S = some (.int k2) := (C.E.ok S _ hS).k
  have u2 : C.E.P.underlying T = some (.int k) := (C.E.ok T _ hT).k
  simp only [execOp, ho, e1]
  refine iE _ _ _ ?_
  unfold convert
  simp only [Sem.run_bind, run_underlying u1, run_underlying u2, Result.andThen_ok]
  rfl
 ·rename_i b z1 z2 z3 z4 z5 z6 hx hS hT
  obtain rfl := Option.some.inj h
  refine .val fun o s' U β μ a W ho he hr => ⟨_, ?_, .v _⟩
  have e1 := dY (St.ev_den hr ((he x (by simp [Op.operands])).trans hx))
  have u1 : C.E.P.underlying S = some .string := (C.E.ok S _ hS).k
  have u2 : C.E.P.underlying T = some .string := (C.E.ok T _ hT).k
  simp only [execOp, ho, e1]
  refine iE _ _ _ ?_
  unfold convert
  simp only [Sem.run_bind, run_underlying u1, run_underlying u2, Result.andThen_ok]
  rfl
 ·cases h
theorem gP {P : Program} {a : Act} {o : Oper} {b : Builtin} {args : Array Operand} {ts : Array TypeId} {W : World} (ho : o.op = .call ⟨.builtin b, args, ts⟩) :
  (execOp a.eval o).run P W = (builtin b ts o.type (args.map fun | .const _ => true | _ => false) (args.map a.eval)).run P W := by
 simp only [execOp, ho, resolve]
 rfl
theorem rd_call {c : Call} (h : rd C s (.call c) = some r) : uO C s (.call c) r := by
 obtain ⟨cal, args, ts⟩ := c
 cases cal with
 | value f => simp only [rd] at h; cases h
 | invoke f m => simp only [rd] at h; cases h
 | builtin b =>
  cases b <;> try (simp only [rd] at h; cases h; done)
  simp only [rd] at h
  split at h
  ·rename_i x T hx0 hT0
   have hmem : x ∈ (Op.call ⟨.builtin .len, args, ts⟩).operands := by
    simp only [Op.operands, Call.operands]
    have := Array.mem_of_getElem? hx0
    simpa using this
   have key : ∀ (n : Nat), (∀ (o : Oper) (s' : St) (U : Nat → Prop) (β : Nat → Bk) (μ : cL) (a : Act) (W : World), (s'.ev C x = s.ev C x) → pV C s' U β μ a W → ∃ y, a.eval x = y ∧ (Builtin.len_ ts o.type (args.map a.eval)).run C.E.P W = .ok (.int .i64 n) W) → uO C s (.call ⟨.builtin .len, args, ts⟩) (rE.val (.c (.v (.int .i64 n)))) := by
    intro n hn
    refine .val fun o s' U β μ a W ho he hr => ⟨_, ?_, .v _⟩
    obtain ⟨y, e1, e2⟩ := hn o s' U β μ a W (he x hmem) hr
    rw [gP ho]
    unfold builtin
    rw [Sem.run_bind, e2]
    rfl
   split at h
   ·rename_i b z1 z2 z3 hx hT
    obtain rfl := Option.some.inj h
    refine key _ fun o s' U β μ a W he hr => ?_
    have e1 := dY (St.ev_den hr (he.trans hx))
    have hk : C.E.P.underlying T = some .string := (C.E.ok T _ hT).k
    refine ⟨_, e1, ?_⟩
    unfold Builtin.len_
    simp only [Array.getElem?_map, hx0, hT0, Option.map_some, e1, Sem.run_bind, run_underlying hk, Result.andThen_ok]
    rfl
   ·rename_i a0 n c0 e0 z1 z2 z3 hx hT
    obtain rfl := Option.some.inj h
    refine key _ fun o s' U β μ a W he hr => ?_
    have e1 := dY (St.ev_den hr (he.trans hx))
    have hk : C.E.P.underlying T = some (.slice e0) := (C.E.ok T _ hT).k
    refine ⟨_, e1, ?_⟩
    unfold Builtin.len_
    simp only [Array.getElem?_map, hx0, hT0, Option.map_some, e1, Sem.run_bind, run_underlying hk, Result.andThen_ok]
    rfl
   ·rename_i l e0 z1 z2 z3 hx hT
    obtain rfl := Option.some.inj h
    refine key _ fun o s' U β μ a W he hr => ?_
    obtain ⟨a1, c1, e1⟩ := Vu (St.ev_den hr (he.trans hx))
    have hk : C.E.P.underlying T = some (.slice e0) := (C.E.ok T _ hT).k
    refine ⟨_, e1, ?_⟩
    unfold Builtin.len_
    simp only [Array.getElem?_map, hx0, hT0, Option.map_some, e1, Sem.run_bind, run_underlying hk, Result.andThen_ok]
    rfl
   ·rename_i n1 l e0 z1 z2 z3 hx hT
    obtain rfl := Option.some.inj h
    refine key _ fun o s' U β μ a W he hr => ?_
    obtain ⟨a1, c1, e1⟩ := Ht (rH (St.ev_den hr (he.trans hx))).1
    have hk : C.E.P.underlying T = some (.slice e0) := (C.E.ok T _ hT).k
    refine ⟨_, e1, ?_⟩
    unfold Builtin.len_
    simp only [Array.getElem?_map, hx0, hT0, Option.map_some, e1, Sem.run_bind, run_underlying hk, Result.andThen_ok]
    rfl
   ·rename_i n1 e0 z1 z2 z3 hx hT
    split at h
    ·rename_i T' sz l hH
     obtain rfl := Option.some.inj h
     refine ⟨rfl, rfl, _, rfl, fun o s' U β μ a W ho he hf hr => ⟨_, ?_, .v _⟩⟩
     have e1 := Fw (St.ev_den hr ((he x hmem).trans hx))
     have hH' := (hf n1 (by simp [rE.rd])).trans hH
     obtain ⟨hl, hown⟩ := hr.w.own n1 _ hH'
     have hk : C.E.P.underlying T = some (.slice e0) := (C.E.ok T _ hT).k
     rw [gP ho]
     unfold builtin
     rw [Sem.run_bind]
     have : (Builtin.len_ ts o.type (args.map a.eval)).run C.E.P W = .ok (.int .i64 l.length) W := by
      unfold Builtin.len_
      rw [Bk.sl] at e1
      cases hq : (β n1).nil with
      | false =>
       rw [hq, ← hl] at e1
       simp only [Array.getElem?_map, hx0, hT0, Option.map_some, e1, Bool.false_eq_true, if_false, Sem.run_bind, run_underlying hk, Result.andThen_ok]
       rfl
      | true =>
       rcases hown with ⟨_, rfl⟩ | ⟨h1, _⟩
       ·rw [hq] at e1
        simp only [Array.getElem?_map, hx0, hT0, Option.map_some, e1, if_true, Sem.run_bind, run_underlying hk, Result.andThen_ok]
        rfl
       ·rw [hq] at h1; cases h1
     rw [this]
     rfl
    ·cases h
   ·cases h
  ·cases h
end Go.Bm
namespace Go.Bm
open Go
theorem Fs {μ : cL} {β : Nat → Bk} {x : CV} {v : Value} (h1 : x.one = true) (h : Kf μ β x v) : v.oneCell' = true ∧ v.cells = #[v] := by
 cases x with
 | v y =>
  have : v = y := dY (μ := μ) (β := β) h
  subst this
  cases v <;> first | (simp [CV.one, Value.oneCell'] at h1; done) | exact ⟨rfl, rfl⟩
 | lit l =>
  obtain ⟨a, c, rfl⟩ := Vu (μ := μ) (β := β) h
  exact ⟨rfl, rfl⟩
 | imm l =>
  obtain ⟨b, o, rfl, _⟩ := yD (μ := μ) (β := β) h
  exact ⟨rfl, rfl⟩
 | lmap ag l =>
  have h2 : cQ μ (.lmap ag l) v := h
  cases h2 <;> exact ⟨rfl, rfl⟩
 | ptr n o =>
  have : v = .pointer (some ⟨(β n).blk, o, none⟩) := h
  subst this
  exact ⟨rfl, rfl⟩
 | app n l =>
  obtain ⟨_, rfl⟩ := rH (μ := μ) (β := β) h
  unfold Bk.sl
  split <;> exact ⟨rfl, rfl⟩
 | row n =>
  obtain rfl := Fw (μ := μ) (β := β) h
  unfold Bk.sl
  split <;> exact ⟨rfl, rfl⟩
 | mapr n =>
  have : v = .map (some (β n).blk) := h
  subst this
  exact ⟨rfl, rfl⟩
 | fn f caps =>
  obtain ⟨vs, rfl, _⟩ := h
  exact ⟨rfl, rfl⟩
theorem yJ {μ : cL} {β : Nat → Bk} {A : AV} {l : List CV} (hA : A.cells? = some l) {v : Value} (h : dL μ β A v) : wQ μ β l v.cells ∧ (∀ y, y ∈ v.cells.toList → y.oneCell' = true) ∧ v.cells.size = l.length ∧ l.flatMap CV.ments = A.ments := by
 cases A with
 | tup l => cases hA
 | cnd gs x => cases hA
 | c x =>
  simp only [AV.cells?] at hA
  split at hA
  ·rename_i h1
   obtain rfl := Option.some.inj hA
   obtain ⟨h2, h3⟩ := Fs (μ := μ) (β := β) (x := x) h1 h
   rw [h3]
   refine ⟨⟨rfl, fun j y hj => ?_⟩, fun y hy => by simp at hy; subst hy; exact h2, rfl, by simp [AV.ments, AV.ments0, AV.ments1]⟩
   cases j with
   | zero => simp at hj; subst hj; exact ⟨v, rfl, h⟩
   | succ j => simp at hj
  ·cases hA
 | agg l' =>
  simp only [AV.cells?] at hA
  split at hA
  ·rename_i h1
   obtain rfl := Option.some.inj hA
   obtain ⟨vs, rfl, hd⟩ := h
   refine ⟨hd, fun y hy => ?_, hd.1, rfl⟩
   obtain ⟨j, hj⟩ := List.getElem?_of_mem hy
   have hj1 : vs[j]? = some y := by rw [← Array.getElem?_toList]; exact hj
   have hjlt : j < vs.size := (Array.getElem?_eq_some_iff.1 hj1).1
   have hjl : j < l'.length := by have := hd.1; omega
   obtain ⟨z, hz, hzd⟩ := hd.2 j _ (List.getElem?_eq_getElem hjl)
   rw [hj1] at hz
   obtain rfl := Option.some.inj hz
   exact (Fs (List.all_eq_true.1 h1 _ (List.getElem_mem hjl)) hzd).1
  ·cases hA
theorem vN {l x : List CV} {o : Nat} (h : o + x.length ≤ l.length) : (gL l o x).length = l.length := by
 simp only [gL, List.length_append, List.length_take, List.length_drop]
 omega
theorem sZ {α : Type} (l x : List α) (o j : Nat) (h : o + x.length ≤ l.length) : (l.take o ++ x ++ l.drop (o + x.length))[j]? = if j < o then l[j]? else if j < o + x.length then x[j - o]? else l[j]? := by
 have h1 : (l.take o).length = o := by rw [List.length_take]; omega
 by_cases a : j < o
 ·rw [if_pos a, List.append_assoc, List.getElem?_append_left (by omega), List.getElem?_take_of_lt a]
 ·rw [if_neg a, List.append_assoc, List.getElem?_append_right (by omega), h1]
  by_cases b : j < o + x.length
  ·rw [if_pos b, List.getElem?_append_left (by omega)]
  ·rw [if_neg b, List.getElem?_append_right (by omega), List.getElem?_drop]
   congr 1
   omega
theorem Np {l x : List CV} {o n : Nat} (h : n ∈ (gL l o x).flatMap CV.ments) : n ∈ l.flatMap CV.ments ∨ n ∈ x.flatMap CV.ments := by
 obtain ⟨y, hy, hn⟩ := List.mem_flatMap.1 h
 simp only [gL, List.mem_append] at hy
 rcases hy with (hy | hy) | hy
 ·exact .inl (List.mem_flatMap.2 ⟨y, List.mem_of_mem_take hy, hn⟩)
 ·exact .inr (List.mem_flatMap.2 ⟨y, hy, hn⟩)
 ·exact .inl (List.mem_flatMap.2 ⟨y, List.mem_of_mem_drop hy, hn⟩)
theorem Rm (off : Nat) : ∀ (l : List Value) (k : Nat) (cs : Array Value), ((l.zipIdx k).foldl (fun cs (p : Value × Nat) => cs.setIfInBounds (off + p.2) p.1) cs).size = cs.size ∧
  ∀ j, ((l.zipIdx k).foldl (fun cs (p : Value × Nat) => cs.setIfInBounds (off + p.2) p.1) cs)[j]? = if off + k ≤ j ∧ j < off + k + l.length ∧ j < cs.size then l[j - (off + k)]? else cs[j]?
 | [], k, cs => ⟨rfl, fun j => by rw [if_neg (by simp; omega)]; rfl⟩
 | x :: l, k, cs => by
  obtain ⟨h1, h2⟩ := Rm off l (k + 1) (cs.setIfInBounds (off + k) x)
  simp only [List.zipIdx_cons, List.foldl_cons]
  refine ⟨by rw [h1]; simp, fun j => ?_⟩
  rw [h2 j]
  by_cases e : j = off + k
  ·subst e
   rw [if_neg (by omega)]
   by_cases hs : off + k < cs.size
   ·rw [if_pos (by simp; omega)]; simp [hs]
   ·rw [if_neg (by omega)]; simp [hs]
  ·rw [Array.getElem?_setIfInBounds_ne (Ne.symm e), Array.size_setIfInBounds]
   by_cases hc : off + (k + 1) ≤ j ∧ j < off + (k + 1) + l.length ∧ j < cs.size
   ·rw [if_pos hc, if_pos (by simp only [List.length_cons]; omega), show j - (off + k) = (j - (off + (k + 1))) + 1 by omega]; rfl
   ·rw [if_neg hc, if_neg (by simp only [List.length_cons]; omega)]
theorem Bn {μ : cL} {β : Nat → Bk} {place placeA : Nat → Option (Nat × Nat)} (hp : ∀ i x, placeA i = some x → place i = some x) : ∀ (parts : List (Nat × Option AV)) (vs : List (Nat × Value)) (cells : List CV) (cs : Array Value) (r : List CV),
  (∀ (j : Nat) (p : Nat × Option AV), parts[j]? = some p → ∃ v, vs[j]? = some (p.1, v) ∧ ∀ A, p.2 = some A → dL μ β A v) → vs.length = parts.length → wQ μ β cells cs → uR placeA cells parts = some r → ∃ cs', Instr.fill place cs vs = some cs' ∧ wQ μ β r cs'
 | [], vs, cells, cs, r, _, hl, hd, h => by
  have : vs = [] := List.length_eq_zero_iff.1 (by simpa using hl)
  subst this
  simp only [uR, Option.some.injEq] at h
  subst h
  exact ⟨cs, rfl, hd⟩
 | (i, A) :: rest, vs, cells, cs, r, hv, hl, hd, h => by
  obtain ⟨v, hv0, hA⟩ := hv 0 _ rfl
  cases vs with
  | nil => simp at hl
  | cons w vs =>
   simp at hv0
   subst hv0
   simp only [uR] at h
   split at h
   ·rename_i x y off size A' hpl
    split at h
    ·rename_i lx hlx
     split at h
     ·rename_i hcond
      obtain ⟨c1, c2, c3, c4⟩ := yJ hlx (hA A' rfl)
      have hsz : v.cells.size = size := by rw [c3]; exact hcond.1
      have hfit : off + v.cells.size ≤ cs.size := by rw [hd.1, hsz]; exact hcond.2
      have e : Array.foldl (fun cs (x : Value × Nat) => cs.setIfInBounds (off + x.2) x.1) cs v.cells.zipIdx = (v.cells.toList.zipIdx 0).foldl (fun cs (p : Value × Nat) => cs.setIfInBounds (off + p.2) p.1) cs := by
       rw [← Array.foldl_toList]; simp
      obtain ⟨g1, g2⟩ := Rm off v.cells.toList 0 cs
      have hd2 : wQ μ β (gL cells off lx) (Array.foldl (fun cs (x : Value × Nat) => cs.setIfInBounds (off + x.2) x.1) cs v.cells.zipIdx) := by
       rw [e]
       have hle : off + lx.length ≤ cells.length := by rw [hcond.1]; exact hcond.2
       refine ⟨by rw [g1, vN hle]; exact hd.1, fun j x hj => ?_⟩
       rw [gL, sZ _ _ _ _ hle] at hj
       rw [g2 j]
       simp only [Nat.add_zero, Array.length_toList, c3]
       by_cases e1 : j < off
       ·rw [if_pos e1] at hj; rw [if_neg (by omega)]; exact hd.2 j x hj
       ·rw [if_neg e1] at hj
        by_cases e2 : j < off + lx.length
        ·rw [if_pos e2] at hj
         rw [if_pos ⟨by omega, e2, by have := hd.1; omega⟩]
         obtain ⟨y, hy, hyd⟩ := c1.2 _ x hj
         exact ⟨y, by simpa using hy, hyd⟩
        ·rw [if_neg e2] at hj; rw [if_neg (by omega)]; exact hd.2 j x hj
      obtain ⟨cs', h1, h2⟩ := Bn hp rest vs _ _ r (fun j p hj => by have := hv (j + 1) p (by simpa using hj); simpa using this) (by simpa using hl) hd2 h
      refine ⟨cs', ?_, h2⟩
      unfold Instr.fill
      rw [hp _ _ hpl]
      simp only [hsz]
      rw [if_neg (by simp; omega)]
      exact h1
     ·cases h
    ·cases h
   ·cases h
section
variable {C : cD} {s : St} {r : rE}
theorem Ec {s' : St} {U : Nat → Prop} {β : Nat → Bk} {μ : cL} {a : Act} {W : World} (hr : pV C s' U β μ a W) (parts : Array (Nat × Operand)) (he : ∀ x, x ∈ parts.toList.map Prod.snd → s'.ev C x = s.ev C x) :
  (∀ (j : Nat) (p : Nat × Option AV), (parts.toList.map fun p => (p.1, s.ev C p.2))[j]? = some p → ∃ v, ((parts.map fun p => (p.1, a.eval p.2)).toList)[j]? = some (p.1, v) ∧ ∀ A, p.2 = some A → dL μ β A v) ∧ (parts.map fun p => (p.1, a.eval p.2)).toList.length = (parts.toList.map fun p => (p.1, s.ev C p.2)).length := by
 refine ⟨fun j p hj => ?_, by simp⟩
 rw [List.getElem?_map] at hj
 cases hq : parts.toList[j]? with
 | none => rw [hq] at hj; cases hj
 | some q =>
  rw [hq] at hj
  obtain rfl := Option.some.inj hj
  refine ⟨a.eval q.2, ?_, fun A hA => St.ev_den hr ((he _ (List.mem_map.2 ⟨q, List.mem_of_getElem? hq, rfl⟩)).trans hA)⟩
  rw [Array.toList_map, List.getElem?_map, hq]; rfl
theorem Tt {E : oT} {T : TypeId} {fs : List (TypeId × Nat × Nat)} {sz by_ : Nat} {z : List Value} (h : E.ti T = some ⟨.st fs, sz, by_, z⟩) (W : World) :
  ∃ F : Array Field, E.P.underlying T = some (.struct F) ∧ ∃ ps : Array (Nat × Nat), (F.mapM fun (f : Field) => (do pure (f.offset, ← sizeOf f.type) : Sem (Nat × Nat))).run E.P W = .ok ps W ∧ ∀ i : Nat, ps[i]? = (fs[i]?).map Ba := by
 obtain ⟨F, h1, h2, hsize⟩ := (E.ok T _ h).k
 refine ⟨F, h1, (fs.map Ba).toArray, ?_, fun i => by simp⟩
 have key : ∀ (l : List Field) (k : Nat), (∀ j, l[j]? = F[k + j]?) → (∀ (j : Nat) (f : Field), l[j]? = some f → ∃ t o n, fs[k + j]? = some (t, o, n)) → (l.mapM fun (f : Field) => (do pure (f.offset, ← sizeOf f.type) : Sem (Nat × Nat))).run E.P W = .ok (((fs.drop k).take l.length).map Ba) W := by
  intro l
  induction l with
  | nil => intro k _ _; simp
  | cons f l ih =>
   intro k hk hf
   obtain ⟨t, o, n, hfs⟩ := hf 0 f rfl
   rw [Nat.add_zero] at hfs
   obtain ⟨x, inf, h3, h4, h5, h6, h7⟩ := h2 k t o n hfs
   have hfx : f = x := by have := hk 0; simp at this; rw [h3] at this; exact Option.some.inj this
   have hsz : (sizeOf f.type).run E.P W = .ok n W := by rw [hfx]; simp [sizeOf, typeInfo, h4, h6, h7]
   rw [List.mapM_cons, Sem.run_bind, Sem.run_bind, hsz, Result.andThen_ok]
   simp only [Sem.run_pure, Result.andThen_ok]
   rw [Sem.run_bind, ih (k + 1) (fun j => by have := hk (j + 1); simpa [Nat.add_assoc, Nat.add_comm 1 j] using this) (fun j g hj => by have := hf (j + 1) g (by simpa using hj); simpa [Nat.add_assoc, Nat.add_comm 1 j] using this)]
   have hd : fs.drop k = (t, o, n) :: fs.drop (k + 1) := by
    obtain ⟨hlt, hge⟩ := List.getElem?_eq_some_iff.1 hfs
    rw [List.drop_eq_getElem_cons hlt, hge]
   rw [hd]
   simp [hfx, h5, Ba]
 have := key F.toList 0 (fun j => by simp) (fun j f hj => by
  have hlt : j < fs.length := by have := (List.getElem?_eq_some_iff.1 hj).1; simp at this; omega
  rw [Nat.zero_add, List.getElem?_eq_getElem hlt]
  exact ⟨_, _, _, rfl⟩)
 rw [← Array.toArray_toList (xs := F), List.mapM_toArray]
 simp only [Sem.run_map, this, Result.andThen_ok]
 simp [hsize]
theorem Zk {T : TypeId} {parts : Array (Nat × Operand)} (h : rd C s (.build T parts) = some r) : uO C s (.build T parts) r := by
 have hmem : ∀ x, x ∈ parts.toList.map Prod.snd → x ∈ (Op.build T parts).operands := by
  intro x hx
  simp only [Op.operands]
  simpa using hx
 simp only [rd] at h
 split at h
 ·rename_i fs sz by_ z hT
  simp only [Option.map_eq_some_iff] at h
  obtain ⟨l, hl, rfl⟩ := h
  refine .val fun o s' U β μ a W ho he hr => ?_
  obtain ⟨zv, z1, z2, z3⟩ := An hT W
  obtain ⟨F, h1, ps, h2, h3⟩ := Tt hT W
  obtain ⟨p1, p2⟩ := Ec hr parts fun x hx => he x (hmem x hx)
  obtain ⟨cs', c1, c2⟩ := Bn (β := β) (μ := μ) (place := (ps[·]?)) (fun i x hx => by rw [h3]; exact hx) _ _ (z.map .v) zv.cells l p1 p2 (by have := Nz μ β zv.cells; rw [z2] at this; exact this) hl
  refine ⟨.agg cs', ?_, cs', rfl, c2⟩
  simp only [execOp, ho]
  refine iE _ _ _ ?_
  unfold Instr.build
  simp only [Sem.run_bind, z1, Result.andThen_ok, run_underlying h1, h2, c1, Sem.run_pure]
 ·rename_i len e sz by_ z hT
  split at h
  ·rename_i j hj
   simp only [Option.map_eq_some_iff] at h
   obtain ⟨l, hl, rfl⟩ := h
   refine .val fun o s' U β μ a W ho he hr => ?_
   obtain ⟨zv, z1, z2, z3⟩ := An hT W
   have h1 : C.E.P.underlying T = some (.array len e) := (C.E.ok T _ hT).k
   obtain ⟨p1, p2⟩ := Ec hr parts fun x hx => he x (hmem x hx)
   obtain ⟨cs', c1, c2⟩ := Bn (β := β) (μ := μ) (place := fun i => some (i * j.size, j.size)) (fun i x hx => hx) _ _ (z.map .v) zv.cells l p1 p2 (by have := Nz μ β zv.cells; rw [z2] at this; exact this) hl
   refine ⟨.agg cs', ?_, cs', rfl, c2⟩
   simp only [execOp, ho]
   refine iE _ _ _ ?_
   unfold Instr.build
   simp only [Sem.run_bind, z1, Result.andThen_ok, run_underlying h1, lH hj, c1, Sem.run_pure]
  ·cases h
 ·cases h
theorem Va : ∀ {l : List Operand} {r : List CV}, Yl C s l = some r → r.length = l.length ∧ ∀ (j : Nat) (y : CV), r[j]? = some y → ∃ x, l[j]? = some x ∧ s.ev C x = some (.c y)
 | [], r, h => by simp only [Yl, Option.some.injEq] at h; subst h; simp
 | x :: l, r, h => by
  simp only [Yl] at h
  split at h
  ·rename_i y r' hy hr
   obtain rfl := Option.some.inj h
   obtain ⟨h1, h2⟩ := Va hr
   refine ⟨by simp [h1], fun j z hj => ?_⟩
   cases j with
   | zero => simp at hj; subst hj; exact ⟨x, rfl, hy⟩
   | succ j => exact h2 j z hj
  ·cases h
theorem Zd {μ : cL} {β : Nat → Bk} {x : CV} {v : Value} (hx : (match x with | .fn _ _ => false | _ => true) = true) (h : Kf μ β x v) : pW μ β x v := by
 cases x with
 | fn f caps => cases hx
 | v x => exact h
 | lit l => exact h
 | imm l => exact h
 | lmap ag l => exact h
 | ptr n o => exact h
 | app n l => exact h
 | row n => exact h
 | mapr n => exact h
theorem Rb {fn : Fn} {first caps : Array Operand} (h : rd C s (.makeFunc fn first caps) = some r) : uO C s (.makeFunc fn first caps) r := by
 cases fn with
 | func f =>
  simp only [rd] at h
  split at h
  ·rename_i l hl
   split at h
   ·rename_i hc
    simp only [Bool.and_eq_true, Array.isEmpty_iff, List.all_eq_true] at hc
    obtain ⟨hf, hall⟩ := hc
    subst hf
    obtain rfl := Option.some.inj h
    refine .val fun o s' U β μ a W ho he hr => ?_
    obtain ⟨h1, h2⟩ := Va hl
    refine ⟨.func (.func f) #[] (caps.map a.eval), ?_, caps.map a.eval, rfl, by simpa using h1.symm, fun j y hj => ?_⟩
    ·simp only [execOp, ho]
     refine iE _ _ _ ?_
     simp [Instr.makeFunc]
    ·obtain ⟨x, hx, hxy⟩ := h2 j y hj
     refine ⟨a.eval x, by simpa using ⟨x, by simpa using hx, rfl⟩, Zd (hall y (List.mem_of_getElem? hj)) (St.ev_den hr ((he x ?_).trans hxy))⟩
     simp only [Op.operands]
     have := List.mem_of_getElem? hx
     simpa using this
   ·cases h
  ·cases h
 | _ => simp only [rd] at h; cases h
theorem Gj {op : Op} (h : rd C s op = some r) : uO C s op r := by
 cases op with
 | move x => exact rd_move h
 | assign x => exact Ww h
 | pick c a b => exact rd_pick h
 | binOp b T x y T' => exact Ze h
 | unOp b T x => exact rd_unOp h
 | extract x k => exact Ss h
 | nilCheck x => exact Rt h
 | fieldAddr T x f => exact Ob h
 | field T x f => exact Zh h
 | indexAddr T x y => exact Nh h
 | index T x y => exact rd_index h
 | load T x => exact rd_load h
 | convert S T x => exact Su h
 | build T parts => exact Zk h
 | makeFunc fn first caps => exact Rb h
 | call c => exact rd_call h
 | _ => simp only [rd] at h; cases h
theorem Tv {ops : Array Oper} {i : Nat} {o : Oper} (hi : ops[i]? = some o) (hw : gN ops o s.fr = some true) (hd : ∀ d, o.dst = some d → d < C.n) (h : rd C s o.op = some r) : wW C ops i o s r.v r.wr r.foot r.new := by
 obtain ⟨h1, h2, v, h3, h4⟩ := Gj h
 rw [h1, h2, h3]
 exact Qu hi hw hd fun s' U β μ a W ha hr => h4 o s' U β μ a W rfl (fun x hx => St.ev_agree ha hx) (fun n hn => ha.2 n hn) hr
end
end Go.Bm
namespace Go.Bm
open Go
theorem Ln {C : cD} {ops : Array Oper} {i : Nat} {o : Oper} {s : St} (hi : ops[i]? = some o) (hw : gN ops o s.fr = some true) (hdst : o.dst = none) {T : TypeId} {a x : Operand} (ho : o.op = .store T a x) {n off : Nat} (ha : s.ev C a = some (.c (.ptr n off))) {A : AV} (hx : s.ev C x = some A) {k : TI} (hT : C.E.ti T = some k)
  {lx : List CV} (hc : A.cells? = some lx) {T0 : TypeId} {l : List CV} (hH : s.H n = some (.blk T0 l)) (hz : lx.length = k.size) (hle : off + lx.length ≤ l.length) : wW C ops i o s none [(n, some (.blk T0 (gL l off lx)))] [n] [] := by
 refine rP hi hw (fun d hd => by rw [hdst] at hd; cases hd) fun s' U β μ act W hag _ hm hr => ?_
 have hopn : ∀ y, y ∈ [a, x] → y ∈ o.op.operands := by intro y hy; rw [ho]; simpa [Op.operands] using hy
 have e1 := qV (St.ev_den hr ((St.ev_agree hag (hopn a (by simp))).trans ha))
 have hA := (St.ev_agree (C := C) hag (hopn x (by simp))).trans hx
 obtain ⟨c1, c2, c3, c4⟩ := yJ hc (St.ev_den hr hA)
 have hus := St.ev_used hr hA
 have hH' := (hag.2 n (by simp)).trans hH
 obtain ⟨h0, vs, hv, hd⟩ := hr.w.own n _ hH'
 have hlen := hd.1
 have hst := run_storeCells_at C.E.P (β n).blk off T0 (act.eval x).cells.toList 0 vs W hv (by simp only [Array.length_toList, c3]; omega) c2
 simp only [Nat.add_zero, Array.length_toList, c3] at hst
 refine ⟨undef, W.setRow (β n).blk (vs.toList.take off ++ (act.eval x).cells.toList ++ vs.toList.drop (off + lx.length)).toArray, β, μ, .inr ⟨hdst, ?_⟩, by simp, fun _ _ => rfl, cL.le_refl μ, ?_⟩
 ·simp only [execOp, ho, e1, Instr.storeAt, Instr.sureAddr, Sem.run_bind, Sem.run_pure, Result.andThen_ok]
  unfold storeVar
  rw [Sem.run_bind, lH hT, Result.andThen_ok, if_neg (by rw [c3, hz]; simp)]
  rw [hst]
  rfl
 ·have hget : ∀ j, (vs.toList.take off ++ (act.eval x).cells.toList ++ vs.toList.drop (off + lx.length)).toArray[j]? = if j < off then vs[j]? else if j < off + lx.length then (act.eval x).cells[j - off]? else vs[j]? := by
   intro j
   have := sZ vs.toList (act.eval x).cells.toList off j (by simp only [Array.length_toList, c3]; omega)
   simp only [Array.length_toList, c3] at this
   simpa using this
  have hfree := hr.w.sep n _ hH' h0
  have hother : ∀ b, b ≠ (β n).blk → (W.setRow (β n).blk (vs.toList.take off ++ (act.eval x).cells.toList ++ vs.toList.drop (off + lx.length)).toArray).heap[b]? = W.heap[b]? := fun b hb => setRow_other W _ b _ hb
  have key : WR C (fun m => match [(n, some (bH.blk T0 (gL l off lx)))].lookup m with | some o => o | none => s'.H m) U β μ (W.setRow (β n).blk (vs.toList.take off ++ (act.eval x).cells.toList ++ vs.toList.drop (off + lx.length)).toArray) := by
   refine hr.w.put_same hH' h0 (ob := .blk T0 (gL l off lx)) (fun j => oJ j s'.H) rfl rfl rfl (by rw [size_setRow]; exact Nat.le_refl _) (fun b _ hb => hother b hb) (fun m hm' => ?_) ⟨fun b j v hb => ?_, fun b es clk hb => ?_⟩ ⟨h0, _, setRow_heap W _ vs _ T0 (0, 0) hv, ?_, fun j y hj => ?_⟩ hfree
   ·rcases Np hm' with h1 | h1
    ·exact (hr.w.used n _ hH').2 m h1
    ·exact hus m (c4 ▸ h1)
   ·by_cases e : b = (β n).blk
    ·subst e; have := hfree.2 j; rw [this] at hb; cases hb
    ·rw [hother b e]; exact hr.w.imm.c b j v hb
   ·by_cases e : b = (β n).blk
    ·subst e; have := hfree.1; rw [this] at hb; cases hb
    ·rw [hother b e]; exact hr.w.imm.m b es clk hb
   ·rw [vN hle]
    simp only [List.size_toArray, List.length_append, List.length_take, List.length_drop, Array.length_toList, c3]
    omega
   ·rw [gL, sZ _ _ _ _ hle] at hj
    rw [hget]
    by_cases e : j < off
    ·rw [if_pos e] at hj ⊢; exact hd.2 j y hj
    ·rw [if_neg e] at hj ⊢
     by_cases e2 : j < off + lx.length
     ·rw [if_pos e2] at hj ⊢; exact c1.2 _ y hj
     ·rw [if_neg e2] at hj ⊢; exact hd.2 j y hj
  exact key.weaken fun m hm' => .inl hm'
theorem Ga {C : cD} {ops : Array Oper} {i : Nat} {o : Oper} {s : St} {v : AV} {ob : bH} {n cap len : Nat} (hi : ops[i]? = some o) (hw : gN ops o s.fr = some true) (hd : ∀ d, o.dst = some d → d < C.n)
  (h : ∀ (s' : St) (U : Nat → Prop) (β : Nat → Bk) (μ : cL) (a : Act) (W : World), uJ ops o [] s s' → pV C s' U β μ a W → ∃ y O, (execOp a.eval o).run C.E.P W = .ok (.value y) (W.alloc O) ∧ (∀ m, m ∈ ob.ments → U m) ∧
   (∀ W' : World, W'.heap[W.heap.size]? = some O → qT μ β W' ⟨W.heap.size, cap, false, len⟩ ob) ∧ dL μ (wT β n ⟨W.heap.size, cap, false, len⟩) v y) : wW C ops i o s (some v) [(n, some ob)] [] [n] := by
 refine rP hi hw hd fun s' U β μ act W hag hn hm hr => ?_
 obtain ⟨y, O, h1, h2, h3, h4⟩ := h s' U β μ act W hag hr
 have hnU : ¬ U n := hn n (by simp)
 refine ⟨y, W.alloc O, wT β n ⟨W.heap.size, cap, false, len⟩, μ, .inl h1, fun x hx => by cases hx; exact h4, fun m hm => eW (fun e => hnU (e ▸ hm)), cL.le_refl μ, ?_⟩
 exact hr.w.new_block hnU h2 h3 W.drawn
theorem Vh {μ : cL} {β : Nat → Bk} {W' : World} {b cap len : Nat} {l : List CV} {vs : Array Value} {T : TypeId} (hW : W'.heap[b]? = some (.cells vs T)) (hd : wQ μ β l vs) : qT μ β W' ⟨b, cap, false, len⟩ (.blk T l) :=
 ⟨rfl, vs, hW, hd⟩
theorem Xj {C : cD} {ops : Array Oper} {i : Nat} {o : Oper} {s : St} {n : Nat} (hi : ops[i]? = some o) (hw : gN ops o s.fr = some true) (hd : ∀ d, o.dst = some d → d < C.n) {T : TypeId} (ho : o.op = .alloc T) {k : TI} (hT : C.E.ti T = some k) :
  wW C ops i o s (some (.c (.ptr n 0))) [(n, some (.blk T (k.zero.map .v)))] [] [n] := by
 refine Ga (cap := 1) (len := 1) hi hw hd fun s' U β μ a W hag hr => ?_
 obtain ⟨z, h1, h2, h3⟩ := An hT W
 refine ⟨.pointer (some ⟨W.heap.size, 0, none⟩), .cells z.cells T, ?_, ?_, fun W' hW => ?_, ?_⟩
 ·simp only [execOp, ho]
  refine iE _ _ _ ?_
  unfold Instr.alloc
  rw [Sem.run_bind, h1, Result.andThen_ok]
  rfl
 ·intro m hm
  simp only [bH.ments, List.mem_flatMap, List.mem_map] at hm
  obtain ⟨x, ⟨y, _, rfl⟩, hx⟩ := hm
  simp [CV.ments, CV.ments1] at hx
 ·rw [← h2]
  exact Vh hW (Nz μ β z.cells)
 ·show _ = _
  rw [eG]
theorem opT_box {C : cD} {ops : Array Oper} {i : Nat} {o : Oper} {s : St} {n : Nat} (hi : ops[i]? = some o) (hw : gN ops o s.fr = some true) (hd : ∀ d, o.dst = some d → d < C.n) {T : TypeId} {x : Operand} (ho : o.op = .box T x) {A : AV} (hx : s.ev C x = some A) {l : List CV} (hc : A.cells? = some l) :
  wW C ops i o s (some (.c (.ptr n 0))) [(n, some (.blk T l))] [] [n] := by
 refine Ga (cap := 1) (len := 1) hi hw hd fun s' U β μ a W hag hr => ?_
 have hA := (St.ev_agree (C := C) hag (by rw [ho]; simp [Op.operands])).trans hx
 obtain ⟨c1, c2, c3, c4⟩ := yJ hc (St.ev_den hr hA)
 have hus := St.ev_used hr hA
 refine ⟨.pointer (some ⟨W.heap.size, 0, none⟩), .cells (a.eval x).cells T, ?_, fun m hm => hus m (c4 ▸ hm), fun W' hW => Vh hW c1, ?_⟩
 ·simp only [execOp, ho]
  exact iE _ _ _ rfl
 ·show _ = _
  rw [eG]
theorem Pl {C : cD} {ops : Array Oper} {i : Nat} {o : Oper} {s : St} {n : Nat} (ag : Bool) (hi : ops[i]? = some o) (hw : gN ops o s.fr = some true) (hd : ∀ d, o.dst = some d → d < C.n) {T : TypeId} {x : Option Operand} (ho : o.op = .makeMap T x) (hx : x = none) :
  wW C ops i o s (some (.c (.mapr n))) [(n, some (.map ag []))] [] [n] := by
 refine Ga (cap := 1) (len := 1) hi hw hd fun s' U β μ a W hag hr => ?_
 refine ⟨.map (some W.heap.size), .map #[] 0, ?_, by simp [bH.ments], fun W' hW => ⟨rfl, #[], 0, hW, rfl, fun i key e hi => by simp at hi⟩, ?_⟩
 ·subst hx
  simp only [execOp, ho]
  refine iE _ _ _ ?_
  simp [Instr.makeMap]
 ·show _ = _
  rw [eG]
theorem Bv {sz : Nat} : ∀ (n : Nat) (l : List CV), n * sz ≤ l.length → (wO sz n l).length = n ∧ ∀ (i : Nat) (e : List CV), (wO sz n l)[i]? = some e → e.length = sz ∧ ∀ (j : Nat) (x : CV), e[j]? = some x → l[i * sz + j]? = some x
 | 0, l, _ => ⟨rfl, fun i e h => by simp [wO] at h⟩
 | n + 1, l, hl => by
  rw [Nat.add_mul, Nat.one_mul] at hl
  obtain ⟨h1, h2⟩ := Bv (sz := sz) n (l.drop sz) (by rw [List.length_drop]; omega)
  refine ⟨by simp [wO, h1], fun i e he => ?_⟩
  cases i with
  | zero =>
   simp only [wO, List.getElem?_cons_zero, Option.some.injEq] at he
   subst he
   refine ⟨by rw [List.length_take]; omega, fun j x hj => ?_⟩
   rw [List.getElem?_take] at hj
   split at hj
   ·simpa using hj
   ·cases hj
  | succ i =>
   simp only [wO, List.getElem?_cons_succ] at he
   obtain ⟨h3, h4⟩ := h2 i e he
   refine ⟨h3, fun j x hj => ?_⟩
   have := h4 j x hj
   rw [List.getElem?_drop] at this
   rw [show (i + 1) * sz + j = sz + (i * sz + j) by rw [Nat.add_mul]; omega]
   exact this
def fY (μ : cL) (b : Nat) (cs : Nat → Option Value) : cL := ⟨fun x j => if x = b then (match cs j with | some v => some v | none => μ.c x j) else μ.c x j, μ.m⟩
theorem sW {μ : cL} {b : Nat} {cs : Nat → Option Value} (h : ∀ j v, cs j = some v → μ.c b j = none ∨ μ.c b j = some v) : jK μ (fY μ b cs) (some b) := by
 refine ⟨⟨fun x j v hx => ?_, fun x v hx => hx⟩, fun x j v hx => ?_, fun x v hx => .inl hx⟩
 ·simp only [fY]
  by_cases e : x = b
  ·subst e
   rw [if_pos rfl]
   split
   ·rename_i w hw
    rcases h j w hw with h1 | h1
    ·rw [h1] at hx; cases hx
    ·rw [h1] at hx; exact hx
   ·exact hx
  ·rw [if_neg e]; exact hx
 ·simp only [fY] at hx
  by_cases e : x = b
  ·exact .inr (by rw [e])
  ·rw [if_neg e] at hx; exact .inl hx
theorem Lu {place : Nat → Option (Nat × Nat)} : ∀ (parts : List (Nat × Option AV)) (cells r : List CV), cells.all CV.one = true → uR place cells parts = some r → r.all CV.one = true
 | [], cells, r, hc, h => by simp only [uR, Option.some.injEq] at h; subst h; exact hc
 | (i, A) :: rest, cells, r, hc, h => by
  simp only [uR] at h
  split at h
  ·rename_i x y off size A' hpl
   split at h
   ·rename_i lx hlx
    split at h
    ·refine Lu rest _ r ?_ h
     have h1 : lx.all CV.one = true := by
      cases A' with
      | c x =>
       simp only [AV.cells?] at hlx
       split at hlx
       ·(obtain rfl := Option.some.inj hlx; simp; assumption)
       ·cases hlx
      | agg l =>
       simp only [AV.cells?] at hlx
       split at hlx
       ·(obtain rfl := Option.some.inj hlx; assumption)
       ·cases hlx
      | tup l => cases hlx
      | cnd gs x => cases hlx
     rw [List.all_eq_true] at hc h1 ⊢
     intro x hx
     simp only [gL, List.mem_append] at hx
     rcases hx with (hx | hx) | hx
     ·exact hc x (List.mem_of_mem_take hx)
     ·exact h1 x hx
     ·exact hc x (List.mem_of_mem_drop hx)
    ·cases h
   ·cases h
  ·cases h
def bsz (len size : Nat) : Bool := decide (len * size ≤ 2 ^ 24)
def kC (C : cD) (s : St) (T : TypeId) (len : Nat) (parts : Array (Nat × Operand)) : Option (TypeId × Nat × List CV) :=
 match C.E.ti T with
 | some ⟨.sl e, _, _, _⟩ => match C.E.ti e with
  | some j => if bsz len j.size && decide (0 < j.size) && (j.zero.map CV.v).all CV.one && decide (j.zero.length = j.size) then
    match uR (fun i => some (i * j.size, j.size)) (Kq (j.zero.map .v) len) (parts.toList.map fun p => (p.1, s.ev C p.2)) with
    | some l => match Jw CV.pub l with | some r => some (e, j.size, r) | none => none
    | none => none
   else none
  | none => none
 | _ => none
theorem Ak {α : Type} (l : List α) : ∀ n, (Kq l n).length = n * l.length
 | 0 => by simp [Kq]
 | n + 1 => by simp only [Kq, List.length_append, Ak l n, Nat.add_mul]; omega
theorem Pc {α : Type} (l : List α) : ∀ (n j : Nat), j < n * l.length → (Kq l n)[j]? = l[j % l.length]?
 | 0, j, h => by simp at h
 | n + 1, j, h => by
  rw [Nat.add_mul, Nat.one_mul] at h
  simp only [Kq]
  by_cases e : j < l.length
  ·rw [List.getElem?_append_left e, Nat.mod_eq_of_lt e]
  ·rw [List.getElem?_append_right (by omega), Pc l n _ (by omega)]
   congr 1
   rw [Nat.mod_eq_sub_mod (by omega : l.length ≤ j)]
theorem Pr {α : Type} {p : α → Bool} {l : List α} (h : l.all p = true) : ∀ n, (Kq l n).all p = true
 | 0 => rfl
 | n + 1 => by simp only [Kq, List.all_append, h, Pr h n, Bool.and_self]
theorem Jj {P : Program} {e : TypeId} {cs : Array Value} (W : World) : (newRow e cs).run P W = .ok ⟨W.heap.size, 0, none⟩ (W.alloc (.cells cs e)) := by
 simp [newRow, newObj]
 rfl
end Go.Bm
namespace Go.Bm
open Go
theorem Xh {μ μ' : cL} {b sz n : Nat} {cs : Array Value} {r : List CV} (hz : n * sz = r.length) (hg : ∀ j v, cs[j]? = some v → j < n * sz → μ'.c b j = some v) (hm : μ.le μ')
  (hr : ∀ (j : Nat) (x : CV), r[j]? = some x → ∃ y, cs[j]? = some y ∧ y.oneCell' = true ∧ cQ μ x y) (c : Nat) (hc : n ≤ c) : cQ μ' (.lit (wO sz n r)) (.slice (some ⟨b, 0, none⟩) n c) := by
 obtain ⟨h1, h2⟩ := Bv (sz := sz) n r (by omega)
 have key : ∀ (i j : Nat) (e : List CV) (x : CV), (wO sz n r)[i]? = some e → e[j]? = some x → ∃ y, cs[i * sz + j]? = some y ∧ y.oneCell' = true ∧ cQ μ x y := fun i j e x hi hj => hr _ x ((h2 i e hi).2 j x hj)
 have := cQ.lit (μ := μ') (wO sz n r) b 0 c sz (fun i j => cs.getD (i * sz + j) undef) (by omega) (fun i e hi => (h2 i e hi).1) (fun i j e x hi hj => ?_) (fun i j e x hi hj => ?_)
 ·rw [h1] at this; exact this
 ·obtain ⟨y, hy, h3, _⟩ := key i j e x hi hj
  have hlt : i * sz + j < n * sz := by
   have := (List.getElem?_eq_some_iff.1 ((h2 i e hi).2 j x hj)).1
   omega
  have e1 : cs.getD (i * sz + j) undef = y := by simp [hy]
  rw [e1, Nat.zero_add]
  exact ⟨hg _ _ hy hlt, h3⟩
 ·obtain ⟨y, hy, _, h3⟩ := key i j e x hi hj
  have e1 : cs.getD (i * sz + j) undef = y := by simp [hy]
  rw [e1]
  exact h3.mono hm
theorem xI {C : cD} {ops : Array Oper} {i : Nat} {o : Oper} {s : St} {n : Nat} (hi : ops[i]? = some o) (hw : gN ops o s.fr = some true) (hd : ∀ d, o.dst = some d → d < C.n) {T e : TypeId} {len sz : Nat} {parts : Array (Nat × Operand)} {r : List CV} (ho : o.op = .buildSlice T len parts) (hs : kC C s T len parts = some (e, sz, r)) :
  wW C ops i o s (some (.c (.app n (wO sz len r)))) [(n, some (.tok e sz len))] [] [n] := by
 refine rP hi hw hd fun s' U β μ a W hag hn hm hr => ?_
 have hnU : ¬ U n := hn n (by simp)
 unfold kC at hs
 split at hs
 ·rename_i e' z1 z2 z3 hT
  split at hs
  ·rename_i j hj
   split at hs
   ·rename_i hcond
    split at hs
    ·rename_i l hl
     split at hs
     ·rename_i r' hr'
      simp only [Option.some.injEq, Prod.mk.injEq] at hs
      obtain ⟨rfl, rfl, rfl⟩ := hs
      simp only [Bool.and_eq_true, decide_eq_true_eq, bsz] at hcond
      obtain ⟨⟨⟨hb, hpos⟩, hone⟩, hzl⟩ := hcond
      obtain ⟨zv, q1, q2, q3⟩ := An hj W
      have hmem : ∀ x, x ∈ parts.toList.map Prod.snd → s'.ev C x = s.ev C x := fun x hx => St.ev_agree hag (by rw [ho]; simp only [Op.operands]; simpa using hx)
      obtain ⟨p1, p2⟩ := Ec hr parts hmem
      have hzs : zv.cells.size = j.size := by rw [← hzl, ← q2]; simp
      have hd0 : wQ μ β (Kq (j.zero.map .v) len) ((Array.range (len * j.size)).map (zv.cells[· % zv.cells.size]!)) := by
       refine ⟨by simp [Ak, hzl], fun k x hk => ?_⟩
       have hlt : k < len * j.size := by
        have := (List.getElem?_eq_some_iff.1 hk).1
        rw [Ak] at this
        simpa [hzl] using this
       rw [Pc _ _ _ (by simpa [hzl] using hlt)] at hk
       have hkm : k % j.size < j.size := Nat.mod_lt _ hpos
       rw [List.length_map, hzl, List.getElem?_map, ← q2] at hk
       have hg : zv.cells[k % j.size]? = some zv.cells[k % j.size]! := by
        rw [Array.getElem?_eq_getElem (by omega)]
        simp [show k % j.size < zv.cells.size by omega]
       rw [Array.getElem?_toList, hg] at hk
       simp only [Option.map_some, Option.some.injEq] at hk
       refine ⟨zv.cells[k % j.size]!, ?_, ?_⟩
       ·rw [Array.getElem?_map, Array.getElem?_range, if_pos hlt]
        simp [hzs]
       ·rw [← hk]; exact .v _
      obtain ⟨cs', c1, c2⟩ := Bn (β := β) (μ := μ) (place := fun i => some (i * j.size, j.size)) (fun i x hx => hx) _ _ _ _ l p1 p2 hd0 hl
      have hlone := Lu _ _ l (Pr hone len) hl
      obtain ⟨g1, g2⟩ := tA hr'
      have hcs : cs'.size = len * j.size := by
       rw [c2.1]
       have hll : ∀ (pp : List (Nat × Option AV)) (cc rr : List CV), uR (fun i => some (i * j.size, j.size)) cc pp = some rr → rr.length = cc.length := by
        intro pp
        induction pp with
        | nil => intro cc rr hh; simp only [uR, Option.some.injEq] at hh; rw [← hh]
        | cons p pp ih =>
         obtain ⟨i, A⟩ := p
         intro cc rr hh
         simp only [uR] at hh
         split at hh
         ·split at hh
          ·split at hh
           ·rename_i hcc
            rw [ih _ _ hh]
            exact vN (by rw [hcc.1]; exact hcc.2)
           ·cases hh
          ·cases hh
         ·cases hh
       rw [hll _ _ _ hl, Ak, List.length_map, hzl]
      have hlen : r'.length = len * j.size := by rw [g1, ← c2.1, hcs]
      have hcell : ∀ (k : Nat) (x : CV), r'[k]? = some x → ∃ y, cs'[k]? = some y ∧ y.oneCell' = true ∧ cQ μ x y := fun k x hk => by
       obtain ⟨x0, hx0, hxp⟩ := g2 k x hk
       obtain ⟨y, hy, hyd⟩ := c2.2 k x0 hx0
       exact ⟨y, hy, (Fs (List.all_eq_true.1 hlone x0 (List.mem_of_getElem? hx0)) hyd).1, Bx hxp hyd⟩
      have hgr : jK μ (fY μ W.heap.size (fun k => cs'[k]?)) (some W.heap.size) := sW fun k v _ => .inl (by
       have := tR.fresh hr.w.imm (Nat.le_refl _) (.blk 0 [])
       exact this.2 k)
      have hold : ∀ b, b < W.heap.size → (W.alloc (.cells cs' e')).heap[b]? = W.heap[b]? := fun b hb => by rw [heap_alloc_old]; exact hb
      have himm : fQ (fY μ W.heap.size (fun k => cs'[k]?)) (W.alloc (.cells cs' e')) := by
       refine ⟨fun b k v hb => ?_, fun b es clk hb => ?_⟩
       ·by_cases hbe : b = W.heap.size
        ·subst hbe
         simp only [fY, if_true] at hb
         refine ⟨cs', e', (0, 0), heap_alloc_new W _, ?_⟩
         split at hb
         ·rename_i w hw; rw [hw]; exact hb
         ·have := qO hr.w.imm hb; omega
        ·simp only [fY, if_neg hbe] at hb
         rw [hold b (qO hr.w.imm hb)]
         exact hr.w.imm.c b k v hb
       ·have hb' : μ.m b = some (es, clk) := hb
        rw [hold b (tH hr.w.imm hb')]
        exact hr.w.imm.m b es clk hb'
      have hlit : cQ (fY μ W.heap.size (fun k => cs'[k]?)) (.lit (wO j.size len r')) (.slice (some ⟨W.heap.size, 0, none⟩) len len) :=
       Xh hlen.symm (fun k v hk _ => by simp only [fY, if_true, hk]) hgr.le hcell len (Nat.le_refl _)
      have hcl := (Bv (sz := j.size) len r' (by omega)).1
      refine ⟨.slice (some ⟨W.heap.size, 0, none⟩) len len, W.alloc (.cells cs' e'), wT β n ⟨W.heap.size, len, false, len⟩, fY μ W.heap.size (fun k => cs'[k]?), .inl ?_, fun x hx => ?_, fun m hm => eW (fun e => hnU (e ▸ hm)), hgr.le, ?_⟩
      ·simp only [execOp, ho]
       refine iE _ _ _ ?_
       have hu : C.E.P.underlying T = some (.slice e') := (C.E.ok T _ hT).k
       unfold Instr.buildSlice
       simp only [Sem.run_bind, run_underlying hu, Result.andThen_ok, lH hj]
       rw [if_neg (by omega)]
       by_cases h0 : len * j.size = 0
       ·have hl0 : len = 0 := by
         rcases Nat.mul_eq_zero.1 h0 with h | h
         ·exact h
         ·omega
        subst hl0
        simp only [Nat.zero_mul, if_true, Sem.run_pure, Sem.run_bind, Result.andThen_ok] at c1 ⊢
        have : (Array.range 0).map (fun x => (#[] : Array Value)[x % (#[] : Array Value).size]!) = (Array.range 0).map (fun x => zv.cells[x % zv.cells.size]!) := by simp
        rw [this, c1]
        simp [Jj]
       ·simp only [h0, if_false, Sem.run_bind, q1, Result.andThen_ok, Sem.run_pure, c1, Jj]
      ·cases hx
       exact ⟨hlit, by rw [eG, hcl]; rfl⟩
      ·have := hr.w.put_new (W' := W.alloc (.cells cs' e')) (μ' := fY μ W.heap.size (fun k => cs'[k]?)) (ob := .tok e' j.size len) (k := ⟨W.heap.size, len, false, len⟩) hnU none (H' := fun m => match [(n, some (bH.tok e' j.size len))].lookup m with | some o => o | none => s'.H m) (fun x => (oJ x s'.H).trans (by simp)) rfl rfl rfl (by simp) (fun b hb _ => hold b hb) (by simp [bH.ments]) hgr himm (.inr ⟨rfl, cs', heap_alloc_new W _, hcs, ?_, Nat.le_refl _⟩) (fun _ => ⟨?_, fun k hk => ?_⟩) (fun _ => .inl (Nat.le_refl _))
       ·exact this
       ·have : len ≤ 2 ^ 24 := Nat.le_trans (Nat.le_mul_of_pos_right _ hpos) hb
        exact Nat.le_trans this (by decide)
       ·have := tR.fresh hr.w.imm (Nat.le_refl _) (.blk 0 [])
        exact this.1
       ·show (fY μ W.heap.size (fun k => cs'[k]?)).c W.heap.size k = none
        simp only [fY, if_true]
        rw [Array.getElem?_eq_none (by omega)]
        have := tR.fresh hr.w.imm (Nat.le_refl _) (.blk 0 [])
        exact this.2 k
     ·cases hs
    ·cases hs
   ·cases hs
  ·cases hs
 ·cases hs
def pX (n : Nat) (o : Oper) : Bool := match o.dst with | none => true | some d => decide (d < n)
def ef (C : cD) (nm : Nat) (s : St) (o : Oper) : Option rE :=
 match o.op with
 | .store T a x => match o.dst, s.ev C a, s.ev C x, C.E.ti T with
  | none, some (.c (.ptr n off)), some A, some k => match A.cells?, s.H n with
   | some lx, some (.blk T0 l) => if lx.length = k.size ∧ off + lx.length ≤ l.length then some ⟨none, [(n, some (.blk T0 (gL l off lx)))], [n], []⟩ else none
   | _, _ => none
  | _, _, _, _ => none
 | .alloc T => match C.E.ti T with
  | some k => some ⟨some (.c (.ptr nm 0)), [(nm, some (.blk T (k.zero.map .v)))], [], [nm]⟩
  | none => none
 | .box T x => match s.ev C x with
  | some A => match A.cells? with
   | some l => some ⟨some (.c (.ptr nm 0)), [(nm, some (.blk T l))], [], [nm]⟩
   | none => none
  | none => none
 | .buildSlice T len parts => match kC C s T len parts with
  | some (e, sz, r) => some ⟨some (.c (.app nm (wO sz len r))), [(nm, some (.tok e sz len))], [], [nm]⟩
  | none => none
 | .makeMap T none => match C.E.ti T with
  | some ⟨.mp _ v, _, _, _⟩ => match C.E.ti v with
   | some k => some ⟨some (.c (.mapr nm)), [(nm, some (.map k.k.agg []))], [], [nm]⟩
   | none => none
  | _ => none
 | _ => none
def Mv (C : cD) (nm : Nat) (s : St) (o : Oper) : Option rE := match rd C s o.op with | some r => some r | none => ef C nm s o
theorem dW {n : Nat} {o : Oper} (h : pX n o = true) : ∀ d, o.dst = some d → d < n := by
 intro d hd
 simp only [pX, hd, decide_eq_true_eq] at h
 exact h
theorem Se {C : cD} {ops : Array Oper} {i : Nat} {o : Oper} {s : St} {nm : Nat} {r : rE} (hi : ops[i]? = some o) (hw : gN ops o s.fr = some true) (hd : pX C.n o = true) (h : Mv C nm s o = some r) : wW C ops i o s r.v r.wr r.foot r.new := by
 have hd' := dW hd
 unfold Mv at h
 split at h
 ·rename_i r' hr'
  obtain rfl := Option.some.inj h
  exact Tv hi hw hd' hr'
 ·unfold ef at h
  split at h
  ·rename_i T a x ho
   split at h
   ·rename_i n off A k h1 h2 h3 h4
    split at h
    ·rename_i lx T0 l h5 h6
     split at h
     ·rename_i h7
      obtain rfl := Option.some.inj h
      exact Ln hi hw h1 ho h2 h3 h4 h5 h6 h7.1 h7.2
     ·cases h
    ·cases h
   ·cases h
  ·rename_i T ho
   split at h
   ·rename_i k hk
    obtain rfl := Option.some.inj h
    exact Xj hi hw hd' ho hk
   ·cases h
  ·rename_i T x ho
   split at h
   ·rename_i A hA
    split at h
    ·rename_i l hl
     obtain rfl := Option.some.inj h
     exact opT_box hi hw hd' ho hA hl
    ·cases h
   ·cases h
  ·rename_i T len parts ho
   split at h
   ·rename_i e sz r' hs
    obtain rfl := Option.some.inj h
    exact xI hi hw hd' ho hs
   ·cases h
  ·rename_i T ho
   split at h
   ·split at h
    ·rename_i k hk
     obtain rfl := Option.some.inj h
     exact Pl _ hi hw hd' ho rfl
    ·cases h
   ·cases h
  ·cases h
end Go.Bm
