/- The program's types as plain Lean types, what is known of them, the environment. Printed by ext.py. -/
import Derived.Test.YtojkihhnioeggaaDoorBE
import Derived.Test.YtojkihhnioeggaaDoorChecked
import GoSem.PinnedTables
set_option linter.unusedVariables false
namespace Go.Proofs.YtojkihhnioeggaaDoor.S
open Go Go.Bm
structure A22_Int where
  x0 : Int
  x1 : Int
  x2 : Int
  x3 : Int
  x4 : Int
  x5 : Int
  x6 : Int
  x7 : Int
  x8 : Int
  x9 : Int
  x10 : Int
  x11 : Int
  x12 : Int
  x13 : Int
  x14 : Int
  x15 : Int
  x16 : Int
  x17 : Int
  x18 : Int
  x19 : Int
  x20 : Int
  x21 : Int
instance : Inhabited A22_Int := ⟨⟨default, default, default, default, default, default, default, default, default, default, default, default, default, default, default, default, default, default, default, default, default, default⟩⟩
def A22_Int.toL (a : A22_Int) : List Int := [a.x0, a.x1, a.x2, a.x3, a.x4, a.x5, a.x6, a.x7, a.x8, a.x9, a.x10, a.x11, a.x12, a.x13, a.x14, a.x15, a.x16, a.x17, a.x18, a.x19, a.x20, a.x21]
def A22_Int.ofL (l : List Int) : A22_Int := ⟨l.getD 0 default, l.getD 1 default, l.getD 2 default, l.getD 3 default, l.getD 4 default, l.getD 5 default, l.getD 6 default, l.getD 7 default, l.getD 8 default, l.getD 9 default, l.getD 10 default, l.getD 11 default, l.getD 12 default, l.getD 13 default, l.getD 14 default, l.getD 15 default, l.getD 16 default, l.getD 17 default, l.getD 18 default, l.getD 19 default, l.getD 20 default, l.getD 21 default⟩
theorem A22_Int.toL_ofL (l : List Int) (h : l.length = 22) : (A22_Int.ofL l).toL = l := by
  refine List.ext_getElem (by simp [A22_Int.toL, h]) fun i h1 h2 => ?_
  have hi : i = 0 ∨ i = 1 ∨ i = 2 ∨ i = 3 ∨ i = 4 ∨ i = 5 ∨ i = 6 ∨ i = 7 ∨ i = 8 ∨ i = 9 ∨ i = 10 ∨ i = 11 ∨ i = 12 ∨ i = 13 ∨ i = 14 ∨ i = 15 ∨ i = 16 ∨ i = 17 ∨ i = 18 ∨ i = 19 ∨ i = 20 ∨ i = 21 := by omega
  rcases hi with rfl | rfl | rfl | rfl | rfl | rfl | rfl | rfl | rfl | rfl | rfl | rfl | rfl | rfl | rfl | rfl | rfl | rfl | rfl | rfl | rfl | rfl <;> simp [A22_Int.toL, A22_Int.ofL, List.getD_eq_getElem?_getD, h2]
def A22_Int.set (a : A22_Int) (k : Nat) (v : Int) : A22_Int := A22_Int.ofL (a.toL.set k v)
def eA22_Int (x : A22_Int) : List CV := [I x.x0, I x.x1, I x.x2, I x.x3, I x.x4, I x.x5, I x.x6, I x.x7, I x.x8, I x.x9, I x.x10, I x.x11, I x.x12, I x.x13, I x.x14, I x.x15, I x.x16, I x.x17, I x.x18, I x.x19, I x.x20, I x.x21]
theorem A22_Int.splice_eq_f (a : A22_Int) (k f : Nat) (e e2 : Int) (lx : List CV) (hk : a.toL[k]? = some e) (hf : f + lx.length ≤ 1) (h2 : splice (eI64 e) f lx = eI64 e2) : splice (eA22_Int a) (k * 1 + f) lx = eA22_Int (A22_Int.set a k e2) := by
  have h := splice_flat_f (enc := eI64) (sz := 1) hk (fun x => by kernel_rfl) hf h2
  have h3 := A22_Int.toL_ofL (a.toL.set k e2) (by rw [List.length_set]; rfl)
  rw [← h3] at h
  exact h
theorem A22_Int.splice_eq (a : A22_Int) (k : Nat) (v : Int) (hk : k < 22) : splice (eA22_Int a) (k * 1) (eI64 v) = eA22_Int (A22_Int.set a k v) := by
  have h := splice_flat (enc := eI64) (sz := 1) (xs := a.toL) (k := k) (v := v) hk (fun x => by kernel_rfl)
  have h2 := A22_Int.toL_ofL (a.toL.set k v) (by rw [List.length_set]; rfl)
  rw [← h2] at h
  exact h
structure GDecl where
  Prop_ : Int
  Source : Int
  N : Int
  Token : ByteArray
instance : Inhabited GDecl := ⟨⟨default, default, default, default⟩⟩
def eGDecl (x : GDecl) : List CV := [I x.Prop_, I x.Source, I x.N, Sx x.Token]
structure GRule where
  Kind : Int
  Class : ByteArray
  States : Int
  UnderKind : Int
  UnderClass : ByteArray
  Decls : (List GDecl)
instance : Inhabited GRule := ⟨⟨default, default, default, default, default, default⟩⟩
def eGRule (x : GRule) : List CV := [I x.Kind, Sx x.Class, I x.States, I x.UnderKind, Sx x.UnderClass, .lit (List.map eGDecl x.Decls)]
structure GSheet where
  Rules : (List GRule)
instance : Inhabited GSheet := ⟨⟨default⟩⟩
def eGSheet (x : GSheet) : List CV := [.lit (List.map eGRule x.Rules)]
structure GValue where
  Kind : Int
  N : Int
  S : ByteArray
  L : (List GValue)
instance : Inhabited GValue := ⟨⟨default, default, default, default⟩⟩
mutual
def eGValue : GValue → List CV
  | ⟨Kind, N, S, L⟩ => [I Kind, I N, Sx S, .lit (eGValues L)]
def eGValues : List GValue → List (List CV)
  | [] => []
  | x :: l => eGValue x :: eGValues l
end
theorem eGValues_eq : ∀ l, eGValues l = List.map eGValue l
  | [] => rfl
  | x :: l => by rw [eGValues, eGValues_eq l]; rfl
theorem eGValue_eq (x : GValue) : eGValue x = [I x.Kind, I x.N, Sx x.S, .lit (List.map eGValue x.L)] := by
  cases x; simp only [eGValue, eGValues_eq]
structure GAttr where
  Name : ByteArray
  Value : GValue
instance : Inhabited GAttr := ⟨⟨default, default⟩⟩
def eGAttr (x : GAttr) : List CV := [Sx x.Name, I x.Value.Kind, I x.Value.N, Sx x.Value.S, .lit (List.map eGValue x.Value.L)]
structure GAction where
  Event : ByteArray
  Instance : ByteArray
  Handler : ByteArray
  Args : (List GValue)
instance : Inhabited GAction := ⟨⟨default, default, default, default⟩⟩
def eGAction (x : GAction) : List CV := [Sx x.Event, Sx x.Instance, Sx x.Handler, .lit (List.map eGValue x.Args)]
structure GNode where
  ID : Int
  Parent : Int
  Kind : Int
  Key : ByteArray
  Attrs : (List GAttr)
  Actions : (List GAction)
  Kids : (List Int)
instance : Inhabited GNode := ⟨⟨default, default, default, default, default, default, default⟩⟩
def eGNode (x : GNode) : List CV := [I x.ID, I x.Parent, I x.Kind, Sx x.Key, .lit (List.map eGAttr x.Attrs), .lit (List.map eGAction x.Actions), .lit (List.map eI64 x.Kids)]
structure GTree where
  Root : Int
  Next : Int
  Nodes : (List GNode)
instance : Inhabited GTree := ⟨⟨default, default, default⟩⟩
def eGTree (x : GTree) : List CV := [I x.Root, I x.Next, .lit (List.map eGNode x.Nodes)]
structure GMode where
  Dark : Bool
  High : Bool
  Scale : Int
instance : Inhabited GMode := ⟨⟨default, default, default⟩⟩
def eGMode (x : GMode) : List CV := [Bo x.Dark, Bo x.High, I x.Scale]
structure GStyled where
  ID : Int
  Style : A22_Int
instance : Inhabited GStyled := ⟨⟨default, default⟩⟩
def eGStyled (x : GStyled) : List CV := [I x.ID, I x.Style.x0, I x.Style.x1, I x.Style.x2, I x.Style.x3, I x.Style.x4, I x.Style.x5, I x.Style.x6, I x.Style.x7, I x.Style.x8, I x.Style.x9, I x.Style.x10, I x.Style.x11, I x.Style.x12, I x.Style.x13, I x.Style.x14, I x.Style.x15, I x.Style.x16, I x.Style.x17, I x.Style.x18, I x.Style.x19, I x.Style.x20, I x.Style.x21]
structure GToken where
  Name : ByteArray
  Light : Int
  Dark : Int
  HighLight : Int
  HighDark : Int
instance : Inhabited GToken := ⟨⟨default, default, default, default, default⟩⟩
def eGToken (x : GToken) : List CV := [Sx x.Name, I x.Light, I x.Dark, I x.HighLight, I x.HighDark]
structure GTheme where
  Tokens : (List GToken)
instance : Inhabited GTheme := ⟨⟨default⟩⟩
def eGTheme (x : GTheme) : List CV := [.lit (List.map eGToken x.Tokens)]
structure GView where
  Kind : Int
  Key : ByteArray
  Attrs : (List GAttr)
  Actions : (List GAction)
  Kids : (List GView)
instance : Inhabited GView := ⟨⟨default, default, default, default, default⟩⟩
mutual
def eGView : GView → List CV
  | ⟨Kind, Key, Attrs, Actions, Kids⟩ => [I Kind, Sx Key, .lit (List.map eGAttr Attrs), .lit (List.map eGAction Actions), .lit (eGViews Kids)]
def eGViews : List GView → List (List CV)
  | [] => []
  | x :: l => eGView x :: eGViews l
end
theorem eGViews_eq : ∀ l, eGViews l = List.map eGView l
  | [] => rfl
  | x :: l => by rw [eGViews, eGViews_eq l]; rfl
theorem eGView_eq (x : GView) : eGView x = [I x.Kind, Sx x.Key, .lit (List.map eGAttr x.Attrs), .lit (List.map eGAction x.Actions), .lit (List.map eGView x.Kids)] := by
  cases x; simp only [eGView, eGViews_eq]
structure A2_Int where
  x0 : Int
  x1 : Int
instance : Inhabited A2_Int := ⟨⟨default, default⟩⟩
def A2_Int.toL (a : A2_Int) : List Int := [a.x0, a.x1]
def A2_Int.ofL (l : List Int) : A2_Int := ⟨l.getD 0 default, l.getD 1 default⟩
theorem A2_Int.toL_ofL (l : List Int) (h : l.length = 2) : (A2_Int.ofL l).toL = l := by
  refine List.ext_getElem (by simp [A2_Int.toL, h]) fun i h1 h2 => ?_
  have hi : i = 0 ∨ i = 1 := by omega
  rcases hi with rfl | rfl <;> simp [A2_Int.toL, A2_Int.ofL, List.getD_eq_getElem?_getD, h2]
def A2_Int.set (a : A2_Int) (k : Nat) (v : Int) : A2_Int := A2_Int.ofL (a.toL.set k v)
def eA2_Int (x : A2_Int) : List CV := [I x.x0, I x.x1]
theorem A2_Int.splice_eq_f (a : A2_Int) (k f : Nat) (e e2 : Int) (lx : List CV) (hk : a.toL[k]? = some e) (hf : f + lx.length ≤ 1) (h2 : splice (eI64 e) f lx = eI64 e2) : splice (eA2_Int a) (k * 1 + f) lx = eA2_Int (A2_Int.set a k e2) := by
  have h := splice_flat_f (enc := eI64) (sz := 1) hk (fun x => by kernel_rfl) hf h2
  have h3 := A2_Int.toL_ofL (a.toL.set k e2) (by rw [List.length_set]; rfl)
  rw [← h3] at h
  exact h
theorem A2_Int.splice_eq (a : A2_Int) (k : Nat) (v : Int) (hk : k < 2) : splice (eA2_Int a) (k * 1) (eI64 v) = eA2_Int (A2_Int.set a k v) := by
  have h := splice_flat (enc := eI64) (sz := 1) (xs := a.toL) (k := k) (v := v) hk (fun x => by kernel_rfl)
  have h2 := A2_Int.toL_ofL (a.toL.set k v) (by rw [List.length_set]; rfl)
  rw [← h2] at h
  exact h
structure GNodeStates where
  ID : Int
  States : Int
instance : Inhabited GNodeStates := ⟨⟨default, default⟩⟩
def eGNodeStates (x : GNodeStates) : List CV := [I x.ID, I x.States]
structure Gproperty where
  inherited : Bool
  low : Int
  high : Int
  start : Int
instance : Inhabited Gproperty := ⟨⟨default, default, default, default⟩⟩
def eGproperty (x : Gproperty) : List CV := [Bo x.inherited, I x.low, I x.high, I x.start]
structure A22_Gproperty where
  x0 : Gproperty
  x1 : Gproperty
  x2 : Gproperty
  x3 : Gproperty
  x4 : Gproperty
  x5 : Gproperty
  x6 : Gproperty
  x7 : Gproperty
  x8 : Gproperty
  x9 : Gproperty
  x10 : Gproperty
  x11 : Gproperty
  x12 : Gproperty
  x13 : Gproperty
  x14 : Gproperty
  x15 : Gproperty
  x16 : Gproperty
  x17 : Gproperty
  x18 : Gproperty
  x19 : Gproperty
  x20 : Gproperty
  x21 : Gproperty
instance : Inhabited A22_Gproperty := ⟨⟨default, default, default, default, default, default, default, default, default, default, default, default, default, default, default, default, default, default, default, default, default, default⟩⟩
def A22_Gproperty.toL (a : A22_Gproperty) : List Gproperty := [a.x0, a.x1, a.x2, a.x3, a.x4, a.x5, a.x6, a.x7, a.x8, a.x9, a.x10, a.x11, a.x12, a.x13, a.x14, a.x15, a.x16, a.x17, a.x18, a.x19, a.x20, a.x21]
def A22_Gproperty.ofL (l : List Gproperty) : A22_Gproperty := ⟨l.getD 0 default, l.getD 1 default, l.getD 2 default, l.getD 3 default, l.getD 4 default, l.getD 5 default, l.getD 6 default, l.getD 7 default, l.getD 8 default, l.getD 9 default, l.getD 10 default, l.getD 11 default, l.getD 12 default, l.getD 13 default, l.getD 14 default, l.getD 15 default, l.getD 16 default, l.getD 17 default, l.getD 18 default, l.getD 19 default, l.getD 20 default, l.getD 21 default⟩
theorem A22_Gproperty.toL_ofL (l : List Gproperty) (h : l.length = 22) : (A22_Gproperty.ofL l).toL = l := by
  refine List.ext_getElem (by simp [A22_Gproperty.toL, h]) fun i h1 h2 => ?_
  have hi : i = 0 ∨ i = 1 ∨ i = 2 ∨ i = 3 ∨ i = 4 ∨ i = 5 ∨ i = 6 ∨ i = 7 ∨ i = 8 ∨ i = 9 ∨ i = 10 ∨ i = 11 ∨ i = 12 ∨ i = 13 ∨ i = 14 ∨ i = 15 ∨ i = 16 ∨ i = 17 ∨ i = 18 ∨ i = 19 ∨ i = 20 ∨ i = 21 := by omega
  rcases hi with rfl | rfl | rfl | rfl | rfl | rfl | rfl | rfl | rfl | rfl | rfl | rfl | rfl | rfl | rfl | rfl | rfl | rfl | rfl | rfl | rfl | rfl <;> simp [A22_Gproperty.toL, A22_Gproperty.ofL, List.getD_eq_getElem?_getD, h2]
def A22_Gproperty.set (a : A22_Gproperty) (k : Nat) (v : Gproperty) : A22_Gproperty := A22_Gproperty.ofL (a.toL.set k v)
def eA22_Gproperty (x : A22_Gproperty) : List CV := [Bo x.x0.inherited, I x.x0.low, I x.x0.high, I x.x0.start, Bo x.x1.inherited, I x.x1.low, I x.x1.high, I x.x1.start, Bo x.x2.inherited, I x.x2.low, I x.x2.high, I x.x2.start, Bo x.x3.inherited, I x.x3.low, I x.x3.high, I x.x3.start, Bo x.x4.inherited, I x.x4.low, I x.x4.high, I x.x4.start, Bo x.x5.inherited, I x.x5.low, I x.x5.high, I x.x5.start, Bo x.x6.inherited, I x.x6.low, I x.x6.high, I x.x6.start, Bo x.x7.inherited, I x.x7.low, I x.x7.high, I x.x7.start, Bo x.x8.inherited, I x.x8.low, I x.x8.high, I x.x8.start, Bo x.x9.inherited, I x.x9.low, I x.x9.high, I x.x9.start, Bo x.x10.inherited, I x.x10.low, I x.x10.high, I x.x10.start, Bo x.x11.inherited, I x.x11.low, I x.x11.high, I x.x11.start, Bo x.x12.inherited, I x.x12.low, I x.x12.high, I x.x12.start, Bo x.x13.inherited, I x.x13.low, I x.x13.high, I x.x13.start, Bo x.x14.inherited, I x.x14.low, I x.x14.high, I x.x14.start, Bo x.x15.inherited, I x.x15.low, I x.x15.high, I x.x15.start, Bo x.x16.inherited, I x.x16.low, I x.x16.high, I x.x16.start, Bo x.x17.inherited, I x.x17.low, I x.x17.high, I x.x17.start, Bo x.x18.inherited, I x.x18.low, I x.x18.high, I x.x18.start, Bo x.x19.inherited, I x.x19.low, I x.x19.high, I x.x19.start, Bo x.x20.inherited, I x.x20.low, I x.x20.high, I x.x20.start, Bo x.x21.inherited, I x.x21.low, I x.x21.high, I x.x21.start]
theorem A22_Gproperty.splice_eq_f (a : A22_Gproperty) (k f : Nat) (e e2 : Gproperty) (lx : List CV) (hk : a.toL[k]? = some e) (hf : f + lx.length ≤ 4) (h2 : splice (eGproperty e) f lx = eGproperty e2) : splice (eA22_Gproperty a) (k * 4 + f) lx = eA22_Gproperty (A22_Gproperty.set a k e2) := by
  have h := splice_flat_f (enc := eGproperty) (sz := 4) hk (fun x => by kernel_rfl) hf h2
  have h3 := A22_Gproperty.toL_ofL (a.toL.set k e2) (by rw [List.length_set]; rfl)
  rw [← h3] at h
  exact h
theorem A22_Gproperty.splice_eq (a : A22_Gproperty) (k : Nat) (v : Gproperty) (hk : k < 22) : splice (eA22_Gproperty a) (k * 4) (eGproperty v) = eA22_Gproperty (A22_Gproperty.set a k v) := by
  have h := splice_flat (enc := eGproperty) (sz := 4) (xs := a.toL) (k := k) (v := v) hk (fun x => by kernel_rfl)
  have h2 := A22_Gproperty.toL_ofL (a.toL.set k v) (by rw [List.length_set]; rfl)
  rw [← h2] at h
  exact h
structure GSrc where
  L : (List Int)
  At : Int
instance : Inhabited GSrc := ⟨⟨default, default⟩⟩
def eGSrc (x : GSrc) : List CV := [.lit (List.map eI64 x.L), I x.At]
structure Gshape where
  nodes : (List (Int × GNode))
  class_ : (List (Int × ByteArray))
  states : (List (Int × Int))
instance : Inhabited Gshape := ⟨⟨default, default, default⟩⟩
def eGshape (x : Gshape) : List CV := [.lmap true (List.map (eM (Value.int .i64) eGNode) x.nodes), .lmap false (List.map (eM (Value.int .i64) eS) x.class_), .lmap false (List.map (eM (Value.int .i64) eI64) x.states)]
structure Gcascade where
  shape : Gshape
  rules : (List GRule)
  order : (List Int)
  th : GTheme
  m : GMode
instance : Inhabited Gcascade := ⟨⟨default, default, default, default, default⟩⟩
def eGcascade (x : Gcascade) : List CV := [.lmap true (List.map (eM (Value.int .i64) eGNode) x.shape.nodes), .lmap false (List.map (eM (Value.int .i64) eS) x.shape.class_), .lmap false (List.map (eM (Value.int .i64) eI64) x.shape.states), .lit (List.map eGRule x.rules), .lit (List.map eI64 x.order), .lit (List.map eGToken x.th.Tokens), Bo x.m.Dark, Bo x.m.High, I x.m.Scale]
structure A4_Int where
  x0 : Int
  x1 : Int
  x2 : Int
  x3 : Int
instance : Inhabited A4_Int := ⟨⟨default, default, default, default⟩⟩
def A4_Int.toL (a : A4_Int) : List Int := [a.x0, a.x1, a.x2, a.x3]
def A4_Int.ofL (l : List Int) : A4_Int := ⟨l.getD 0 default, l.getD 1 default, l.getD 2 default, l.getD 3 default⟩
theorem A4_Int.toL_ofL (l : List Int) (h : l.length = 4) : (A4_Int.ofL l).toL = l := by
  refine List.ext_getElem (by simp [A4_Int.toL, h]) fun i h1 h2 => ?_
  have hi : i = 0 ∨ i = 1 ∨ i = 2 ∨ i = 3 := by omega
  rcases hi with rfl | rfl | rfl | rfl <;> simp [A4_Int.toL, A4_Int.ofL, List.getD_eq_getElem?_getD, h2]
def A4_Int.set (a : A4_Int) (k : Nat) (v : Int) : A4_Int := A4_Int.ofL (a.toL.set k v)
def eA4_Int (x : A4_Int) : List CV := [I x.x0, I x.x1, I x.x2, I x.x3]
theorem A4_Int.splice_eq_f (a : A4_Int) (k f : Nat) (e e2 : Int) (lx : List CV) (hk : a.toL[k]? = some e) (hf : f + lx.length ≤ 1) (h2 : splice (eI64 e) f lx = eI64 e2) : splice (eA4_Int a) (k * 1 + f) lx = eA4_Int (A4_Int.set a k e2) := by
  have h := splice_flat_f (enc := eI64) (sz := 1) hk (fun x => by kernel_rfl) hf h2
  have h3 := A4_Int.toL_ofL (a.toL.set k e2) (by rw [List.length_set]; rfl)
  rw [← h3] at h
  exact h
theorem A4_Int.splice_eq (a : A4_Int) (k : Nat) (v : Int) (hk : k < 4) : splice (eA4_Int a) (k * 1) (eI64 v) = eA4_Int (A4_Int.set a k v) := by
  have h := splice_flat (enc := eI64) (sz := 1) (xs := a.toL) (k := k) (v := v) hk (fun x => by kernel_rfl)
  have h2 := A4_Int.toL_ofL (a.toL.set k v) (by rw [List.length_set]; rfl)
  rw [← h2] at h
  exact h
structure A2_ByteArray where
  x0 : ByteArray
  x1 : ByteArray
instance : Inhabited A2_ByteArray := ⟨⟨default, default⟩⟩
def A2_ByteArray.toL (a : A2_ByteArray) : List ByteArray := [a.x0, a.x1]
def A2_ByteArray.ofL (l : List ByteArray) : A2_ByteArray := ⟨l.getD 0 default, l.getD 1 default⟩
theorem A2_ByteArray.toL_ofL (l : List ByteArray) (h : l.length = 2) : (A2_ByteArray.ofL l).toL = l := by
  refine List.ext_getElem (by simp [A2_ByteArray.toL, h]) fun i h1 h2 => ?_
  have hi : i = 0 ∨ i = 1 := by omega
  rcases hi with rfl | rfl <;> simp [A2_ByteArray.toL, A2_ByteArray.ofL, List.getD_eq_getElem?_getD, h2]
def A2_ByteArray.set (a : A2_ByteArray) (k : Nat) (v : ByteArray) : A2_ByteArray := A2_ByteArray.ofL (a.toL.set k v)
def eA2_ByteArray (x : A2_ByteArray) : List CV := [Sx x.x0, Sx x.x1]
theorem A2_ByteArray.splice_eq_f (a : A2_ByteArray) (k f : Nat) (e e2 : ByteArray) (lx : List CV) (hk : a.toL[k]? = some e) (hf : f + lx.length ≤ 1) (h2 : splice (eS e) f lx = eS e2) : splice (eA2_ByteArray a) (k * 1 + f) lx = eA2_ByteArray (A2_ByteArray.set a k e2) := by
  have h := splice_flat_f (enc := eS) (sz := 1) hk (fun x => by kernel_rfl) hf h2
  have h3 := A2_ByteArray.toL_ofL (a.toL.set k e2) (by rw [List.length_set]; rfl)
  rw [← h3] at h
  exact h
theorem A2_ByteArray.splice_eq (a : A2_ByteArray) (k : Nat) (v : ByteArray) (hk : k < 2) : splice (eA2_ByteArray a) (k * 1) (eS v) = eA2_ByteArray (A2_ByteArray.set a k v) := by
  have h := splice_flat (enc := eS) (sz := 1) (xs := a.toL) (k := k) (v := v) hk (fun x => by kernel_rfl)
  have h2 := A2_ByteArray.toL_ofL (a.toL.set k v) (by rw [List.length_set]; rfl)
  rw [← h2] at h
  exact h
structure GType where
  Kind : Int
  Of : (List GType)
instance : Inhabited GType := ⟨⟨default, default⟩⟩
mutual
def eGType : GType → List CV
  | ⟨Kind, Of⟩ => [I Kind, .lit (eGTypes Of)]
def eGTypes : List GType → List (List CV)
  | [] => []
  | x :: l => eGType x :: eGTypes l
end
theorem eGTypes_eq : ∀ l, eGTypes l = List.map eGType l
  | [] => rfl
  | x :: l => by rw [eGTypes, eGTypes_eq l]; rfl
theorem eGType_eq (x : GType) : eGType x = [I x.Kind, .lit (List.map eGType x.Of)] := by
  cases x; simp only [eGType, eGTypes_eq]
structure GacceptRange where
  lo : Int
  hi : Int
instance : Inhabited GacceptRange := ⟨⟨default, default⟩⟩
def eGacceptRange (x : GacceptRange) : List CV := [U8 x.lo, U8 x.hi]
structure A16_GacceptRange where
  x0 : GacceptRange
  x1 : GacceptRange
  x2 : GacceptRange
  x3 : GacceptRange
  x4 : GacceptRange
  x5 : GacceptRange
  x6 : GacceptRange
  x7 : GacceptRange
  x8 : GacceptRange
  x9 : GacceptRange
  x10 : GacceptRange
  x11 : GacceptRange
  x12 : GacceptRange
  x13 : GacceptRange
  x14 : GacceptRange
  x15 : GacceptRange
instance : Inhabited A16_GacceptRange := ⟨⟨default, default, default, default, default, default, default, default, default, default, default, default, default, default, default, default⟩⟩
def A16_GacceptRange.toL (a : A16_GacceptRange) : List GacceptRange := [a.x0, a.x1, a.x2, a.x3, a.x4, a.x5, a.x6, a.x7, a.x8, a.x9, a.x10, a.x11, a.x12, a.x13, a.x14, a.x15]
def A16_GacceptRange.ofL (l : List GacceptRange) : A16_GacceptRange := ⟨l.getD 0 default, l.getD 1 default, l.getD 2 default, l.getD 3 default, l.getD 4 default, l.getD 5 default, l.getD 6 default, l.getD 7 default, l.getD 8 default, l.getD 9 default, l.getD 10 default, l.getD 11 default, l.getD 12 default, l.getD 13 default, l.getD 14 default, l.getD 15 default⟩
theorem A16_GacceptRange.toL_ofL (l : List GacceptRange) (h : l.length = 16) : (A16_GacceptRange.ofL l).toL = l := by
  refine List.ext_getElem (by simp [A16_GacceptRange.toL, h]) fun i h1 h2 => ?_
  have hi : i = 0 ∨ i = 1 ∨ i = 2 ∨ i = 3 ∨ i = 4 ∨ i = 5 ∨ i = 6 ∨ i = 7 ∨ i = 8 ∨ i = 9 ∨ i = 10 ∨ i = 11 ∨ i = 12 ∨ i = 13 ∨ i = 14 ∨ i = 15 := by omega
  rcases hi with rfl | rfl | rfl | rfl | rfl | rfl | rfl | rfl | rfl | rfl | rfl | rfl | rfl | rfl | rfl | rfl <;> simp [A16_GacceptRange.toL, A16_GacceptRange.ofL, List.getD_eq_getElem?_getD, h2]
def A16_GacceptRange.set (a : A16_GacceptRange) (k : Nat) (v : GacceptRange) : A16_GacceptRange := A16_GacceptRange.ofL (a.toL.set k v)
def eA16_GacceptRange (x : A16_GacceptRange) : List CV := [U8 x.x0.lo, U8 x.x0.hi, U8 x.x1.lo, U8 x.x1.hi, U8 x.x2.lo, U8 x.x2.hi, U8 x.x3.lo, U8 x.x3.hi, U8 x.x4.lo, U8 x.x4.hi, U8 x.x5.lo, U8 x.x5.hi, U8 x.x6.lo, U8 x.x6.hi, U8 x.x7.lo, U8 x.x7.hi, U8 x.x8.lo, U8 x.x8.hi, U8 x.x9.lo, U8 x.x9.hi, U8 x.x10.lo, U8 x.x10.hi, U8 x.x11.lo, U8 x.x11.hi, U8 x.x12.lo, U8 x.x12.hi, U8 x.x13.lo, U8 x.x13.hi, U8 x.x14.lo, U8 x.x14.hi, U8 x.x15.lo, U8 x.x15.hi]
theorem A16_GacceptRange.splice_eq_f (a : A16_GacceptRange) (k f : Nat) (e e2 : GacceptRange) (lx : List CV) (hk : a.toL[k]? = some e) (hf : f + lx.length ≤ 2) (h2 : splice (eGacceptRange e) f lx = eGacceptRange e2) : splice (eA16_GacceptRange a) (k * 2 + f) lx = eA16_GacceptRange (A16_GacceptRange.set a k e2) := by
  have h := splice_flat_f (enc := eGacceptRange) (sz := 2) hk (fun x => by kernel_rfl) hf h2
  have h3 := A16_GacceptRange.toL_ofL (a.toL.set k e2) (by rw [List.length_set]; rfl)
  rw [← h3] at h
  exact h
theorem A16_GacceptRange.splice_eq (a : A16_GacceptRange) (k : Nat) (v : GacceptRange) (hk : k < 16) : splice (eA16_GacceptRange a) (k * 2) (eGacceptRange v) = eA16_GacceptRange (A16_GacceptRange.set a k v) := by
  have h := splice_flat (enc := eGacceptRange) (sz := 2) (xs := a.toL) (k := k) (v := v) hk (fun x => by kernel_rfl)
  have h2 := A16_GacceptRange.toL_ofL (a.toL.set k v) (by rw [List.length_set]; rfl)
  rw [← h2] at h
  exact h
def tiTab : Nat → Option TI
  | 3 => some ⟨.int .i64, 1, 8, [.int .i64 0]⟩
  | 4 => some ⟨.boo, 1, 1, [.bool false]⟩
  | 5 => some ⟨.int .u8, 1, 1, [.int .u8 0]⟩
  | 9 => some ⟨.str, 1, 16, [.string ⟨#[]⟩]⟩
  | 12 => some ⟨.int .u64, 1, 8, [.int .u64 0]⟩
  | 21 => some ⟨.int .i32, 1, 4, [.int .i32 0]⟩
  | 25 => some ⟨.arr 22 3, 22, 176, [.int .i64 0, .int .i64 0, .int .i64 0, .int .i64 0, .int .i64 0, .int .i64 0, .int .i64 0, .int .i64 0, .int .i64 0, .int .i64 0, .int .i64 0, .int .i64 0, .int .i64 0, .int .i64 0, .int .i64 0, .int .i64 0, .int .i64 0, .int .i64 0, .int .i64 0, .int .i64 0, .int .i64 0, .int .i64 0]⟩
  | 28 => some ⟨.sl 33, 1, 24, [.slice none 0 0]⟩
  | 30 => some ⟨.st [(28, 0, 1)], 1, 24, [.slice none 0 0]⟩
  | 31 => some ⟨.sl 45, 1, 24, [.slice none 0 0]⟩
  | 33 => some ⟨.st [(3, 0, 1), (9, 1, 1), (3, 2, 1), (3, 3, 1), (9, 4, 1), (31, 5, 1)], 6, 80, [.int .i64 0, .string ⟨#[]⟩, .int .i64 0, .int .i64 0, .string ⟨#[]⟩, .slice none 0 0]⟩
  | 34 => some ⟨.int .i64, 1, 8, [.int .i64 0]⟩
  | 37 => some ⟨.sl 3, 1, 24, [.slice none 0 0]⟩
  | 38 => some ⟨.oth, 1, 8, [.pointer none]⟩
  | 42 => some ⟨.oth, 1, 8, [.nilFunc]⟩
  | 43 => some ⟨.sl 9, 1, 24, [.slice none 0 0]⟩
  | 45 => some ⟨.st [(3, 0, 1), (3, 1, 1), (3, 2, 1), (9, 3, 1)], 4, 40, [.int .i64 0, .int .i64 0, .int .i64 0, .string ⟨#[]⟩]⟩
  | 47 => some ⟨.sl 64, 1, 24, [.slice none 0 0]⟩
  | 49 => some ⟨.st [(3, 0, 1), (3, 1, 1), (47, 2, 1)], 3, 40, [.int .i64 0, .int .i64 0, .slice none 0 0]⟩
  | 52 => some ⟨.st [(4, 0, 1), (4, 1, 1), (3, 2, 1)], 3, 16, [.bool false, .bool false, .int .i64 0]⟩
  | 54 => some ⟨.sl 67, 1, 24, [.slice none 0 0]⟩
  | 57 => some ⟨.sl 118, 1, 24, [.slice none 0 0]⟩
  | 59 => some ⟨.st [(57, 0, 1)], 1, 24, [.slice none 0 0]⟩
  | 61 => some ⟨.sl 72, 1, 24, [.slice none 0 0]⟩
  | 62 => some ⟨.sl 138, 1, 24, [.slice none 0 0]⟩
  | 64 => some ⟨.st [(3, 0, 1), (3, 1, 1), (3, 2, 1), (9, 3, 1), (61, 4, 1), (62, 5, 1), (37, 6, 1)], 7, 112, [.int .i64 0, .int .i64 0, .int .i64 0, .string ⟨#[]⟩, .slice none 0 0, .slice none 0 0, .slice none 0 0]⟩
  | 67 => some ⟨.st [(3, 0, 1), (25, 1, 22)], 23, 184, [.int .i64 0, .int .i64 0, .int .i64 0, .int .i64 0, .int .i64 0, .int .i64 0, .int .i64 0, .int .i64 0, .int .i64 0, .int .i64 0, .int .i64 0, .int .i64 0, .int .i64 0, .int .i64 0, .int .i64 0, .int .i64 0, .int .i64 0, .int .i64 0, .int .i64 0, .int .i64 0, .int .i64 0, .int .i64 0, .int .i64 0]⟩
  | 68 => some ⟨.sl 70, 1, 24, [.slice none 0 0]⟩
  | 70 => some ⟨.st [(3, 0, 1), (3, 1, 1), (9, 2, 1), (68, 3, 1)], 4, 56, [.int .i64 0, .int .i64 0, .string ⟨#[]⟩, .slice none 0 0]⟩
  | 72 => some ⟨.st [(9, 0, 1), (70, 1, 4)], 5, 72, [.string ⟨#[]⟩, .int .i64 0, .int .i64 0, .string ⟨#[]⟩, .slice none 0 0]⟩
  | 73 => some ⟨.sl 75, 1, 24, [.slice none 0 0]⟩
  | 75 => some ⟨.st [(3, 0, 1), (9, 1, 1), (61, 2, 1), (62, 3, 1), (73, 4, 1)], 5, 96, [.int .i64 0, .string ⟨#[]⟩, .slice none 0 0, .slice none 0 0, .slice none 0 0]⟩
  | 79 => some ⟨.arr 2 3, 2, 16, [.int .i64 0, .int .i64 0]⟩
  | 81 => some ⟨.st [(3, 0, 1), (3, 1, 1)], 2, 16, [.int .i64 0, .int .i64 0]⟩
  | 82 => some ⟨.sl 81, 1, 24, [.slice none 0 0]⟩
  | 84 => some ⟨.st [(4, 0, 1), (3, 1, 1), (3, 2, 1), (3, 3, 1)], 4, 32, [.bool false, .int .i64 0, .int .i64 0, .int .i64 0]⟩
  | 85 => some ⟨.arr 22 84, 88, 704, [.bool false, .int .i64 0, .int .i64 0, .int .i64 0, .bool false, .int .i64 0, .int .i64 0, .int .i64 0, .bool false, .int .i64 0, .int .i64 0, .int .i64 0, .bool false, .int .i64 0, .int .i64 0, .int .i64 0, .bool false, .int .i64 0, .int .i64 0, .int .i64 0, .bool false, .int .i64 0, .int .i64 0, .int .i64 0, .bool false, .int .i64 0, .int .i64 0, .int .i64 0, .bool false, .int .i64 0, .int .i64 0, .int .i64 0, .bool false, .int .i64 0, .int .i64 0, .int .i64 0, .bool false, .int .i64 0, .int .i64 0, .int .i64 0, .bool false, .int .i64 0, .int .i64 0, .int .i64 0, .bool false, .int .i64 0, .int .i64 0, .int .i64 0, .bool false, .int .i64 0, .int .i64 0, .int .i64 0, .bool false, .int .i64 0, .int .i64 0, .int .i64 0, .bool false, .int .i64 0, .int .i64 0, .int .i64 0, .bool false, .int .i64 0, .int .i64 0, .int .i64 0, .bool false, .int .i64 0, .int .i64 0, .int .i64 0, .bool false, .int .i64 0, .int .i64 0, .int .i64 0, .bool false, .int .i64 0, .int .i64 0, .int .i64 0, .bool false, .int .i64 0, .int .i64 0, .int .i64 0, .bool false, .int .i64 0, .int .i64 0, .int .i64 0, .bool false, .int .i64 0, .int .i64 0, .int .i64 0]⟩
  | 90 => some ⟨.st [(37, 0, 1), (3, 1, 1)], 2, 32, [.slice none 0 0, .int .i64 0]⟩
  | 96 => some ⟨.mp 3 64, 1, 8, [.map none]⟩
  | 97 => some ⟨.mp 3 9, 1, 8, [.map none]⟩
  | 98 => some ⟨.mp 3 3, 1, 8, [.map none]⟩
  | 100 => some ⟨.st [(96, 0, 1), (97, 1, 1), (98, 2, 1)], 3, 24, [.map none, .map none, .map none]⟩
  | 103 => some ⟨.st [(100, 0, 3), (28, 3, 1), (37, 4, 1), (59, 5, 1), (52, 6, 3)], 9, 112, [.map none, .map none, .map none, .slice none 0 0, .slice none 0 0, .slice none 0 0, .bool false, .bool false, .int .i64 0]⟩
  | 107 => some ⟨.mp 3 25, 1, 8, [.map none]⟩
  | 116 => some ⟨.mp 9 4, 1, 8, [.map none]⟩
  | 118 => some ⟨.st [(9, 0, 1), (3, 1, 1), (3, 2, 1), (3, 3, 1), (3, 4, 1)], 5, 48, [.string ⟨#[]⟩, .int .i64 0, .int .i64 0, .int .i64 0, .int .i64 0]⟩
  | 119 => some ⟨.arr 4 3, 4, 32, [.int .i64 0, .int .i64 0, .int .i64 0, .int .i64 0]⟩
  | 124 => some ⟨.oth, 1, 8, [.nilFunc]⟩
  | 127 => some ⟨.arr 2 9, 2, 32, [.string ⟨#[]⟩, .string ⟨#[]⟩]⟩
  | 131 => some ⟨.mp 3 45, 1, 8, [.map none]⟩
  | 138 => some ⟨.st [(9, 0, 1), (9, 1, 1), (9, 2, 1), (68, 3, 1)], 4, 72, [.string ⟨#[]⟩, .string ⟨#[]⟩, .string ⟨#[]⟩, .slice none 0 0]⟩
  | 139 => some ⟨.sl 5, 1, 24, [.slice none 0 0]⟩
  | 143 => some ⟨.oth, 1, 8, [.nilFunc]⟩
  | 151 => some ⟨.sl 21, 1, 24, [.slice none 0 0]⟩
  | 157 => some ⟨.mp 3 4, 1, 8, [.map none]⟩
  | 159 => some ⟨.oth, 1, 8, [.pointer none]⟩
  | 160 => some ⟨.int .u64, 1, 8, [.int .u64 0]⟩
  | 161 => some ⟨.sl 163, 1, 24, [.slice none 0 0]⟩
  | 163 => some ⟨.st [(3, 0, 1), (161, 1, 1)], 2, 32, [.int .i64 0, .slice none 0 0]⟩
  | 181 => some ⟨.arr 256 5, 256, 256, [.int .u8 0, .int .u8 0, .int .u8 0, .int .u8 0, .int .u8 0, .int .u8 0, .int .u8 0, .int .u8 0, .int .u8 0, .int .u8 0, .int .u8 0, .int .u8 0, .int .u8 0, .int .u8 0, .int .u8 0, .int .u8 0, .int .u8 0, .int .u8 0, .int .u8 0, .int .u8 0, .int .u8 0, .int .u8 0, .int .u8 0, .int .u8 0, .int .u8 0, .int .u8 0, .int .u8 0, .int .u8 0, .int .u8 0, .int .u8 0, .int .u8 0, .int .u8 0, .int .u8 0, .int .u8 0, .int .u8 0, .int .u8 0, .int .u8 0, .int .u8 0, .int .u8 0, .int .u8 0, .int .u8 0, .int .u8 0, .int .u8 0, .int .u8 0, .int .u8 0, .int .u8 0, .int .u8 0, .int .u8 0, .int .u8 0, .int .u8 0, .int .u8 0, .int .u8 0, .int .u8 0, .int .u8 0, .int .u8 0, .int .u8 0, .int .u8 0, .int .u8 0, .int .u8 0, .int .u8 0, .int .u8 0, .int .u8 0, .int .u8 0, .int .u8 0, .int .u8 0, .int .u8 0, .int .u8 0, .int .u8 0, .int .u8 0, .int .u8 0, .int .u8 0, .int .u8 0, .int .u8 0, .int .u8 0, .int .u8 0, .int .u8 0, .int .u8 0, .int .u8 0, .int .u8 0, .int .u8 0, .int .u8 0, .int .u8 0, .int .u8 0, .int .u8 0, .int .u8 0, .int .u8 0, .int .u8 0, .int .u8 0, .int .u8 0, .int .u8 0, .int .u8 0, .int .u8 0, .int .u8 0, .int .u8 0, .int .u8 0, .int .u8 0, .int .u8 0, .int .u8 0, .int .u8 0, .int .u8 0, .int .u8 0, .int .u8 0, .int .u8 0, .int .u8 0, .int .u8 0, .int .u8 0, .int .u8 0, .int .u8 0, .int .u8 0, .int .u8 0, .int .u8 0, .int .u8 0, .int .u8 0, .int .u8 0, .int .u8 0, .int .u8 0, .int .u8 0, .int .u8 0, .int .u8 0, .int .u8 0, .int .u8 0, .int .u8 0, .int .u8 0, .int .u8 0, .int .u8 0, .int .u8 0, .int .u8 0, .int .u8 0, .int .u8 0, .int .u8 0, .int .u8 0, .int .u8 0, .int .u8 0, .int .u8 0, .int .u8 0, .int .u8 0, .int .u8 0, .int .u8 0, .int .u8 0, .int .u8 0, .int .u8 0, .int .u8 0, .int .u8 0, .int .u8 0, .int .u8 0, .int .u8 0, .int .u8 0, .int .u8 0, .int .u8 0, .int .u8 0, .int .u8 0, .int .u8 0, .int .u8 0, .int .u8 0, .int .u8 0, .int .u8 0, .int .u8 0, .int .u8 0, .int .u8 0, .int .u8 0, .int .u8 0, .int .u8 0, .int .u8 0, .int .u8 0, .int .u8 0, .int .u8 0, .int .u8 0, .int .u8 0, .int .u8 0, .int .u8 0, .int .u8 0, .int .u8 0, .int .u8 0, .int .u8 0, .int .u8 0, .int .u8 0, .int .u8 0, .int .u8 0, .int .u8 0, .int .u8 0, .int .u8 0, .int .u8 0, .int .u8 0, .int .u8 0, .int .u8 0, .int .u8 0, .int .u8 0, .int .u8 0, .int .u8 0, .int .u8 0, .int .u8 0, .int .u8 0, .int .u8 0, .int .u8 0, .int .u8 0, .int .u8 0, .int .u8 0, .int .u8 0, .int .u8 0, .int .u8 0, .int .u8 0, .int .u8 0, .int .u8 0, .int .u8 0, .int .u8 0, .int .u8 0, .int .u8 0, .int .u8 0, .int .u8 0, .int .u8 0, .int .u8 0, .int .u8 0, .int .u8 0, .int .u8 0, .int .u8 0, .int .u8 0, .int .u8 0, .int .u8 0, .int .u8 0, .int .u8 0, .int .u8 0, .int .u8 0, .int .u8 0, .int .u8 0, .int .u8 0, .int .u8 0, .int .u8 0, .int .u8 0, .int .u8 0, .int .u8 0, .int .u8 0, .int .u8 0, .int .u8 0, .int .u8 0, .int .u8 0, .int .u8 0, .int .u8 0, .int .u8 0, .int .u8 0, .int .u8 0, .int .u8 0, .int .u8 0, .int .u8 0, .int .u8 0, .int .u8 0, .int .u8 0, .int .u8 0, .int .u8 0, .int .u8 0, .int .u8 0, .int .u8 0, .int .u8 0, .int .u8 0, .int .u8 0, .int .u8 0, .int .u8 0]⟩
  | 183 => some ⟨.st [(5, 0, 1), (5, 1, 1)], 2, 2, [.int .u8 0, .int .u8 0]⟩
  | 184 => some ⟨.arr 16 183, 32, 32, [.int .u8 0, .int .u8 0, .int .u8 0, .int .u8 0, .int .u8 0, .int .u8 0, .int .u8 0, .int .u8 0, .int .u8 0, .int .u8 0, .int .u8 0, .int .u8 0, .int .u8 0, .int .u8 0, .int .u8 0, .int .u8 0, .int .u8 0, .int .u8 0, .int .u8 0, .int .u8 0, .int .u8 0, .int .u8 0, .int .u8 0, .int .u8 0, .int .u8 0, .int .u8 0, .int .u8 0, .int .u8 0, .int .u8 0, .int .u8 0, .int .u8 0, .int .u8 0]⟩
  | 185 => some ⟨.int .u64, 1, 8, [.int .u64 0]⟩
  | _ => none
theorem ti3 : mkTI Tryd.prog 3 = tiTab 3 := by kernel_rfl
theorem ti4 : mkTI Tryd.prog 4 = tiTab 4 := by kernel_rfl
theorem ti5 : mkTI Tryd.prog 5 = tiTab 5 := by kernel_rfl
theorem ti9 : mkTI Tryd.prog 9 = tiTab 9 := by kernel_rfl
theorem ti12 : mkTI Tryd.prog 12 = tiTab 12 := by kernel_rfl
theorem ti21 : mkTI Tryd.prog 21 = tiTab 21 := by kernel_rfl
theorem ti25 : mkTI Tryd.prog 25 = tiTab 25 := by kernel_rfl
theorem ti28 : mkTI Tryd.prog 28 = tiTab 28 := by kernel_rfl
theorem ti30 : mkTI Tryd.prog 30 = tiTab 30 := by kernel_rfl
theorem ti31 : mkTI Tryd.prog 31 = tiTab 31 := by kernel_rfl
theorem ti33 : mkTI Tryd.prog 33 = tiTab 33 := by kernel_rfl
theorem ti34 : mkTI Tryd.prog 34 = tiTab 34 := by kernel_rfl
theorem ti37 : mkTI Tryd.prog 37 = tiTab 37 := by kernel_rfl
theorem ti38 : mkTI Tryd.prog 38 = tiTab 38 := by kernel_rfl
theorem ti42 : mkTI Tryd.prog 42 = tiTab 42 := by kernel_rfl
theorem ti43 : mkTI Tryd.prog 43 = tiTab 43 := by kernel_rfl
theorem ti45 : mkTI Tryd.prog 45 = tiTab 45 := by kernel_rfl
theorem ti47 : mkTI Tryd.prog 47 = tiTab 47 := by kernel_rfl
theorem ti49 : mkTI Tryd.prog 49 = tiTab 49 := by kernel_rfl
theorem ti52 : mkTI Tryd.prog 52 = tiTab 52 := by kernel_rfl
theorem ti54 : mkTI Tryd.prog 54 = tiTab 54 := by kernel_rfl
theorem ti57 : mkTI Tryd.prog 57 = tiTab 57 := by kernel_rfl
theorem ti59 : mkTI Tryd.prog 59 = tiTab 59 := by kernel_rfl
theorem ti61 : mkTI Tryd.prog 61 = tiTab 61 := by kernel_rfl
theorem ti62 : mkTI Tryd.prog 62 = tiTab 62 := by kernel_rfl
theorem ti64 : mkTI Tryd.prog 64 = tiTab 64 := by kernel_rfl
theorem ti67 : mkTI Tryd.prog 67 = tiTab 67 := by kernel_rfl
theorem ti68 : mkTI Tryd.prog 68 = tiTab 68 := by kernel_rfl
theorem ti70 : mkTI Tryd.prog 70 = tiTab 70 := by kernel_rfl
theorem ti72 : mkTI Tryd.prog 72 = tiTab 72 := by kernel_rfl
theorem ti73 : mkTI Tryd.prog 73 = tiTab 73 := by kernel_rfl
theorem ti75 : mkTI Tryd.prog 75 = tiTab 75 := by kernel_rfl
theorem ti79 : mkTI Tryd.prog 79 = tiTab 79 := by kernel_rfl
theorem ti81 : mkTI Tryd.prog 81 = tiTab 81 := by kernel_rfl
theorem ti82 : mkTI Tryd.prog 82 = tiTab 82 := by kernel_rfl
theorem ti84 : mkTI Tryd.prog 84 = tiTab 84 := by kernel_rfl
theorem ti85 : mkTI Tryd.prog 85 = tiTab 85 := by kernel_rfl
theorem ti90 : mkTI Tryd.prog 90 = tiTab 90 := by kernel_rfl
theorem ti96 : mkTI Tryd.prog 96 = tiTab 96 := by kernel_rfl
theorem ti97 : mkTI Tryd.prog 97 = tiTab 97 := by kernel_rfl
theorem ti98 : mkTI Tryd.prog 98 = tiTab 98 := by kernel_rfl
theorem ti100 : mkTI Tryd.prog 100 = tiTab 100 := by kernel_rfl
theorem ti103 : mkTI Tryd.prog 103 = tiTab 103 := by kernel_rfl
theorem ti107 : mkTI Tryd.prog 107 = tiTab 107 := by kernel_rfl
theorem ti116 : mkTI Tryd.prog 116 = tiTab 116 := by kernel_rfl
theorem ti118 : mkTI Tryd.prog 118 = tiTab 118 := by kernel_rfl
theorem ti119 : mkTI Tryd.prog 119 = tiTab 119 := by kernel_rfl
theorem ti124 : mkTI Tryd.prog 124 = tiTab 124 := by kernel_rfl
theorem ti127 : mkTI Tryd.prog 127 = tiTab 127 := by kernel_rfl
theorem ti131 : mkTI Tryd.prog 131 = tiTab 131 := by kernel_rfl
theorem ti138 : mkTI Tryd.prog 138 = tiTab 138 := by kernel_rfl
theorem ti139 : mkTI Tryd.prog 139 = tiTab 139 := by kernel_rfl
theorem ti143 : mkTI Tryd.prog 143 = tiTab 143 := by kernel_rfl
theorem ti151 : mkTI Tryd.prog 151 = tiTab 151 := by kernel_rfl
theorem ti157 : mkTI Tryd.prog 157 = tiTab 157 := by kernel_rfl
theorem ti159 : mkTI Tryd.prog 159 = tiTab 159 := by kernel_rfl
theorem ti160 : mkTI Tryd.prog 160 = tiTab 160 := by kernel_rfl
theorem ti161 : mkTI Tryd.prog 161 = tiTab 161 := by kernel_rfl
theorem ti163 : mkTI Tryd.prog 163 = tiTab 163 := by kernel_rfl
theorem ti181 : mkTI Tryd.prog 181 = tiTab 181 := by kernel_rfl
theorem ti183 : mkTI Tryd.prog 183 = tiTab 183 := by kernel_rfl
theorem ti184 : mkTI Tryd.prog 184 = tiTab 184 := by kernel_rfl
theorem ti185 : mkTI Tryd.prog 185 = tiTab 185 := by kernel_rfl
theorem tiTab_ok (T : TypeId) (i : TI) (h : tiTab T = some i) : i.ok Tryd.prog T := by
  unfold tiTab at h
  split at h
  · exact mkTI_ok (ti3.trans h)
  · exact mkTI_ok (ti4.trans h)
  · exact mkTI_ok (ti5.trans h)
  · exact mkTI_ok (ti9.trans h)
  · exact mkTI_ok (ti12.trans h)
  · exact mkTI_ok (ti21.trans h)
  · exact mkTI_ok (ti25.trans h)
  · exact mkTI_ok (ti28.trans h)
  · exact mkTI_ok (ti30.trans h)
  · exact mkTI_ok (ti31.trans h)
  · exact mkTI_ok (ti33.trans h)
  · exact mkTI_ok (ti34.trans h)
  · exact mkTI_ok (ti37.trans h)
  · exact mkTI_ok (ti38.trans h)
  · exact mkTI_ok (ti42.trans h)
  · exact mkTI_ok (ti43.trans h)
  · exact mkTI_ok (ti45.trans h)
  · exact mkTI_ok (ti47.trans h)
  · exact mkTI_ok (ti49.trans h)
  · exact mkTI_ok (ti52.trans h)
  · exact mkTI_ok (ti54.trans h)
  · exact mkTI_ok (ti57.trans h)
  · exact mkTI_ok (ti59.trans h)
  · exact mkTI_ok (ti61.trans h)
  · exact mkTI_ok (ti62.trans h)
  · exact mkTI_ok (ti64.trans h)
  · exact mkTI_ok (ti67.trans h)
  · exact mkTI_ok (ti68.trans h)
  · exact mkTI_ok (ti70.trans h)
  · exact mkTI_ok (ti72.trans h)
  · exact mkTI_ok (ti73.trans h)
  · exact mkTI_ok (ti75.trans h)
  · exact mkTI_ok (ti79.trans h)
  · exact mkTI_ok (ti81.trans h)
  · exact mkTI_ok (ti82.trans h)
  · exact mkTI_ok (ti84.trans h)
  · exact mkTI_ok (ti85.trans h)
  · exact mkTI_ok (ti90.trans h)
  · exact mkTI_ok (ti96.trans h)
  · exact mkTI_ok (ti97.trans h)
  · exact mkTI_ok (ti98.trans h)
  · exact mkTI_ok (ti100.trans h)
  · exact mkTI_ok (ti103.trans h)
  · exact mkTI_ok (ti107.trans h)
  · exact mkTI_ok (ti116.trans h)
  · exact mkTI_ok (ti118.trans h)
  · exact mkTI_ok (ti119.trans h)
  · exact mkTI_ok (ti124.trans h)
  · exact mkTI_ok (ti127.trans h)
  · exact mkTI_ok (ti131.trans h)
  · exact mkTI_ok (ti138.trans h)
  · exact mkTI_ok (ti139.trans h)
  · exact mkTI_ok (ti143.trans h)
  · exact mkTI_ok (ti151.trans h)
  · exact mkTI_ok (ti157.trans h)
  · exact mkTI_ok (ti159.trans h)
  · exact mkTI_ok (ti160.trans h)
  · exact mkTI_ok (ti161.trans h)
  · exact mkTI_ok (ti163.trans h)
  · exact mkTI_ok (ti181.trans h)
  · exact mkTI_ok (ti183.trans h)
  · exact mkTI_ok (ti184.trans h)
  · exact mkTI_ok (ti185.trans h)
  · cases h
def tab_widgetry_style_properties : List Gproperty := [⟨true, 0, 16777215, 0⟩, ⟨false, (-1), 16777215, (-1)⟩, ⟨true, 1, 1000, 16⟩, ⟨true, 0, 7, 0⟩, ⟨true, 0, 1, 0⟩, ⟨false, 0, 4, 1⟩, ⟨false, 0, 4, 3⟩, ⟨false, 0, 3, 0⟩, ⟨true, 0, 2, 0⟩, ⟨false, 0, 1048576, 0⟩, ⟨false, 0, 1000, 0⟩, ⟨false, 0, 1000, 1⟩, ⟨false, (-1), 1048576, (-1)⟩, ⟨false, 0, 1048576, 0⟩, ⟨false, 0, 1048576, 1048576⟩, ⟨false, 0, 1048576, 0⟩, ⟨false, 0, 1048576, 1048576⟩, ⟨false, 0, 1048576, 0⟩, ⟨false, 0, 1048576, 0⟩, ⟨false, 0, 1048576, 0⟩, ⟨false, 0, 1048576, 0⟩, ⟨true, 0, 1, 0⟩]
def tab_unicode_utf8_first : List Int := (Pinned.utf8FirstZ.map Int.ofNat)
def tab_unicode_utf8_acceptRanges : List GacceptRange := [⟨128, 191⟩, ⟨160, 191⟩, ⟨128, 159⟩, ⟨144, 191⟩, ⟨128, 143⟩, ⟨0, 0⟩, ⟨0, 0⟩, ⟨0, 0⟩, ⟨0, 0⟩, ⟨0, 0⟩, ⟨0, 0⟩, ⟨0, 0⟩, ⟨0, 0⟩, ⟨0, 0⟩, ⟨0, 0⟩, ⟨0, 0⟩]
def globs : Nat → Option (List CV)
  | 0 => some (List.flatten (List.map eGproperty tab_widgetry_style_properties))
  | 1 => some (List.flatten (List.map eU8 tab_unicode_utf8_first))
  | 2 => some (List.flatten (List.map eGacceptRange tab_unicode_utf8_acceptRanges))
  | _ => none
noncomputable def E : Env := ⟨Tryd.prog, tiTab, tiTab_ok, globs, by kernel_rfl⟩
theorem fok6 : FnOk E 6 := ⟨Tryd.f6, Tryd.func6, by kernel_rfl, rfl⟩
theorem fok9 : FnOk E 9 := ⟨Tryd.f9, Tryd.func9, by kernel_rfl, rfl⟩
theorem fok11 : FnOk E 11 := ⟨Tryd.f11, Tryd.func11, by kernel_rfl, rfl⟩
theorem fok13 : FnOk E 13 := ⟨Tryd.f13, Tryd.func13, by kernel_rfl, rfl⟩
theorem fok15 : FnOk E 15 := ⟨Tryd.f15, Tryd.func15, by kernel_rfl, rfl⟩
theorem fok16 : FnOk E 16 := ⟨Tryd.f16, Tryd.func16, by kernel_rfl, rfl⟩
theorem fok18 : FnOk E 18 := ⟨Tryd.f18, Tryd.func18, by kernel_rfl, rfl⟩
theorem fok20 : FnOk E 20 := ⟨Tryd.f20, Tryd.func20, by kernel_rfl, rfl⟩
theorem fok21 : FnOk E 21 := ⟨Tryd.f21, Tryd.func21, by kernel_rfl, rfl⟩
theorem fok22 : FnOk E 22 := ⟨Tryd.f22, Tryd.func22, by kernel_rfl, rfl⟩
theorem fok23 : FnOk E 23 := ⟨Tryd.f23, Tryd.func23, by kernel_rfl, rfl⟩
theorem fok24 : FnOk E 24 := ⟨Tryd.f24, Tryd.func24, by kernel_rfl, rfl⟩
theorem fok25 : FnOk E 25 := ⟨Tryd.f25, Tryd.func25, by kernel_rfl, rfl⟩
theorem fok26 : FnOk E 26 := ⟨Tryd.f26, Tryd.func26, by kernel_rfl, rfl⟩
theorem fok27 : FnOk E 27 := ⟨Tryd.f27, Tryd.func27, by kernel_rfl, rfl⟩
theorem fok28 : FnOk E 28 := ⟨Tryd.f28, Tryd.func28, by kernel_rfl, rfl⟩
theorem fok29 : FnOk E 29 := ⟨Tryd.f29, Tryd.func29, by kernel_rfl, rfl⟩
theorem fok30 : FnOk E 30 := ⟨Tryd.f30, Tryd.func30, by kernel_rfl, rfl⟩
theorem fok31 : FnOk E 31 := ⟨Tryd.f31, Tryd.func31, by kernel_rfl, rfl⟩
theorem fok33 : FnOk E 33 := ⟨Tryd.f33, Tryd.func33, by kernel_rfl, rfl⟩
theorem fok35 : FnOk E 35 := ⟨Tryd.f35, Tryd.func35, by kernel_rfl, rfl⟩
theorem fok36 : FnOk E 36 := ⟨Tryd.f36, Tryd.func36, by kernel_rfl, rfl⟩
theorem fok37 : FnOk E 37 := ⟨Tryd.f37, Tryd.func37, by kernel_rfl, rfl⟩
theorem fok38 : FnOk E 38 := ⟨Tryd.f38, Tryd.func38, by kernel_rfl, rfl⟩
theorem fok39 : FnOk E 39 := ⟨Tryd.f39, Tryd.func39, by kernel_rfl, rfl⟩
theorem fok40 : FnOk E 40 := ⟨Tryd.f40, Tryd.func40, by kernel_rfl, rfl⟩
theorem fok41 : FnOk E 41 := ⟨Tryd.f41, Tryd.func41, by kernel_rfl, rfl⟩
theorem fok42 : FnOk E 42 := ⟨Tryd.f42, Tryd.func42, by kernel_rfl, rfl⟩
theorem fok43 : FnOk E 43 := ⟨Tryd.f43, Tryd.func43, by kernel_rfl, rfl⟩
theorem fok44 : FnOk E 44 := ⟨Tryd.f44, Tryd.func44, by kernel_rfl, rfl⟩
theorem fok45 : FnOk E 45 := ⟨Tryd.f45, Tryd.func45, by kernel_rfl, rfl⟩
theorem fok46 : FnOk E 46 := ⟨Tryd.f46, Tryd.func46, by kernel_rfl, rfl⟩
theorem fok47 : FnOk E 47 := ⟨Tryd.f47, Tryd.func47, by kernel_rfl, rfl⟩
theorem fok48 : FnOk E 48 := ⟨Tryd.f48, Tryd.func48, by kernel_rfl, rfl⟩
theorem fok49 : FnOk E 49 := ⟨Tryd.f49, Tryd.func49, by kernel_rfl, rfl⟩
theorem fok50 : FnOk E 50 := ⟨Tryd.f50, Tryd.func50, by kernel_rfl, rfl⟩
theorem fok51 : FnOk E 51 := ⟨Tryd.f51, Tryd.func51, by kernel_rfl, rfl⟩
theorem fok52 : FnOk E 52 := ⟨Tryd.f52, Tryd.func52, by kernel_rfl, rfl⟩
theorem fok53 : FnOk E 53 := ⟨Tryd.f53, Tryd.func53, by kernel_rfl, rfl⟩
theorem fok54 : FnOk E 54 := ⟨Tryd.f54, Tryd.func54, by kernel_rfl, rfl⟩
theorem fok55 : FnOk E 55 := ⟨Tryd.f55, Tryd.func55, by kernel_rfl, rfl⟩
theorem fok56 : FnOk E 56 := ⟨Tryd.f56, Tryd.func56, by kernel_rfl, rfl⟩
theorem fok57 : FnOk E 57 := ⟨Tryd.f57, Tryd.func57, by kernel_rfl, rfl⟩
theorem fok58 : FnOk E 58 := ⟨Tryd.f58, Tryd.func58, by kernel_rfl, rfl⟩
theorem fok59 : FnOk E 59 := ⟨Tryd.f59, Tryd.func59, by kernel_rfl, rfl⟩
theorem fok60 : FnOk E 60 := ⟨Tryd.f60, Tryd.func60, by kernel_rfl, rfl⟩
theorem fok61 : FnOk E 61 := ⟨Tryd.f61, Tryd.func61, by kernel_rfl, rfl⟩
theorem fok62 : FnOk E 62 := ⟨Tryd.f62, Tryd.func62, by kernel_rfl, rfl⟩
theorem fok63 : FnOk E 63 := ⟨Tryd.f63, Tryd.func63, by kernel_rfl, rfl⟩
theorem fok64 : FnOk E 64 := ⟨Tryd.f64, Tryd.func64, by kernel_rfl, rfl⟩
theorem fok65 : FnOk E 65 := ⟨Tryd.f65, Tryd.func65, by kernel_rfl, rfl⟩
theorem fok66 : FnOk E 66 := ⟨Tryd.f66, Tryd.func66, by kernel_rfl, rfl⟩
theorem fok67 : FnOk E 67 := ⟨Tryd.f67, Tryd.func67, by kernel_rfl, rfl⟩
theorem fok68 : FnOk E 68 := ⟨Tryd.f68, Tryd.func68, by kernel_rfl, rfl⟩
theorem fok69 : FnOk E 69 := ⟨Tryd.f69, Tryd.func69, by kernel_rfl, rfl⟩
theorem fok70 : FnOk E 70 := ⟨Tryd.f70, Tryd.func70, by kernel_rfl, rfl⟩
theorem fok71 : FnOk E 71 := ⟨Tryd.f71, Tryd.func71, by kernel_rfl, rfl⟩
theorem fok72 : FnOk E 72 := ⟨Tryd.f72, Tryd.func72, by kernel_rfl, rfl⟩
theorem fok73 : FnOk E 73 := ⟨Tryd.f73, Tryd.func73, by kernel_rfl, rfl⟩
theorem fok74 : FnOk E 74 := ⟨Tryd.f74, Tryd.func74, by kernel_rfl, rfl⟩
theorem fok75 : FnOk E 75 := ⟨Tryd.f75, Tryd.func75, by kernel_rfl, rfl⟩
theorem fok76 : FnOk E 76 := ⟨Tryd.f76, Tryd.func76, by kernel_rfl, rfl⟩
theorem fok77 : FnOk E 77 := ⟨Tryd.f77, Tryd.func77, by kernel_rfl, rfl⟩
theorem fok78 : FnOk E 78 := ⟨Tryd.f78, Tryd.func78, by kernel_rfl, rfl⟩
theorem fok79 : FnOk E 79 := ⟨Tryd.f79, Tryd.func79, by kernel_rfl, rfl⟩
theorem fok80 : FnOk E 80 := ⟨Tryd.f80, Tryd.func80, by kernel_rfl, rfl⟩
theorem fok81 : FnOk E 81 := ⟨Tryd.f81, Tryd.func81, by kernel_rfl, rfl⟩
theorem fok82 : FnOk E 82 := ⟨Tryd.f82, Tryd.func82, by kernel_rfl, rfl⟩
theorem fok83 : FnOk E 83 := ⟨Tryd.f83, Tryd.func83, by kernel_rfl, rfl⟩
theorem fok84 : FnOk E 84 := ⟨Tryd.f84, Tryd.func84, by kernel_rfl, rfl⟩
theorem fok85 : FnOk E 85 := ⟨Tryd.f85, Tryd.func85, by kernel_rfl, rfl⟩
theorem fok86 : FnOk E 86 := ⟨Tryd.f86, Tryd.func86, by kernel_rfl, rfl⟩
theorem fok87 : FnOk E 87 := ⟨Tryd.f87, Tryd.func87, by kernel_rfl, rfl⟩
theorem fok88 : FnOk E 88 := ⟨Tryd.f88, Tryd.func88, by kernel_rfl, rfl⟩
theorem fok89 : FnOk E 89 := ⟨Tryd.f89, Tryd.func89, by kernel_rfl, rfl⟩
theorem fok90 : FnOk E 90 := ⟨Tryd.f90, Tryd.func90, by kernel_rfl, rfl⟩
theorem fok91 : FnOk E 91 := ⟨Tryd.f91, Tryd.func91, by kernel_rfl, rfl⟩
theorem fok92 : FnOk E 92 := ⟨Tryd.f92, Tryd.func92, by kernel_rfl, rfl⟩
theorem fok93 : FnOk E 93 := ⟨Tryd.f93, Tryd.func93, by kernel_rfl, rfl⟩
theorem fok94 : FnOk E 94 := ⟨Tryd.f94, Tryd.func94, by kernel_rfl, rfl⟩
theorem fok95 : FnOk E 95 := ⟨Tryd.f95, Tryd.func95, by kernel_rfl, rfl⟩
theorem fok96 : FnOk E 96 := ⟨Tryd.f96, Tryd.func96, by kernel_rfl, rfl⟩
theorem fok97 : FnOk E 97 := ⟨Tryd.f97, Tryd.func97, by kernel_rfl, rfl⟩
theorem fok98 : FnOk E 98 := ⟨Tryd.f98, Tryd.func98, by kernel_rfl, rfl⟩
theorem fok99 : FnOk E 99 := ⟨Tryd.f99, Tryd.func99, by kernel_rfl, rfl⟩
theorem fok100 : FnOk E 100 := ⟨Tryd.f100, Tryd.func100, by kernel_rfl, rfl⟩
theorem fok101 : FnOk E 101 := ⟨Tryd.f101, Tryd.func101, by kernel_rfl, rfl⟩
theorem fok102 : FnOk E 102 := ⟨Tryd.f102, Tryd.func102, by kernel_rfl, rfl⟩
theorem fok103 : FnOk E 103 := ⟨Tryd.f103, Tryd.func103, by kernel_rfl, rfl⟩
theorem fok104 : FnOk E 104 := ⟨Tryd.f104, Tryd.func104, by kernel_rfl, rfl⟩
theorem fok105 : FnOk E 105 := ⟨Tryd.f105, Tryd.func105, by kernel_rfl, rfl⟩
theorem fok106 : FnOk E 106 := ⟨Tryd.f106, Tryd.func106, by kernel_rfl, rfl⟩
theorem fok107 : FnOk E 107 := ⟨Tryd.f107, Tryd.func107, by kernel_rfl, rfl⟩
theorem fok108 : FnOk E 108 := ⟨Tryd.f108, Tryd.func108, by kernel_rfl, rfl⟩
theorem fok109 : FnOk E 109 := ⟨Tryd.f109, Tryd.func109, by kernel_rfl, rfl⟩
theorem fok110 : FnOk E 110 := ⟨Tryd.f110, Tryd.func110, by kernel_rfl, rfl⟩
theorem fok111 : FnOk E 111 := ⟨Tryd.f111, Tryd.func111, by kernel_rfl, rfl⟩
theorem fok112 : FnOk E 112 := ⟨Tryd.f112, Tryd.func112, by kernel_rfl, rfl⟩
theorem fok113 : FnOk E 113 := ⟨Tryd.f113, Tryd.func113, by kernel_rfl, rfl⟩
end Go.Proofs.YtojkihhnioeggaaDoor.S
