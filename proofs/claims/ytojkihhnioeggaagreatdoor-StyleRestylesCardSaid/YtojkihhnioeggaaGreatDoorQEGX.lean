import Derived.Test.YtojkihhnioeggaaGreatDoorQEBE
import Derived.Test.YtojkihhnioeggaaGreatDoorChecked
import GoSem.PinnedTables
set_option linter.unusedVariables false
namespace Go.Proofs.YtojkihhnioeggaaGreatDoor.S
open Go Go.Bm
structure aP where
 Kind : Int
 N : Int
 S : ByteArray
 L : (List aP)
instance : Inhabited aP := ⟨⟨default, default, default, default⟩⟩
mutual
def aT : aP → List CV
 | ⟨Kind, N, S, L⟩ => [I Kind, I N, Sx S, .lit (Cp L)]
def Cp : List aP → List (List CV)
 | [] => []
 | x :: l => aT x :: Cp l
end
theorem Es : ∀ l, Cp l = List.map aT l
 | [] => rfl
 | x :: l => by rw [Cp, Es l]; rfl
theorem eE (x : aP) : aT x = [I x.Kind, I x.N, Sx x.S, .lit (List.map aT x.L)] := by
 cases x; simp only [aT, Es]
structure bJ where
 Name : ByteArray
 Value : aP
instance : Inhabited bJ := ⟨⟨default, default⟩⟩
def aF (x : bJ) : List CV := [Sx x.Name, I x.Value.Kind, I x.Value.N, Sx x.Value.S, .lit (List.map aT x.Value.L)]
structure cS where
 Event : ByteArray
 Instance : ByteArray
 Handler : ByteArray
 Args : (List aP)
instance : Inhabited cS := ⟨⟨default, default, default, default⟩⟩
def aC (x : cS) : List CV := [Sx x.Event, Sx x.Instance, Sx x.Handler, .lit (List.map aT x.Args)]
structure aU where
 ID : Int
 Parent : Int
 Kind : Int
 Key : ByteArray
 Attrs : (List bJ)
 Actions : (List cS)
 Kids : (List Int)
instance : Inhabited aU := ⟨⟨default, default, default, default, default, default, default⟩⟩
def aE (x : aU) : List CV := [I x.ID, I x.Parent, I x.Kind, Sx x.Key, .lit (List.map aF x.Attrs), .lit (List.map aC x.Actions), .lit (List.map aL x.Kids)]
structure bA where
 Root : Int
 Next : Int
 Nodes : (List aU)
instance : Inhabited bA := ⟨⟨default, default, default⟩⟩
structure bW where
 Prop_ : Int
 Source : Int
 N : Int
 Token : ByteArray
instance : Inhabited bW := ⟨⟨default, default, default, default⟩⟩
def bL (x : bW) : List CV := [I x.Prop_, I x.Source, I x.N, Sx x.Token]
structure cM where
 Kind : Int
 Class : ByteArray
 States : Int
 UnderKind : Int
 UnderClass : ByteArray
 Decls : (List bW)
instance : Inhabited cM := ⟨⟨default, default, default, default, default, default⟩⟩
def aY (x : cM) : List CV := [I x.Kind, Sx x.Class, I x.States, I x.UnderKind, Sx x.UnderClass, .lit (List.map bL x.Decls)]
structure bM where
 Rules : (List cM)
instance : Inhabited bM := ⟨⟨default⟩⟩
structure fJ where
 Name : ByteArray
 Light : Int
 Dark : Int
 HighLight : Int
 HighDark : Int
instance : Inhabited fJ := ⟨⟨default, default, default, default, default⟩⟩
def bC (x : fJ) : List CV := [Sx x.Name, I x.Light, I x.Dark, I x.HighLight, I x.HighDark]
structure bS where
 Tokens : (List fJ)
instance : Inhabited bS := ⟨⟨default⟩⟩
structure cX where
 Dark : Bool
 High : Bool
 Scale : Int
instance : Inhabited cX := ⟨⟨default, default, default⟩⟩
structure aO where
 ID : Int
 States : Int
instance : Inhabited aO := ⟨⟨default, default⟩⟩
def aH (x : aO) : List CV := [I x.ID, I x.States]
structure aB where
 x0 : Int
 x1 : Int
 x2 : Int
 x3 : Int
 x4 : Int
 x5 : Int
 x6 : Int
 x7 : Int
 x8 : Int
 x9 : Int
 x10 : Int
 x11 : Int
 x12 : Int
 x13 : Int
 x14 : Int
 x15 : Int
 x16 : Int
 x17 : Int
 x18 : Int
 x19 : Int
 x20 : Int
 x21 : Int
instance : Inhabited aB := ⟨⟨default, default, default, default, default, default, default, default, default, default, default, default, default, default, default, default, default, default, default, default, default, default⟩⟩
def aB.toL (a : aB) : List Int := [a.x0, a.x1, a.x2, a.x3, a.x4, a.x5, a.x6, a.x7, a.x8, a.x9, a.x10, a.x11, a.x12, a.x13, a.x14, a.x15, a.x16, a.x17, a.x18, a.x19, a.x20, a.x21]
def aB.ofL (l : List Int) : aB := ⟨l.getD 0 default, l.getD 1 default, l.getD 2 default, l.getD 3 default, l.getD 4 default, l.getD 5 default, l.getD 6 default, l.getD 7 default, l.getD 8 default, l.getD 9 default, l.getD 10 default, l.getD 11 default, l.getD 12 default, l.getD 13 default, l.getD 14 default, l.getD 15 default, l.getD 16 default, l.getD 17 default, l.getD 18 default, l.getD 19 default, l.getD 20 default, l.getD 21 default⟩
theorem aB.toL_ofL (l : List Int) (h : l.length = 22) : (aB.ofL l).toL = l := by
 refine List.ext_getElem (by simp [aB.toL, h]) fun i h1 h2 => ?_
 have hi : i = 0 ∨ i = 1 ∨ i = 2 ∨ i = 3 ∨ i = 4 ∨ i = 5 ∨ i = 6 ∨ i = 7 ∨ i = 8 ∨ i = 9 ∨ i = 10 ∨ i = 11 ∨ i = 12 ∨ i = 13 ∨ i = 14 ∨ i = 15 ∨ i = 16 ∨ i = 17 ∨ i = 18 ∨ i = 19 ∨ i = 20 ∨ i = 21 := by omega
 rcases hi with rfl | rfl | rfl | rfl | rfl | rfl | rfl | rfl | rfl | rfl | rfl | rfl | rfl | rfl | rfl | rfl | rfl | rfl | rfl | rfl | rfl | rfl <;> simp [aB.toL, aB.ofL, List.getD_eq_getElem?_getD, h2]
def aB.set (a : aB) (k : Nat) (v : Int) : aB := aB.ofL (a.toL.set k v)
def nR (x : aB) : List CV := [I x.x0, I x.x1, I x.x2, I x.x3, I x.x4, I x.x5, I x.x6, I x.x7, I x.x8, I x.x9, I x.x10, I x.x11, I x.x12, I x.x13, I x.x14, I x.x15, I x.x16, I x.x17, I x.x18, I x.x19, I x.x20, I x.x21]
theorem aB.splice_eq (a : aB) (k : Nat) (v : Int) (hk : k < 22) : gL (nR a) (k * 1) (aL v) = nR (aB.set a k v) := by
 have h := oN (enc := aL) (sz := 1) (xs := a.toL) (k := k) (v := v) hk (fun x => by kernel_rfl)
 have h2 := aB.toL_ofL (a.toL.set k v) (by rw [List.length_set]; rfl)
 rw [← h2] at h
 exact h
structure aZ where
 ID : Int
 Style : aB
instance : Inhabited aZ := ⟨⟨default, default⟩⟩
def aX (x : aZ) : List CV := [I x.ID, I x.Style.x0, I x.Style.x1, I x.Style.x2, I x.Style.x3, I x.Style.x4, I x.Style.x5, I x.Style.x6, I x.Style.x7, I x.Style.x8, I x.Style.x9, I x.Style.x10, I x.Style.x11, I x.Style.x12, I x.Style.x13, I x.Style.x14, I x.Style.x15, I x.Style.x16, I x.Style.x17, I x.Style.x18, I x.Style.x19, I x.Style.x20, I x.Style.x21]
structure aN where
 Kind : Int
 Key : ByteArray
 Attrs : (List bJ)
 Actions : (List cS)
 Kids : (List aN)
instance : Inhabited aN := ⟨⟨default, default, default, default, default⟩⟩
mutual
def aQ : aN → List CV
 | ⟨Kind, Key, Attrs, Actions, Kids⟩ => [I Kind, Sx Key, .lit (List.map aF Attrs), .lit (List.map aC Actions), .lit (Ge Kids)]
def Ge : List aN → List (List CV)
 | [] => []
 | x :: l => aQ x :: Ge l
end
theorem Ib : ∀ l, Ge l = List.map aQ l
 | [] => rfl
 | x :: l => by rw [Ge, Ib l]; rfl
theorem cB (x : aN) : aQ x = [I x.Kind, Sx x.Key, .lit (List.map aF x.Attrs), .lit (List.map aC x.Actions), .lit (List.map aQ x.Kids)] := by
 cases x; simp only [aQ, Ib]
structure aW where
 L : (List Int)
 At : Int
instance : Inhabited aW := ⟨⟨default, default⟩⟩
structure fO where
 nodes : (List (Int × aU))
 class_ : (List (Int × ByteArray))
 states : (List (Int × Int))
instance : Inhabited fO := ⟨⟨default, default, default⟩⟩
structure jH where
 shape : fO
 rules : (List cM)
 order : (List Int)
 th : bS
 m : cX
instance : Inhabited jH := ⟨⟨default, default, default, default, default⟩⟩
structure dV where
 x0 : Int
 x1 : Int
instance : Inhabited dV := ⟨⟨default, default⟩⟩
def dV.toL (a : dV) : List Int := [a.x0, a.x1]
def dV.ofL (l : List Int) : dV := ⟨l.getD 0 default, l.getD 1 default⟩
theorem dV.toL_ofL (l : List Int) (h : l.length = 2) : (dV.ofL l).toL = l := by
 refine List.ext_getElem (by simp [dV.toL, h]) fun i h1 h2 => ?_
 have hi : i = 0 ∨ i = 1 := by omega
 rcases hi with rfl | rfl <;> simp [dV.toL, dV.ofL, List.getD_eq_getElem?_getD, h2]
def dV.set (a : dV) (k : Nat) (v : Int) : dV := dV.ofL (a.toL.set k v)
def Uk (x : dV) : List CV := [I x.x0, I x.x1]
theorem dV.splice_eq (a : dV) (k : Nat) (v : Int) (hk : k < 2) : gL (Uk a) (k * 1) (aL v) = Uk (dV.set a k v) := by
 have h := oN (enc := aL) (sz := 1) (xs := a.toL) (k := k) (v := v) hk (fun x => by kernel_rfl)
 have h2 := dV.toL_ofL (a.toL.set k v) (by rw [List.length_set]; rfl)
 rw [← h2] at h
 exact h
structure cU where
 inherited : Bool
 low : Int
 high : Int
 start : Int
instance : Inhabited cU := ⟨⟨default, default, default, default⟩⟩
def kF (x : cU) : List CV := [Bo x.inherited, I x.low, I x.high, I x.start]
structure cV where
 x0 : cU
 x1 : cU
 x2 : cU
 x3 : cU
 x4 : cU
 x5 : cU
 x6 : cU
 x7 : cU
 x8 : cU
 x9 : cU
 x10 : cU
 x11 : cU
 x12 : cU
 x13 : cU
 x14 : cU
 x15 : cU
 x16 : cU
 x17 : cU
 x18 : cU
 x19 : cU
 x20 : cU
 x21 : cU
instance : Inhabited cV := ⟨⟨default, default, default, default, default, default, default, default, default, default, default, default, default, default, default, default, default, default, default, default, default, default⟩⟩
def cV.toL (a : cV) : List cU := [a.x0, a.x1, a.x2, a.x3, a.x4, a.x5, a.x6, a.x7, a.x8, a.x9, a.x10, a.x11, a.x12, a.x13, a.x14, a.x15, a.x16, a.x17, a.x18, a.x19, a.x20, a.x21]
def cV.ofL (l : List cU) : cV := ⟨l.getD 0 default, l.getD 1 default, l.getD 2 default, l.getD 3 default, l.getD 4 default, l.getD 5 default, l.getD 6 default, l.getD 7 default, l.getD 8 default, l.getD 9 default, l.getD 10 default, l.getD 11 default, l.getD 12 default, l.getD 13 default, l.getD 14 default, l.getD 15 default, l.getD 16 default, l.getD 17 default, l.getD 18 default, l.getD 19 default, l.getD 20 default, l.getD 21 default⟩
theorem cV.toL_ofL (l : List cU) (h : l.length = 22) : (cV.ofL l).toL = l := by
 refine List.ext_getElem (by simp [cV.toL, h]) fun i h1 h2 => ?_
 have hi : i = 0 ∨ i = 1 ∨ i = 2 ∨ i = 3 ∨ i = 4 ∨ i = 5 ∨ i = 6 ∨ i = 7 ∨ i = 8 ∨ i = 9 ∨ i = 10 ∨ i = 11 ∨ i = 12 ∨ i = 13 ∨ i = 14 ∨ i = 15 ∨ i = 16 ∨ i = 17 ∨ i = 18 ∨ i = 19 ∨ i = 20 ∨ i = 21 := by omega
 rcases hi with rfl | rfl | rfl | rfl | rfl | rfl | rfl | rfl | rfl | rfl | rfl | rfl | rfl | rfl | rfl | rfl | rfl | rfl | rfl | rfl | rfl | rfl <;> simp [cV.toL, cV.ofL, List.getD_eq_getElem?_getD, h2]
def cV.set (a : cV) (k : Nat) (v : cU) : cV := cV.ofL (a.toL.set k v)
def xF (x : cV) : List CV := [Bo x.x0.inherited, I x.x0.low, I x.x0.high, I x.x0.start, Bo x.x1.inherited, I x.x1.low, I x.x1.high, I x.x1.start, Bo x.x2.inherited, I x.x2.low, I x.x2.high, I x.x2.start, Bo x.x3.inherited, I x.x3.low, I x.x3.high, I x.x3.start, Bo x.x4.inherited, I x.x4.low, I x.x4.high, I x.x4.start, Bo x.x5.inherited, I x.x5.low, I x.x5.high, I x.x5.start, Bo x.x6.inherited, I x.x6.low, I x.x6.high, I x.x6.start, Bo x.x7.inherited, I x.x7.low, I x.x7.high, I x.x7.start, Bo x.x8.inherited, I x.x8.low, I x.x8.high, I x.x8.start, Bo x.x9.inherited, I x.x9.low, I x.x9.high, I x.x9.start, Bo x.x10.inherited, I x.x10.low, I x.x10.high, I x.x10.start, Bo x.x11.inherited, I x.x11.low, I x.x11.high, I x.x11.start, Bo x.x12.inherited, I x.x12.low, I x.x12.high, I x.x12.start, Bo x.x13.inherited, I x.x13.low, I x.x13.high, I x.x13.start, Bo x.x14.inherited, I x.x14.low, I x.x14.high, I x.x14.start, Bo x.x15.inherited, I x.x15.low, I x.x15.high, I x.x15.start, Bo x.x16.inherited, I x.x16.low, I x.x16.high, I x.x16.start, Bo x.x17.inherited, I x.x17.low, I x.x17.high, I x.x17.start, Bo x.x18.inherited, I x.x18.low, I x.x18.high, I x.x18.start, Bo x.x19.inherited, I x.x19.low, I x.x19.high, I x.x19.start, Bo x.x20.inherited, I x.x20.low, I x.x20.high, I x.x20.start, Bo x.x21.inherited, I x.x21.low, I x.x21.high, I x.x21.start]
theorem cV.splice_eq (a : cV) (k : Nat) (v : cU) (hk : k < 22) : gL (xF a) (k * 4) (kF v) = xF (cV.set a k v) := by
 have h := oN (enc := kF) (sz := 4) (xs := a.toL) (k := k) (v := v) hk (fun x => by kernel_rfl)
 have h2 := cV.toL_ofL (a.toL.set k v) (by rw [List.length_set]; rfl)
 rw [← h2] at h
 exact h
structure gY where
 x0 : Int
 x1 : Int
 x2 : Int
 x3 : Int
instance : Inhabited gY := ⟨⟨default, default, default, default⟩⟩
def gY.toL (a : gY) : List Int := [a.x0, a.x1, a.x2, a.x3]
def gY.ofL (l : List Int) : gY := ⟨l.getD 0 default, l.getD 1 default, l.getD 2 default, l.getD 3 default⟩
theorem gY.toL_ofL (l : List Int) (h : l.length = 4) : (gY.ofL l).toL = l := by
 refine List.ext_getElem (by simp [gY.toL, h]) fun i h1 h2 => ?_
 have hi : i = 0 ∨ i = 1 ∨ i = 2 ∨ i = 3 := by omega
 rcases hi with rfl | rfl | rfl | rfl <;> simp [gY.toL, gY.ofL, List.getD_eq_getElem?_getD, h2]
def gY.set (a : gY) (k : Nat) (v : Int) : gY := gY.ofL (a.toL.set k v)
def Vb (x : gY) : List CV := [I x.x0, I x.x1, I x.x2, I x.x3]
theorem gY.splice_eq (a : gY) (k : Nat) (v : Int) (hk : k < 4) : gL (Vb a) (k * 1) (aL v) = Vb (gY.set a k v) := by
 have h := oN (enc := aL) (sz := 1) (xs := a.toL) (k := k) (v := v) hk (fun x => by kernel_rfl)
 have h2 := gY.toL_ofL (a.toL.set k v) (by rw [List.length_set]; rfl)
 rw [← h2] at h
 exact h
structure cN where
 x0 : ByteArray
 x1 : ByteArray
instance : Inhabited cN := ⟨⟨default, default⟩⟩
def cN.toL (a : cN) : List ByteArray := [a.x0, a.x1]
def cN.ofL (l : List ByteArray) : cN := ⟨l.getD 0 default, l.getD 1 default⟩
theorem cN.toL_ofL (l : List ByteArray) (h : l.length = 2) : (cN.ofL l).toL = l := by
 refine List.ext_getElem (by simp [cN.toL, h]) fun i h1 h2 => ?_
 have hi : i = 0 ∨ i = 1 := by omega
 rcases hi with rfl | rfl <;> simp [cN.toL, cN.ofL, List.getD_eq_getElem?_getD, h2]
def cN.set (a : cN) (k : Nat) (v : ByteArray) : cN := cN.ofL (a.toL.set k v)
def zK (x : cN) : List CV := [Sx x.x0, Sx x.x1]
theorem cN.splice_eq (a : cN) (k : Nat) (v : ByteArray) (hk : k < 2) : gL (zK a) (k * 1) (eS v) = zK (cN.set a k v) := by
 have h := oN (enc := eS) (sz := 1) (xs := a.toL) (k := k) (v := v) hk (fun x => by kernel_rfl)
 have h2 := cN.toL_ofL (a.toL.set k v) (by rw [List.length_set]; rfl)
 rw [← h2] at h
 exact h
structure bD where
 Kind : Int
 Of : (List bD)
instance : Inhabited bD := ⟨⟨default, default⟩⟩
mutual
def bN : bD → List CV
 | ⟨Kind, Of⟩ => [I Kind, .lit (Fo Of)]
def Fo : List bD → List (List CV)
 | [] => []
 | x :: l => bN x :: Fo l
end
theorem Hl : ∀ l, Fo l = List.map bN l
 | [] => rfl
 | x :: l => by rw [Fo, Hl l]; rfl
theorem gV (x : bD) : bN x = [I x.Kind, .lit (List.map bN x.Of)] := by
 cases x; simp only [bN, Hl]
structure cJ where
 lo : Int
 hi : Int
instance : Inhabited cJ := ⟨⟨default, default⟩⟩
def kL (x : cJ) : List CV := [U8 x.lo, U8 x.hi]
structure cC where
 x0 : cJ
 x1 : cJ
 x2 : cJ
 x3 : cJ
 x4 : cJ
 x5 : cJ
 x6 : cJ
 x7 : cJ
 x8 : cJ
 x9 : cJ
 x10 : cJ
 x11 : cJ
 x12 : cJ
 x13 : cJ
 x14 : cJ
 x15 : cJ
instance : Inhabited cC := ⟨⟨default, default, default, default, default, default, default, default, default, default, default, default, default, default, default, default⟩⟩
def cC.toL (a : cC) : List cJ := [a.x0, a.x1, a.x2, a.x3, a.x4, a.x5, a.x6, a.x7, a.x8, a.x9, a.x10, a.x11, a.x12, a.x13, a.x14, a.x15]
def cC.ofL (l : List cJ) : cC := ⟨l.getD 0 default, l.getD 1 default, l.getD 2 default, l.getD 3 default, l.getD 4 default, l.getD 5 default, l.getD 6 default, l.getD 7 default, l.getD 8 default, l.getD 9 default, l.getD 10 default, l.getD 11 default, l.getD 12 default, l.getD 13 default, l.getD 14 default, l.getD 15 default⟩
theorem cC.toL_ofL (l : List cJ) (h : l.length = 16) : (cC.ofL l).toL = l := by
 refine List.ext_getElem (by simp [cC.toL, h]) fun i h1 h2 => ?_
 have hi : i = 0 ∨ i = 1 ∨ i = 2 ∨ i = 3 ∨ i = 4 ∨ i = 5 ∨ i = 6 ∨ i = 7 ∨ i = 8 ∨ i = 9 ∨ i = 10 ∨ i = 11 ∨ i = 12 ∨ i = 13 ∨ i = 14 ∨ i = 15 := by omega
 rcases hi with rfl | rfl | rfl | rfl | rfl | rfl | rfl | rfl | rfl | rfl | rfl | rfl | rfl | rfl | rfl | rfl <;> simp [cC.toL, cC.ofL, List.getD_eq_getElem?_getD, h2]
def cC.set (a : cC) (k : Nat) (v : cJ) : cC := cC.ofL (a.toL.set k v)
def tM (x : cC) : List CV := [U8 x.x0.lo, U8 x.x0.hi, U8 x.x1.lo, U8 x.x1.hi, U8 x.x2.lo, U8 x.x2.hi, U8 x.x3.lo, U8 x.x3.hi, U8 x.x4.lo, U8 x.x4.hi, U8 x.x5.lo, U8 x.x5.hi, U8 x.x6.lo, U8 x.x6.hi, U8 x.x7.lo, U8 x.x7.hi, U8 x.x8.lo, U8 x.x8.hi, U8 x.x9.lo, U8 x.x9.hi, U8 x.x10.lo, U8 x.x10.hi, U8 x.x11.lo, U8 x.x11.hi, U8 x.x12.lo, U8 x.x12.hi, U8 x.x13.lo, U8 x.x13.hi, U8 x.x14.lo, U8 x.x14.hi, U8 x.x15.lo, U8 x.x15.hi]
theorem cC.splice_eq (a : cC) (k : Nat) (v : cJ) (hk : k < 16) : gL (tM a) (k * 2) (kL v) = tM (cC.set a k v) := by
 have h := oN (enc := kL) (sz := 2) (xs := a.toL) (k := k) (v := v) hk (fun x => by kernel_rfl)
 have h2 := cC.toL_ofL (a.toL.set k v) (by rw [List.length_set]; rfl)
 rw [← h2] at h
 exact h
def dA : Nat → Option TI
 | 3 => some ⟨.int .i64, 1, 8, [.int .i64 0]⟩
 | 4 => some ⟨.boo, 1, 1, [.bool false]⟩
 | 5 => some ⟨.int .u8, 1, 1, [.int .u8 0]⟩
 | 9 => some ⟨.str, 1, 16, [.string ⟨#[]⟩]⟩
 | 12 => some ⟨.int .u64, 1, 8, [.int .u64 0]⟩
 | 21 => some ⟨.int .i32, 1, 4, [.int .i32 0]⟩
 | 22 => some ⟨.sl 3, 1, 24, [.slice none 0 0]⟩
 | 23 => some ⟨.oth, 1, 8, [.pointer none]⟩
 | 25 => some ⟨.sl 58, 1, 24, [.slice none 0 0]⟩
 | 27 => some ⟨.st [(3, 0, 1), (3, 1, 1), (25, 2, 1)], 3, 40, [.int .i64 0, .int .i64 0, .slice none 0 0]⟩
 | 29 => some ⟨.sl 63, 1, 24, [.slice none 0 0]⟩
 | 31 => some ⟨.st [(29, 0, 1)], 1, 24, [.slice none 0 0]⟩
 | 33 => some ⟨.sl 85, 1, 24, [.slice none 0 0]⟩
 | 35 => some ⟨.st [(33, 0, 1)], 1, 24, [.slice none 0 0]⟩
 | 38 => some ⟨.st [(4, 0, 1), (4, 1, 1), (3, 2, 1)], 3, 16, [.bool false, .bool false, .int .i64 0]⟩
 | 40 => some ⟨.sl 67, 1, 24, [.slice none 0 0]⟩
 | 43 => some ⟨.oth, 1, 8, [.nilFunc]⟩
 | 44 => some ⟨.sl 54, 1, 24, [.slice none 0 0]⟩
 | 45 => some ⟨.int .i64, 1, 8, [.int .i64 0]⟩
 | 52 => some ⟨.arr 22 3, 22, 176, [.int .i64 0, .int .i64 0, .int .i64 0, .int .i64 0, .int .i64 0, .int .i64 0, .int .i64 0, .int .i64 0, .int .i64 0, .int .i64 0, .int .i64 0, .int .i64 0, .int .i64 0, .int .i64 0, .int .i64 0, .int .i64 0, .int .i64 0, .int .i64 0, .int .i64 0, .int .i64 0, .int .i64 0, .int .i64 0]⟩
 | 54 => some ⟨.st [(3, 0, 1), (52, 1, 22)], 23, 184, [.int .i64 0, .int .i64 0, .int .i64 0, .int .i64 0, .int .i64 0, .int .i64 0, .int .i64 0, .int .i64 0, .int .i64 0, .int .i64 0, .int .i64 0, .int .i64 0, .int .i64 0, .int .i64 0, .int .i64 0, .int .i64 0, .int .i64 0, .int .i64 0, .int .i64 0, .int .i64 0, .int .i64 0, .int .i64 0, .int .i64 0]⟩
 | 55 => some ⟨.sl 172, 1, 24, [.slice none 0 0]⟩
 | 56 => some ⟨.sl 159, 1, 24, [.slice none 0 0]⟩
 | 58 => some ⟨.st [(3, 0, 1), (3, 1, 1), (3, 2, 1), (9, 3, 1), (55, 4, 1), (56, 5, 1), (22, 6, 1)], 7, 112, [.int .i64 0, .int .i64 0, .int .i64 0, .string ⟨#[]⟩, .slice none 0 0, .slice none 0 0, .slice none 0 0]⟩
 | 61 => some ⟨.sl 81, 1, 24, [.slice none 0 0]⟩
 | 63 => some ⟨.st [(3, 0, 1), (9, 1, 1), (3, 2, 1), (3, 3, 1), (9, 4, 1), (61, 5, 1)], 6, 80, [.int .i64 0, .string ⟨#[]⟩, .int .i64 0, .int .i64 0, .string ⟨#[]⟩, .slice none 0 0]⟩
 | 67 => some ⟨.st [(3, 0, 1), (3, 1, 1)], 2, 16, [.int .i64 0, .int .i64 0]⟩
 | 68 => some ⟨.sl 70, 1, 24, [.slice none 0 0]⟩
 | 70 => some ⟨.st [(3, 0, 1), (9, 1, 1), (55, 2, 1), (56, 3, 1), (68, 4, 1)], 5, 96, [.int .i64 0, .string ⟨#[]⟩, .slice none 0 0, .slice none 0 0, .slice none 0 0]⟩
 | 78 => some ⟨.st [(22, 0, 1), (3, 1, 1)], 2, 32, [.slice none 0 0, .int .i64 0]⟩
 | 81 => some ⟨.st [(3, 0, 1), (3, 1, 1), (3, 2, 1), (9, 3, 1)], 4, 40, [.int .i64 0, .int .i64 0, .int .i64 0, .string ⟨#[]⟩]⟩
 | 83 => some ⟨.sl 9, 1, 24, [.slice none 0 0]⟩
 | 85 => some ⟨.st [(9, 0, 1), (3, 1, 1), (3, 2, 1), (3, 3, 1), (3, 4, 1)], 5, 48, [.string ⟨#[]⟩, .int .i64 0, .int .i64 0, .int .i64 0, .int .i64 0]⟩
 | 88 => some ⟨.mp 3 58, 1, 8, [.map none]⟩
 | 89 => some ⟨.mp 3 9, 1, 8, [.map none]⟩
 | 90 => some ⟨.mp 3 3, 1, 8, [.map none]⟩
 | 92 => some ⟨.st [(88, 0, 1), (89, 1, 1), (90, 2, 1)], 3, 24, [.map none, .map none, .map none]⟩
 | 95 => some ⟨.st [(92, 0, 3), (29, 3, 1), (22, 4, 1), (35, 5, 1), (38, 6, 3)], 9, 112, [.map none, .map none, .map none, .slice none 0 0, .slice none 0 0, .slice none 0 0, .bool false, .bool false, .int .i64 0]⟩
 | 97 => some ⟨.arr 2 3, 2, 16, [.int .i64 0, .int .i64 0]⟩
 | 100 => some ⟨.mp 3 52, 1, 8, [.map none]⟩
 | 111 => some ⟨.st [(4, 0, 1), (3, 1, 1), (3, 2, 1), (3, 3, 1)], 4, 32, [.bool false, .int .i64 0, .int .i64 0, .int .i64 0]⟩
 | 112 => some ⟨.arr 22 111, 88, 704, [.bool false, .int .i64 0, .int .i64 0, .int .i64 0, .bool false, .int .i64 0, .int .i64 0, .int .i64 0, .bool false, .int .i64 0, .int .i64 0, .int .i64 0, .bool false, .int .i64 0, .int .i64 0, .int .i64 0, .bool false, .int .i64 0, .int .i64 0, .int .i64 0, .bool false, .int .i64 0, .int .i64 0, .int .i64 0, .bool false, .int .i64 0, .int .i64 0, .int .i64 0, .bool false, .int .i64 0, .int .i64 0, .int .i64 0, .bool false, .int .i64 0, .int .i64 0, .int .i64 0, .bool false, .int .i64 0, .int .i64 0, .int .i64 0, .bool false, .int .i64 0, .int .i64 0, .int .i64 0, .bool false, .int .i64 0, .int .i64 0, .int .i64 0, .bool false, .int .i64 0, .int .i64 0, .int .i64 0, .bool false, .int .i64 0, .int .i64 0, .int .i64 0, .bool false, .int .i64 0, .int .i64 0, .int .i64 0, .bool false, .int .i64 0, .int .i64 0, .int .i64 0, .bool false, .int .i64 0, .int .i64 0, .int .i64 0, .bool false, .int .i64 0, .int .i64 0, .int .i64 0, .bool false, .int .i64 0, .int .i64 0, .int .i64 0, .bool false, .int .i64 0, .int .i64 0, .int .i64 0, .bool false, .int .i64 0, .int .i64 0, .int .i64 0, .bool false, .int .i64 0, .int .i64 0, .int .i64 0]⟩
 | 122 => some ⟨.mp 3 4, 1, 8, [.map none]⟩
 | 126 => some ⟨.mp 9 4, 1, 8, [.map none]⟩
 | 127 => some ⟨.arr 4 3, 4, 32, [.int .i64 0, .int .i64 0, .int .i64 0, .int .i64 0]⟩
 | 130 => some ⟨.oth, 1, 8, [.nilFunc]⟩
 | 133 => some ⟨.arr 2 9, 2, 32, [.string ⟨#[]⟩, .string ⟨#[]⟩]⟩
 | 137 => some ⟨.mp 3 81, 1, 8, [.map none]⟩
 | 150 => some ⟨.sl 152, 1, 24, [.slice none 0 0]⟩
 | 152 => some ⟨.st [(3, 0, 1), (3, 1, 1), (9, 2, 1), (150, 3, 1)], 4, 56, [.int .i64 0, .int .i64 0, .string ⟨#[]⟩, .slice none 0 0]⟩
 | 159 => some ⟨.st [(9, 0, 1), (9, 1, 1), (9, 2, 1), (150, 3, 1)], 4, 72, [.string ⟨#[]⟩, .string ⟨#[]⟩, .string ⟨#[]⟩, .slice none 0 0]⟩
 | 160 => some ⟨.sl 5, 1, 24, [.slice none 0 0]⟩
 | 164 => some ⟨.oth, 1, 8, [.nilFunc]⟩
 | 165 => some ⟨.oth, 1, 8, [.nilFunc]⟩
 | 172 => some ⟨.st [(9, 0, 1), (152, 1, 4)], 5, 72, [.string ⟨#[]⟩, .int .i64 0, .int .i64 0, .string ⟨#[]⟩, .slice none 0 0]⟩
 | 175 => some ⟨.oth, 1, 8, [.pointer none]⟩
 | 177 => some ⟨.sl 21, 1, 24, [.slice none 0 0]⟩
 | 188 => some ⟨.sl 190, 1, 24, [.slice none 0 0]⟩
 | 190 => some ⟨.st [(3, 0, 1), (188, 1, 1)], 2, 32, [.int .i64 0, .slice none 0 0]⟩
 | 204 => some ⟨.arr 256 5, 256, 256, [.int .u8 0, .int .u8 0, .int .u8 0, .int .u8 0, .int .u8 0, .int .u8 0, .int .u8 0, .int .u8 0, .int .u8 0, .int .u8 0, .int .u8 0, .int .u8 0, .int .u8 0, .int .u8 0, .int .u8 0, .int .u8 0, .int .u8 0, .int .u8 0, .int .u8 0, .int .u8 0, .int .u8 0, .int .u8 0, .int .u8 0, .int .u8 0, .int .u8 0, .int .u8 0, .int .u8 0, .int .u8 0, .int .u8 0, .int .u8 0, .int .u8 0, .int .u8 0, .int .u8 0, .int .u8 0, .int .u8 0, .int .u8 0, .int .u8 0, .int .u8 0, .int .u8 0, .int .u8 0, .int .u8 0, .int .u8 0, .int .u8 0, .int .u8 0, .int .u8 0, .int .u8 0, .int .u8 0, .int .u8 0, .int .u8 0, .int .u8 0, .int .u8 0, .int .u8 0, .int .u8 0, .int .u8 0, .int .u8 0, .int .u8 0, .int .u8 0, .int .u8 0, .int .u8 0, .int .u8 0, .int .u8 0, .int .u8 0, .int .u8 0, .int .u8 0, .int .u8 0, .int .u8 0, .int .u8 0, .int .u8 0, .int .u8 0, .int .u8 0, .int .u8 0, .int .u8 0, .int .u8 0, .int .u8 0, .int .u8 0, .int .u8 0, .int .u8 0, .int .u8 0, .int .u8 0, .int .u8 0, .int .u8 0, .int .u8 0, .int .u8 0, .int .u8 0, .int .u8 0, .int .u8 0, .int .u8 0, .int .u8 0, .int .u8 0, .int .u8 0, .int .u8 0, .int .u8 0, .int .u8 0, .int .u8 0, .int .u8 0, .int .u8 0, .int .u8 0, .int .u8 0, .int .u8 0, .int .u8 0, .int .u8 0, .int .u8 0, .int .u8 0, .int .u8 0, .int .u8 0, .int .u8 0, .int .u8 0, .int .u8 0, .int .u8 0, .int .u8 0, .int .u8 0, .int .u8 0, .int .u8 0, .int .u8 0, .int .u8 0, .int .u8 0, .int .u8 0, .int .u8 0, .int .u8 0, .int .u8 0, .int .u8 0, .int .u8 0, .int .u8 0, .int .u8 0, .int .u8 0, .int .u8 0, .int .u8 0, .int .u8 0, .int .u8 0, .int .u8 0, .int .u8 0, .int .u8 0, .int .u8 0, .int .u8 0, .int .u8 0, .int .u8 0, .int .u8 0, .int .u8 0, .int .u8 0, .int .u8 0, .int .u8 0, .int .u8 0, .int .u8 0, .int .u8 0, .int .u8 0, .int .u8 0, .int .u8 0, .int .u8 0, .int .u8 0, .int .u8 0, .int .u8 0, .int .u8 0, .int .u8 0, .int .u8 0, .int .u8 0, .int .u8 0, .int .u8 0, .int .u8 0, .int .u8 0, .int .u8 0, .int .u8 0, .int .u8 0, .int .u8 0, .int .u8 0, .int .u8 0, .int .u8 0, .int .u8 0, .int .u8 0, .int .u8 0, .int .u8 0, .int .u8 0, .int .u8 0, .int .u8 0, .int .u8 0, .int .u8 0, .int .u8 0, .int .u8 0, .int .u8 0, .int .u8 0, .int .u8 0, .int .u8 0, .int .u8 0, .int .u8 0, .int .u8 0, .int .u8 0, .int .u8 0, .int .u8 0, .int .u8 0, .int .u8 0, .int .u8 0, .int .u8 0, .int .u8 0, .int .u8 0, .int .u8 0, .int .u8 0, .int .u8 0, .int .u8 0, .int .u8 0, .int .u8 0, .int .u8 0, .int .u8 0, .int .u8 0, .int .u8 0, .int .u8 0, .int .u8 0, .int .u8 0, .int .u8 0, .int .u8 0, .int .u8 0, .int .u8 0, .int .u8 0, .int .u8 0, .int .u8 0, .int .u8 0, .int .u8 0, .int .u8 0, .int .u8 0, .int .u8 0, .int .u8 0, .int .u8 0, .int .u8 0, .int .u8 0, .int .u8 0, .int .u8 0, .int .u8 0, .int .u8 0, .int .u8 0, .int .u8 0, .int .u8 0, .int .u8 0, .int .u8 0, .int .u8 0, .int .u8 0, .int .u8 0, .int .u8 0, .int .u8 0, .int .u8 0, .int .u8 0, .int .u8 0, .int .u8 0, .int .u8 0, .int .u8 0, .int .u8 0, .int .u8 0, .int .u8 0, .int .u8 0, .int .u8 0, .int .u8 0, .int .u8 0, .int .u8 0, .int .u8 0, .int .u8 0, .int .u8 0, .int .u8 0, .int .u8 0, .int .u8 0]⟩
 | 206 => some ⟨.st [(5, 0, 1), (5, 1, 1)], 2, 2, [.int .u8 0, .int .u8 0]⟩
 | 207 => some ⟨.arr 16 206, 32, 32, [.int .u8 0, .int .u8 0, .int .u8 0, .int .u8 0, .int .u8 0, .int .u8 0, .int .u8 0, .int .u8 0, .int .u8 0, .int .u8 0, .int .u8 0, .int .u8 0, .int .u8 0, .int .u8 0, .int .u8 0, .int .u8 0, .int .u8 0, .int .u8 0, .int .u8 0, .int .u8 0, .int .u8 0, .int .u8 0, .int .u8 0, .int .u8 0, .int .u8 0, .int .u8 0, .int .u8 0, .int .u8 0, .int .u8 0, .int .u8 0, .int .u8 0, .int .u8 0]⟩
 | 208 => some ⟨.int .u64, 1, 8, [.int .u64 0]⟩
 | _ => none
theorem ti3 : eZ Tryz.prog 3 = dA 3 := by kernel_rfl
theorem ti4 : eZ Tryz.prog 4 = dA 4 := by kernel_rfl
theorem ti5 : eZ Tryz.prog 5 = dA 5 := by kernel_rfl
theorem ti9 : eZ Tryz.prog 9 = dA 9 := by kernel_rfl
theorem ti12 : eZ Tryz.prog 12 = dA 12 := by kernel_rfl
theorem ti21 : eZ Tryz.prog 21 = dA 21 := by kernel_rfl
theorem ti22 : eZ Tryz.prog 22 = dA 22 := by kernel_rfl
theorem ti23 : eZ Tryz.prog 23 = dA 23 := by kernel_rfl
theorem ti25 : eZ Tryz.prog 25 = dA 25 := by kernel_rfl
theorem ti27 : eZ Tryz.prog 27 = dA 27 := by kernel_rfl
theorem ti29 : eZ Tryz.prog 29 = dA 29 := by kernel_rfl
theorem ti31 : eZ Tryz.prog 31 = dA 31 := by kernel_rfl
theorem ti33 : eZ Tryz.prog 33 = dA 33 := by kernel_rfl
theorem ti35 : eZ Tryz.prog 35 = dA 35 := by kernel_rfl
theorem ti38 : eZ Tryz.prog 38 = dA 38 := by kernel_rfl
theorem ti40 : eZ Tryz.prog 40 = dA 40 := by kernel_rfl
theorem ti43 : eZ Tryz.prog 43 = dA 43 := by kernel_rfl
theorem ti44 : eZ Tryz.prog 44 = dA 44 := by kernel_rfl
theorem ti45 : eZ Tryz.prog 45 = dA 45 := by kernel_rfl
theorem ti52 : eZ Tryz.prog 52 = dA 52 := by kernel_rfl
theorem ti54 : eZ Tryz.prog 54 = dA 54 := by kernel_rfl
theorem ti55 : eZ Tryz.prog 55 = dA 55 := by kernel_rfl
theorem ti56 : eZ Tryz.prog 56 = dA 56 := by kernel_rfl
theorem ti58 : eZ Tryz.prog 58 = dA 58 := by kernel_rfl
theorem ti61 : eZ Tryz.prog 61 = dA 61 := by kernel_rfl
theorem ti63 : eZ Tryz.prog 63 = dA 63 := by kernel_rfl
theorem ti67 : eZ Tryz.prog 67 = dA 67 := by kernel_rfl
theorem ti68 : eZ Tryz.prog 68 = dA 68 := by kernel_rfl
theorem ti70 : eZ Tryz.prog 70 = dA 70 := by kernel_rfl
theorem ti78 : eZ Tryz.prog 78 = dA 78 := by kernel_rfl
theorem ti81 : eZ Tryz.prog 81 = dA 81 := by kernel_rfl
theorem ti83 : eZ Tryz.prog 83 = dA 83 := by kernel_rfl
theorem ti85 : eZ Tryz.prog 85 = dA 85 := by kernel_rfl
theorem ti88 : eZ Tryz.prog 88 = dA 88 := by kernel_rfl
theorem ti89 : eZ Tryz.prog 89 = dA 89 := by kernel_rfl
theorem ti90 : eZ Tryz.prog 90 = dA 90 := by kernel_rfl
theorem ti92 : eZ Tryz.prog 92 = dA 92 := by kernel_rfl
theorem ti95 : eZ Tryz.prog 95 = dA 95 := by kernel_rfl
theorem ti97 : eZ Tryz.prog 97 = dA 97 := by kernel_rfl
theorem ti100 : eZ Tryz.prog 100 = dA 100 := by kernel_rfl
theorem ti111 : eZ Tryz.prog 111 = dA 111 := by kernel_rfl
theorem ti112 : eZ Tryz.prog 112 = dA 112 := by kernel_rfl
theorem ti122 : eZ Tryz.prog 122 = dA 122 := by kernel_rfl
theorem ti126 : eZ Tryz.prog 126 = dA 126 := by kernel_rfl
theorem ti127 : eZ Tryz.prog 127 = dA 127 := by kernel_rfl
theorem ti130 : eZ Tryz.prog 130 = dA 130 := by kernel_rfl
theorem ti133 : eZ Tryz.prog 133 = dA 133 := by kernel_rfl
theorem ti137 : eZ Tryz.prog 137 = dA 137 := by kernel_rfl
theorem ti150 : eZ Tryz.prog 150 = dA 150 := by kernel_rfl
theorem ti152 : eZ Tryz.prog 152 = dA 152 := by kernel_rfl
theorem ti159 : eZ Tryz.prog 159 = dA 159 := by kernel_rfl
theorem ti160 : eZ Tryz.prog 160 = dA 160 := by kernel_rfl
theorem ti164 : eZ Tryz.prog 164 = dA 164 := by kernel_rfl
theorem ti165 : eZ Tryz.prog 165 = dA 165 := by kernel_rfl
theorem ti172 : eZ Tryz.prog 172 = dA 172 := by kernel_rfl
theorem ti175 : eZ Tryz.prog 175 = dA 175 := by kernel_rfl
theorem ti177 : eZ Tryz.prog 177 = dA 177 := by kernel_rfl
theorem ti188 : eZ Tryz.prog 188 = dA 188 := by kernel_rfl
theorem ti190 : eZ Tryz.prog 190 = dA 190 := by kernel_rfl
theorem ti204 : eZ Tryz.prog 204 = dA 204 := by kernel_rfl
theorem ti206 : eZ Tryz.prog 206 = dA 206 := by kernel_rfl
theorem ti207 : eZ Tryz.prog 207 = dA 207 := by kernel_rfl
theorem ti208 : eZ Tryz.prog 208 = dA 208 := by kernel_rfl
theorem tiTab_ok (T : TypeId) (i : TI) (h : dA T = some i) : i.ok Tryz.prog T := by
 unfold dA at h
 split at h
 ·exact bU (ti3.trans h)
 ·exact bU (ti4.trans h)
 ·exact bU (ti5.trans h)
 ·exact bU (ti9.trans h)
 ·exact bU (ti12.trans h)
 ·exact bU (ti21.trans h)
 ·exact bU (ti22.trans h)
 ·exact bU (ti23.trans h)
 ·exact bU (ti25.trans h)
 ·exact bU (ti27.trans h)
 ·exact bU (ti29.trans h)
 ·exact bU (ti31.trans h)
 ·exact bU (ti33.trans h)
 ·exact bU (ti35.trans h)
 ·exact bU (ti38.trans h)
 ·exact bU (ti40.trans h)
 ·exact bU (ti43.trans h)
 ·exact bU (ti44.trans h)
 ·exact bU (ti45.trans h)
 ·exact bU (ti52.trans h)
 ·exact bU (ti54.trans h)
 ·exact bU (ti55.trans h)
 ·exact bU (ti56.trans h)
 ·exact bU (ti58.trans h)
 ·exact bU (ti61.trans h)
 ·exact bU (ti63.trans h)
 ·exact bU (ti67.trans h)
 ·exact bU (ti68.trans h)
 ·exact bU (ti70.trans h)
 ·exact bU (ti78.trans h)
 ·exact bU (ti81.trans h)
 ·exact bU (ti83.trans h)
 ·exact bU (ti85.trans h)
 ·exact bU (ti88.trans h)
 ·exact bU (ti89.trans h)
 ·exact bU (ti90.trans h)
 ·exact bU (ti92.trans h)
 ·exact bU (ti95.trans h)
 ·exact bU (ti97.trans h)
 ·exact bU (ti100.trans h)
 ·exact bU (ti111.trans h)
 ·exact bU (ti112.trans h)
 ·exact bU (ti122.trans h)
 ·exact bU (ti126.trans h)
 ·exact bU (ti127.trans h)
 ·exact bU (ti130.trans h)
 ·exact bU (ti133.trans h)
 ·exact bU (ti137.trans h)
 ·exact bU (ti150.trans h)
 ·exact bU (ti152.trans h)
 ·exact bU (ti159.trans h)
 ·exact bU (ti160.trans h)
 ·exact bU (ti164.trans h)
 ·exact bU (ti165.trans h)
 ·exact bU (ti172.trans h)
 ·exact bU (ti175.trans h)
 ·exact bU (ti177.trans h)
 ·exact bU (ti188.trans h)
 ·exact bU (ti190.trans h)
 ·exact bU (ti204.trans h)
 ·exact bU (ti206.trans h)
 ·exact bU (ti207.trans h)
 ·exact bU (ti208.trans h)
 ·cases h
def bE : List cU := [⟨true, 0, 16777215, 0⟩, ⟨false, (-1), 16777215, (-1)⟩, ⟨true, 1, 1000, 16⟩, ⟨true, 0, 7, 0⟩, ⟨true, 0, 1, 0⟩, ⟨false, 0, 4, 1⟩, ⟨false, 0, 4, 3⟩, ⟨false, 0, 3, 0⟩, ⟨true, 0, 2, 0⟩, ⟨false, 0, 1048576, 0⟩, ⟨false, 0, 1000, 0⟩, ⟨false, 0, 1000, 1⟩, ⟨false, (-1), 1048576, (-1)⟩, ⟨false, 0, 1048576, 0⟩, ⟨false, 0, 1048576, 1048576⟩, ⟨false, 0, 1048576, 0⟩, ⟨false, 0, 1048576, 1048576⟩, ⟨false, 0, 1048576, 0⟩, ⟨false, 0, 1048576, 0⟩, ⟨false, 0, 1048576, 0⟩, ⟨false, 0, 1048576, 0⟩, ⟨true, 0, 1, 0⟩]
def iW : List Int := (Pinned.utf8FirstZ.map Int.ofNat)
def dO : List cJ := [⟨128, 191⟩, ⟨160, 191⟩, ⟨128, 159⟩, ⟨144, 191⟩, ⟨128, 143⟩, ⟨0, 0⟩, ⟨0, 0⟩, ⟨0, 0⟩, ⟨0, 0⟩, ⟨0, 0⟩, ⟨0, 0⟩, ⟨0, 0⟩, ⟨0, 0⟩, ⟨0, 0⟩, ⟨0, 0⟩, ⟨0, 0⟩]
def Vd : Nat → Option (List CV)
 | 0 => some (List.flatten (List.map kF bE))
 | 1 => some (List.flatten (List.map Ye iW))
 | 2 => some (List.flatten (List.map kL dO))
 | _ => none
noncomputable def E : oT := ⟨Tryz.prog, dA, tiTab_ok, Vd, by kernel_rfl⟩
theorem fok9 : bX E 9 := ⟨Tryz.f9, Tryz.func9, by kernel_rfl, rfl⟩
theorem fok11 : bX E 11 := ⟨Tryz.f11, Tryz.func11, by kernel_rfl, rfl⟩
theorem fok12 : bX E 12 := ⟨Tryz.f12, Tryz.func12, by kernel_rfl, rfl⟩
theorem fok13 : bX E 13 := ⟨Tryz.f13, Tryz.func13, by kernel_rfl, rfl⟩
theorem fok14 : bX E 14 := ⟨Tryz.f14, Tryz.func14, by kernel_rfl, rfl⟩
theorem cK : bX E 15 := ⟨Tryz.f15, Tryz.func15, by kernel_rfl, rfl⟩
theorem Vy : bX E 16 := ⟨Tryz.f16, Tryz.func16, by kernel_rfl, rfl⟩
theorem aA2 : bX E 17 := ⟨Tryz.f17, Tryz.func17, by kernel_rfl, rfl⟩
theorem fok18 : bX E 18 := ⟨Tryz.f18, Tryz.func18, by kernel_rfl, rfl⟩
theorem fok19 : bX E 19 := ⟨Tryz.f19, Tryz.func19, by kernel_rfl, rfl⟩
theorem fok20 : bX E 20 := ⟨Tryz.f20, Tryz.func20, by kernel_rfl, rfl⟩
theorem fok21 : bX E 21 := ⟨Tryz.f21, Tryz.func21, by kernel_rfl, rfl⟩
theorem fok26 : bX E 26 := ⟨Tryz.f26, Tryz.func26, by kernel_rfl, rfl⟩
theorem fok27 : bX E 27 := ⟨Tryz.f27, Tryz.func27, by kernel_rfl, rfl⟩
theorem fok28 : bX E 28 := ⟨Tryz.f28, Tryz.func28, by kernel_rfl, rfl⟩
theorem fok29 : bX E 29 := ⟨Tryz.f29, Tryz.func29, by kernel_rfl, rfl⟩
theorem fok30 : bX E 30 := ⟨Tryz.f30, Tryz.func30, by kernel_rfl, rfl⟩
theorem fok31 : bX E 31 := ⟨Tryz.f31, Tryz.func31, by kernel_rfl, rfl⟩
theorem fok32 : bX E 32 := ⟨Tryz.f32, Tryz.func32, by kernel_rfl, rfl⟩
theorem fok33 : bX E 33 := ⟨Tryz.f33, Tryz.func33, by kernel_rfl, rfl⟩
theorem fok34 : bX E 34 := ⟨Tryz.f34, Tryz.func34, by kernel_rfl, rfl⟩
theorem fok35 : bX E 35 := ⟨Tryz.f35, Tryz.func35, by kernel_rfl, rfl⟩
theorem fok36 : bX E 36 := ⟨Tryz.f36, Tryz.func36, by kernel_rfl, rfl⟩
theorem fok37 : bX E 37 := ⟨Tryz.f37, Tryz.func37, by kernel_rfl, rfl⟩
theorem fok38 : bX E 38 := ⟨Tryz.f38, Tryz.func38, by kernel_rfl, rfl⟩
theorem fok39 : bX E 39 := ⟨Tryz.f39, Tryz.func39, by kernel_rfl, rfl⟩
theorem fok40 : bX E 40 := ⟨Tryz.f40, Tryz.func40, by kernel_rfl, rfl⟩
theorem fok41 : bX E 41 := ⟨Tryz.f41, Tryz.func41, by kernel_rfl, rfl⟩
theorem fok42 : bX E 42 := ⟨Tryz.f42, Tryz.func42, by kernel_rfl, rfl⟩
theorem fok43 : bX E 43 := ⟨Tryz.f43, Tryz.func43, by kernel_rfl, rfl⟩
theorem fok44 : bX E 44 := ⟨Tryz.f44, Tryz.func44, by kernel_rfl, rfl⟩
theorem Kv : bX E 45 := ⟨Tryz.f45, Tryz.func45, by kernel_rfl, rfl⟩
theorem fok46 : bX E 46 := ⟨Tryz.f46, Tryz.func46, by kernel_rfl, rfl⟩
theorem fok47 : bX E 47 := ⟨Tryz.f47, Tryz.func47, by kernel_rfl, rfl⟩
theorem fok48 : bX E 48 := ⟨Tryz.f48, Tryz.func48, by kernel_rfl, rfl⟩
theorem fok49 : bX E 49 := ⟨Tryz.f49, Tryz.func49, by kernel_rfl, rfl⟩
theorem Yp : bX E 50 := ⟨Tryz.f50, Tryz.func50, by kernel_rfl, rfl⟩
theorem fok51 : bX E 51 := ⟨Tryz.f51, Tryz.func51, by kernel_rfl, rfl⟩
theorem fok52 : bX E 52 := ⟨Tryz.f52, Tryz.func52, by kernel_rfl, rfl⟩
theorem Vc : bX E 53 := ⟨Tryz.f53, Tryz.func53, by kernel_rfl, rfl⟩
theorem fok54 : bX E 54 := ⟨Tryz.f54, Tryz.func54, by kernel_rfl, rfl⟩
theorem fok57 : bX E 57 := ⟨Tryz.f57, Tryz.func57, by kernel_rfl, rfl⟩
theorem fok58 : bX E 58 := ⟨Tryz.f58, Tryz.func58, by kernel_rfl, rfl⟩
theorem Wg : bX E 59 := ⟨Tryz.f59, Tryz.func59, by kernel_rfl, rfl⟩
theorem fok60 : bX E 60 := ⟨Tryz.f60, Tryz.func60, by kernel_rfl, rfl⟩
theorem fok61 : bX E 61 := ⟨Tryz.f61, Tryz.func61, by kernel_rfl, rfl⟩
theorem fok62 : bX E 62 := ⟨Tryz.f62, Tryz.func62, by kernel_rfl, rfl⟩
theorem fok63 : bX E 63 := ⟨Tryz.f63, Tryz.func63, by kernel_rfl, rfl⟩
theorem fok64 : bX E 64 := ⟨Tryz.f64, Tryz.func64, by kernel_rfl, rfl⟩
theorem Yo : bX E 65 := ⟨Tryz.f65, Tryz.func65, by kernel_rfl, rfl⟩
theorem Hg : bX E 66 := ⟨Tryz.f66, Tryz.func66, by kernel_rfl, rfl⟩
theorem fok67 : bX E 67 := ⟨Tryz.f67, Tryz.func67, by kernel_rfl, rfl⟩
theorem fok68 : bX E 68 := ⟨Tryz.f68, Tryz.func68, by kernel_rfl, rfl⟩
theorem fok69 : bX E 69 := ⟨Tryz.f69, Tryz.func69, by kernel_rfl, rfl⟩
theorem fok70 : bX E 70 := ⟨Tryz.f70, Tryz.func70, by kernel_rfl, rfl⟩
theorem fok71 : bX E 71 := ⟨Tryz.f71, Tryz.func71, by kernel_rfl, rfl⟩
theorem fok72 : bX E 72 := ⟨Tryz.f72, Tryz.func72, by kernel_rfl, rfl⟩
theorem fok73 : bX E 73 := ⟨Tryz.f73, Tryz.func73, by kernel_rfl, rfl⟩
theorem fok74 : bX E 74 := ⟨Tryz.f74, Tryz.func74, by kernel_rfl, rfl⟩
theorem fok75 : bX E 75 := ⟨Tryz.f75, Tryz.func75, by kernel_rfl, rfl⟩
theorem fok76 : bX E 76 := ⟨Tryz.f76, Tryz.func76, by kernel_rfl, rfl⟩
theorem fok77 : bX E 77 := ⟨Tryz.f77, Tryz.func77, by kernel_rfl, rfl⟩
theorem fok78 : bX E 78 := ⟨Tryz.f78, Tryz.func78, by kernel_rfl, rfl⟩
theorem fok79 : bX E 79 := ⟨Tryz.f79, Tryz.func79, by kernel_rfl, rfl⟩
theorem Zy : bX E 80 := ⟨Tryz.f80, Tryz.func80, by kernel_rfl, rfl⟩
theorem fok81 : bX E 81 := ⟨Tryz.f81, Tryz.func81, by kernel_rfl, rfl⟩
theorem fok82 : bX E 82 := ⟨Tryz.f82, Tryz.func82, by kernel_rfl, rfl⟩
theorem fok83 : bX E 83 := ⟨Tryz.f83, Tryz.func83, by kernel_rfl, rfl⟩
theorem fok84 : bX E 84 := ⟨Tryz.f84, Tryz.func84, by kernel_rfl, rfl⟩
theorem fok85 : bX E 85 := ⟨Tryz.f85, Tryz.func85, by kernel_rfl, rfl⟩
theorem fok86 : bX E 86 := ⟨Tryz.f86, Tryz.func86, by kernel_rfl, rfl⟩
theorem fok87 : bX E 87 := ⟨Tryz.f87, Tryz.func87, by kernel_rfl, rfl⟩
theorem fok88 : bX E 88 := ⟨Tryz.f88, Tryz.func88, by kernel_rfl, rfl⟩
theorem Wk : bX E 89 := ⟨Tryz.f89, Tryz.func89, by kernel_rfl, rfl⟩
theorem fok90 : bX E 90 := ⟨Tryz.f90, Tryz.func90, by kernel_rfl, rfl⟩
theorem fok91 : bX E 91 := ⟨Tryz.f91, Tryz.func91, by kernel_rfl, rfl⟩
theorem fok92 : bX E 92 := ⟨Tryz.f92, Tryz.func92, by kernel_rfl, rfl⟩
theorem fok93 : bX E 93 := ⟨Tryz.f93, Tryz.func93, by kernel_rfl, rfl⟩
theorem fok94 : bX E 94 := ⟨Tryz.f94, Tryz.func94, by kernel_rfl, rfl⟩
theorem fok95 : bX E 95 := ⟨Tryz.f95, Tryz.func95, by kernel_rfl, rfl⟩
theorem fok96 : bX E 96 := ⟨Tryz.f96, Tryz.func96, by kernel_rfl, rfl⟩
theorem fok97 : bX E 97 := ⟨Tryz.f97, Tryz.func97, by kernel_rfl, rfl⟩
theorem fok98 : bX E 98 := ⟨Tryz.f98, Tryz.func98, by kernel_rfl, rfl⟩
theorem fok99 : bX E 99 := ⟨Tryz.f99, Tryz.func99, by kernel_rfl, rfl⟩
theorem fok100 : bX E 100 := ⟨Tryz.f100, Tryz.func100, by kernel_rfl, rfl⟩
theorem fok101 : bX E 101 := ⟨Tryz.f101, Tryz.func101, by kernel_rfl, rfl⟩
theorem Zf : bX E 102 := ⟨Tryz.f102, Tryz.func102, by kernel_rfl, rfl⟩
theorem Yn : bX E 104 := ⟨Tryz.f104, Tryz.func104, by kernel_rfl, rfl⟩
theorem fok105 : bX E 105 := ⟨Tryz.f105, Tryz.func105, by kernel_rfl, rfl⟩
theorem fok106 : bX E 106 := ⟨Tryz.f106, Tryz.func106, by kernel_rfl, rfl⟩
theorem fok107 : bX E 107 := ⟨Tryz.f107, Tryz.func107, by kernel_rfl, rfl⟩
theorem zN : bX E 108 := ⟨Tryz.f108, Tryz.func108, by kernel_rfl, rfl⟩
theorem fok109 : bX E 109 := ⟨Tryz.f109, Tryz.func109, by kernel_rfl, rfl⟩
theorem Oc : bX E 110 := ⟨Tryz.f110, Tryz.func110, by kernel_rfl, rfl⟩
theorem fok111 : bX E 111 := ⟨Tryz.f111, Tryz.func111, by kernel_rfl, rfl⟩
theorem fok112 : bX E 112 := ⟨Tryz.f112, Tryz.func112, by kernel_rfl, rfl⟩
theorem fok113 : bX E 113 := ⟨Tryz.f113, Tryz.func113, by kernel_rfl, rfl⟩
theorem fok114 : bX E 114 := ⟨Tryz.f114, Tryz.func114, by kernel_rfl, rfl⟩
theorem fok115 : bX E 115 := ⟨Tryz.f115, Tryz.func115, by kernel_rfl, rfl⟩
theorem Hu : bX E 116 := ⟨Tryz.f116, Tryz.func116, by kernel_rfl, rfl⟩
theorem Nu : bX E 117 := ⟨Tryz.f117, Tryz.func117, by kernel_rfl, rfl⟩
theorem Dj : bX E 118 := ⟨Tryz.f118, Tryz.func118, by kernel_rfl, rfl⟩
theorem fok119 : bX E 119 := ⟨Tryz.f119, Tryz.func119, by kernel_rfl, rfl⟩
theorem fok120 : bX E 120 := ⟨Tryz.f120, Tryz.func120, by kernel_rfl, rfl⟩
theorem Zp : bX E 121 := ⟨Tryz.f121, Tryz.func121, by kernel_rfl, rfl⟩
theorem fok122 : bX E 122 := ⟨Tryz.f122, Tryz.func122, by kernel_rfl, rfl⟩
theorem fok123 : bX E 123 := ⟨Tryz.f123, Tryz.func123, by kernel_rfl, rfl⟩
theorem fok124 : bX E 124 := ⟨Tryz.f124, Tryz.func124, by kernel_rfl, rfl⟩
theorem fok126 : bX E 126 := ⟨Tryz.f126, Tryz.func126, by kernel_rfl, rfl⟩
theorem Zc : bX E 127 := ⟨Tryz.f127, Tryz.func127, by kernel_rfl, rfl⟩
theorem fok128 : bX E 128 := ⟨Tryz.f128, Tryz.func128, by kernel_rfl, rfl⟩
theorem fok129 : bX E 129 := ⟨Tryz.f129, Tryz.func129, by kernel_rfl, rfl⟩
theorem fok130 : bX E 130 := ⟨Tryz.f130, Tryz.func130, by kernel_rfl, rfl⟩
theorem fok131 : bX E 131 := ⟨Tryz.f131, Tryz.func131, by kernel_rfl, rfl⟩
theorem fok132 : bX E 132 := ⟨Tryz.f132, Tryz.func132, by kernel_rfl, rfl⟩
theorem fok133 : bX E 133 := ⟨Tryz.f133, Tryz.func133, by kernel_rfl, rfl⟩
theorem fok134 : bX E 134 := ⟨Tryz.f134, Tryz.func134, by kernel_rfl, rfl⟩
theorem fok135 : bX E 135 := ⟨Tryz.f135, Tryz.func135, by kernel_rfl, rfl⟩
theorem fok137 : bX E 137 := ⟨Tryz.f137, Tryz.func137, by kernel_rfl, rfl⟩
theorem fok138 : bX E 138 := ⟨Tryz.f138, Tryz.func138, by kernel_rfl, rfl⟩
theorem fok139 : bX E 139 := ⟨Tryz.f139, Tryz.func139, by kernel_rfl, rfl⟩
theorem fok140 : bX E 140 := ⟨Tryz.f140, Tryz.func140, by kernel_rfl, rfl⟩
theorem fok141 : bX E 141 := ⟨Tryz.f141, Tryz.func141, by kernel_rfl, rfl⟩
theorem fok142 : bX E 142 := ⟨Tryz.f142, Tryz.func142, by kernel_rfl, rfl⟩
theorem fok143 : bX E 143 := ⟨Tryz.f143, Tryz.func143, by kernel_rfl, rfl⟩
theorem fok144 : bX E 144 := ⟨Tryz.f144, Tryz.func144, by kernel_rfl, rfl⟩
theorem fok145 : bX E 145 := ⟨Tryz.f145, Tryz.func145, by kernel_rfl, rfl⟩
theorem Zn : bX E 146 := ⟨Tryz.f146, Tryz.func146, by kernel_rfl, rfl⟩
theorem Zt : bX E 147 := ⟨Tryz.f147, Tryz.func147, by kernel_rfl, rfl⟩
theorem Yv : bX E 148 := ⟨Tryz.f148, Tryz.func148, by kernel_rfl, rfl⟩
theorem fok149 : bX E 149 := ⟨Tryz.f149, Tryz.func149, by kernel_rfl, rfl⟩
theorem fok150 : bX E 150 := ⟨Tryz.f150, Tryz.func150, by kernel_rfl, rfl⟩
theorem fok151 : bX E 151 := ⟨Tryz.f151, Tryz.func151, by kernel_rfl, rfl⟩
theorem fok152 : bX E 152 := ⟨Tryz.f152, Tryz.func152, by kernel_rfl, rfl⟩
theorem Sl : bX E 153 := ⟨Tryz.f153, Tryz.func153, by kernel_rfl, rfl⟩
theorem fok155 : bX E 155 := ⟨Tryz.f155, Tryz.func155, by kernel_rfl, rfl⟩
end Go.Proofs.YtojkihhnioeggaaGreatDoor.S
