import Derived.Test.YtojkihhnioeggaaGreatDoorQCBE
import Derived.Test.YtojkihhnioeggaaGreatDoorChecked
import GoSem.PinnedTables
set_option linter.unusedVariables false
namespace Go.Proofs.YtojkihhnioeggaaGreatDoor.S
open Go Go.Bm
structure aJ where
 Kind : Int
 N : Int
 S : ByteArray
 L : (List aJ)
instance : Inhabited aJ := ⟨⟨default, default, default, default⟩⟩
mutual
def aP : aJ → List CV
 | ⟨Kind, N, S, L⟩ => [I Kind, I N, Sx S, .lit (Ad L)]
def Ad : List aJ → List (List CV)
 | [] => []
 | x :: l => aP x :: Ad l
end
theorem Cm : ∀ l, Ad l = List.map aP l
 | [] => rfl
 | x :: l => by rw [Ad, Cm l]; rfl
theorem dR (x : aJ) : aP x = [I x.Kind, I x.N, Sx x.S, .lit (List.map aP x.L)] := by
 cases x; simp only [aP, Cm]
structure bF where
 Name : ByteArray
 Value : aJ
instance : Inhabited bF := ⟨⟨default, default⟩⟩
def aM (x : bF) : List CV := [Sx x.Name, I x.Value.Kind, I x.Value.N, Sx x.Value.S, .lit (List.map aP x.Value.L)]
structure cR where
 Event : ByteArray
 Instance : ByteArray
 Handler : ByteArray
 Args : (List aJ)
instance : Inhabited cR := ⟨⟨default, default, default, default⟩⟩
def aF (x : cR) : List CV := [Sx x.Event, Sx x.Instance, Sx x.Handler, .lit (List.map aP x.Args)]
structure aR where
 ID : Int
 Parent : Int
 Kind : Int
 Key : ByteArray
 Attrs : (List bF)
 Actions : (List cR)
 Kids : (List Int)
instance : Inhabited aR := ⟨⟨default, default, default, default, default, default, default⟩⟩
def aE (x : aR) : List CV := [I x.ID, I x.Parent, I x.Kind, Sx x.Key, .lit (List.map aM x.Attrs), .lit (List.map aF x.Actions), .lit (List.map aN x.Kids)]
structure bB where
 Root : Int
 Next : Int
 Nodes : (List aR)
instance : Inhabited bB := ⟨⟨default, default, default⟩⟩
structure bN where
 Prop_ : Int
 Source : Int
 N : Int
 Token : ByteArray
instance : Inhabited bN := ⟨⟨default, default, default, default⟩⟩
def bI (x : bN) : List CV := [I x.Prop_, I x.Source, I x.N, Sx x.Token]
structure bZ where
 Kind : Int
 Class : ByteArray
 States : Int
 UnderKind : Int
 UnderClass : ByteArray
 Decls : (List bN)
instance : Inhabited bZ := ⟨⟨default, default, default, default, default, default⟩⟩
def aY (x : bZ) : List CV := [I x.Kind, Sx x.Class, I x.States, I x.UnderKind, Sx x.UnderClass, .lit (List.map bI x.Decls)]
structure bK where
 Rules : (List bZ)
instance : Inhabited bK := ⟨⟨default⟩⟩
structure dL where
 Name : ByteArray
 Light : Int
 Dark : Int
 HighLight : Int
 HighDark : Int
instance : Inhabited dL := ⟨⟨default, default, default, default, default⟩⟩
def bH (x : dL) : List CV := [Sx x.Name, I x.Light, I x.Dark, I x.HighLight, I x.HighDark]
structure bS where
 Tokens : (List dL)
instance : Inhabited bS := ⟨⟨default⟩⟩
structure cQ where
 Dark : Bool
 High : Bool
 Scale : Int
instance : Inhabited cQ := ⟨⟨default, default, default⟩⟩
structure aT where
 ID : Int
 States : Int
instance : Inhabited aT := ⟨⟨default, default⟩⟩
def aV (x : aT) : List CV := [I x.ID, I x.States]
structure aA where
 x0 : Int
 x1 : Int
 x2 : Int
 x3 : Int
 x4 : Int
 x5 : Int
 x6 : Int
 x7 : Int
 x8 : Int
 x9 : Int
 x10 : Int
 x11 : Int
 x12 : Int
 x13 : Int
 x14 : Int
 x15 : Int
 x16 : Int
 x17 : Int
 x18 : Int
 x19 : Int
 x20 : Int
 x21 : Int
instance : Inhabited aA := ⟨⟨default, default, default, default, default, default, default, default, default, default, default, default, default, default, default, default, default, default, default, default, default, default⟩⟩
def aA.toL (a : aA) : List Int := [a.x0, a.x1, a.x2, a.x3, a.x4, a.x5, a.x6, a.x7, a.x8, a.x9, a.x10, a.x11, a.x12, a.x13, a.x14, a.x15, a.x16, a.x17, a.x18, a.x19, a.x20, a.x21]
def aA.ofL (l : List Int) : aA := ⟨l.getD 0 default, l.getD 1 default, l.getD 2 default, l.getD 3 default, l.getD 4 default, l.getD 5 default, l.getD 6 default, l.getD 7 default, l.getD 8 default, l.getD 9 default, l.getD 10 default, l.getD 11 default, l.getD 12 default, l.getD 13 default, l.getD 14 default, l.getD 15 default, l.getD 16 default, l.getD 17 default, l.getD 18 default, l.getD 19 default, l.getD 20 default, l.getD 21 default⟩
theorem aA.toL_ofL (l : List Int) (h : l.length = 22) : (aA.ofL l).toL = l := by
 refine List.ext_getElem (by simp [aA.toL, h]) fun i h1 h2 => ?_
 have hi : i = 0 ∨ i = 1 ∨ i = 2 ∨ i = 3 ∨ i = 4 ∨ i = 5 ∨ i = 6 ∨ i = 7 ∨ i = 8 ∨ i = 9 ∨ i = 10 ∨ i = 11 ∨ i = 12 ∨ i = 13 ∨ i = 14 ∨ i = 15 ∨ i = 16 ∨ i = 17 ∨ i = 18 ∨ i = 19 ∨ i = 20 ∨ i = 21 := by omega
 rcases hi with rfl | rfl | rfl | rfl | rfl | rfl | rfl | rfl | rfl | rfl | rfl | rfl | rfl | rfl | rfl | rfl | rfl | rfl | rfl | rfl | rfl | rfl <;> simp [aA.toL, aA.ofL, List.getD_eq_getElem?_getD, h2]
def aA.set (a : aA) (k : Nat) (v : Int) : aA := aA.ofL (a.toL.set k v)
def mT (x : aA) : List CV := [I x.x0, I x.x1, I x.x2, I x.x3, I x.x4, I x.x5, I x.x6, I x.x7, I x.x8, I x.x9, I x.x10, I x.x11, I x.x12, I x.x13, I x.x14, I x.x15, I x.x16, I x.x17, I x.x18, I x.x19, I x.x20, I x.x21]
theorem aA.splice_eq (a : aA) (k : Nat) (v : Int) (hk : k < 22) : fY (mT a) (k * 1) (aN v) = mT (aA.set a k v) := by
 have h := nH (enc := aN) (sz := 1) (xs := a.toL) (k := k) (v := v) hk (fun x => by kernel_rfl)
 have h2 := aA.toL_ofL (a.toL.set k v) (by rw [List.length_set]; rfl)
 rw [← h2] at h
 exact h
structure bD where
 ID : Int
 Style : aA
instance : Inhabited bD := ⟨⟨default, default⟩⟩
def bM (x : bD) : List CV := [I x.ID, I x.Style.x0, I x.Style.x1, I x.Style.x2, I x.Style.x3, I x.Style.x4, I x.Style.x5, I x.Style.x6, I x.Style.x7, I x.Style.x8, I x.Style.x9, I x.Style.x10, I x.Style.x11, I x.Style.x12, I x.Style.x13, I x.Style.x14, I x.Style.x15, I x.Style.x16, I x.Style.x17, I x.Style.x18, I x.Style.x19, I x.Style.x20, I x.Style.x21]
structure aL where
 Kind : Int
 Key : ByteArray
 Attrs : (List bF)
 Actions : (List cR)
 Kids : (List aL)
instance : Inhabited aL := ⟨⟨default, default, default, default, default⟩⟩
mutual
def bC : aL → List CV
 | ⟨Kind, Key, Attrs, Actions, Kids⟩ => [I Kind, Sx Key, .lit (List.map aM Attrs), .lit (List.map aF Actions), .lit (Dp Kids)]
def Dp : List aL → List (List CV)
 | [] => []
 | x :: l => bC x :: Dp l
end
theorem Fk : ∀ l, Dp l = List.map bC l
 | [] => rfl
 | x :: l => by rw [Dp, Fk l]; rfl
theorem gD (x : aL) : bC x = [I x.Kind, Sx x.Key, .lit (List.map aM x.Attrs), .lit (List.map aF x.Actions), .lit (List.map bC x.Kids)] := by
 cases x; simp only [bC, Fk]
structure aO where
 L : (List Int)
 At : Int
instance : Inhabited aO := ⟨⟨default, default⟩⟩
structure jJ where
 nodes : (List (Int × aR))
 class_ : (List (Int × ByteArray))
 states : (List (Int × Int))
instance : Inhabited jJ := ⟨⟨default, default, default⟩⟩
structure iP where
 shape : jJ
 rules : (List bZ)
 order : (List Int)
 th : bS
 m : cQ
instance : Inhabited iP := ⟨⟨default, default, default, default, default⟩⟩
structure dH where
 x0 : Int
 x1 : Int
instance : Inhabited dH := ⟨⟨default, default⟩⟩
def dH.toL (a : dH) : List Int := [a.x0, a.x1]
def dH.ofL (l : List Int) : dH := ⟨l.getD 0 default, l.getD 1 default⟩
theorem dH.toL_ofL (l : List Int) (h : l.length = 2) : (dH.ofL l).toL = l := by
 refine List.ext_getElem (by simp [dH.toL, h]) fun i h1 h2 => ?_
 have hi : i = 0 ∨ i = 1 := by omega
 rcases hi with rfl | rfl <;> simp [dH.toL, dH.ofL, List.getD_eq_getElem?_getD, h2]
def dH.set (a : dH) (k : Nat) (v : Int) : dH := dH.ofL (a.toL.set k v)
def Rl (x : dH) : List CV := [I x.x0, I x.x1]
theorem dH.splice_eq (a : dH) (k : Nat) (v : Int) (hk : k < 2) : fY (Rl a) (k * 1) (aN v) = Rl (dH.set a k v) := by
 have h := nH (enc := aN) (sz := 1) (xs := a.toL) (k := k) (v := v) hk (fun x => by kernel_rfl)
 have h2 := dH.toL_ofL (a.toL.set k v) (by rw [List.length_set]; rfl)
 rw [← h2] at h
 exact h
structure cB where
 inherited : Bool
 low : Int
 high : Int
 start : Int
instance : Inhabited cB := ⟨⟨default, default, default, default⟩⟩
def jL (x : cB) : List CV := [Bo x.inherited, I x.low, I x.high, I x.start]
structure cO where
 x0 : cB
 x1 : cB
 x2 : cB
 x3 : cB
 x4 : cB
 x5 : cB
 x6 : cB
 x7 : cB
 x8 : cB
 x9 : cB
 x10 : cB
 x11 : cB
 x12 : cB
 x13 : cB
 x14 : cB
 x15 : cB
 x16 : cB
 x17 : cB
 x18 : cB
 x19 : cB
 x20 : cB
 x21 : cB
instance : Inhabited cO := ⟨⟨default, default, default, default, default, default, default, default, default, default, default, default, default, default, default, default, default, default, default, default, default, default⟩⟩
def cO.toL (a : cO) : List cB := [a.x0, a.x1, a.x2, a.x3, a.x4, a.x5, a.x6, a.x7, a.x8, a.x9, a.x10, a.x11, a.x12, a.x13, a.x14, a.x15, a.x16, a.x17, a.x18, a.x19, a.x20, a.x21]
def cO.ofL (l : List cB) : cO := ⟨l.getD 0 default, l.getD 1 default, l.getD 2 default, l.getD 3 default, l.getD 4 default, l.getD 5 default, l.getD 6 default, l.getD 7 default, l.getD 8 default, l.getD 9 default, l.getD 10 default, l.getD 11 default, l.getD 12 default, l.getD 13 default, l.getD 14 default, l.getD 15 default, l.getD 16 default, l.getD 17 default, l.getD 18 default, l.getD 19 default, l.getD 20 default, l.getD 21 default⟩
theorem cO.toL_ofL (l : List cB) (h : l.length = 22) : (cO.ofL l).toL = l := by
 refine List.ext_getElem (by simp [cO.toL, h]) fun i h1 h2 => ?_
 have hi : i = 0 ∨ i = 1 ∨ i = 2 ∨ i = 3 ∨ i = 4 ∨ i = 5 ∨ i = 6 ∨ i = 7 ∨ i = 8 ∨ i = 9 ∨ i = 10 ∨ i = 11 ∨ i = 12 ∨ i = 13 ∨ i = 14 ∨ i = 15 ∨ i = 16 ∨ i = 17 ∨ i = 18 ∨ i = 19 ∨ i = 20 ∨ i = 21 := by omega
 rcases hi with rfl | rfl | rfl | rfl | rfl | rfl | rfl | rfl | rfl | rfl | rfl | rfl | rfl | rfl | rfl | rfl | rfl | rfl | rfl | rfl | rfl | rfl <;> simp [cO.toL, cO.ofL, List.getD_eq_getElem?_getD, h2]
def cO.set (a : cO) (k : Nat) (v : cB) : cO := cO.ofL (a.toL.set k v)
def vH (x : cO) : List CV := [Bo x.x0.inherited, I x.x0.low, I x.x0.high, I x.x0.start, Bo x.x1.inherited, I x.x1.low, I x.x1.high, I x.x1.start, Bo x.x2.inherited, I x.x2.low, I x.x2.high, I x.x2.start, Bo x.x3.inherited, I x.x3.low, I x.x3.high, I x.x3.start, Bo x.x4.inherited, I x.x4.low, I x.x4.high, I x.x4.start, Bo x.x5.inherited, I x.x5.low, I x.x5.high, I x.x5.start, Bo x.x6.inherited, I x.x6.low, I x.x6.high, I x.x6.start, Bo x.x7.inherited, I x.x7.low, I x.x7.high, I x.x7.start, Bo x.x8.inherited, I x.x8.low, I x.x8.high, I x.x8.start, Bo x.x9.inherited, I x.x9.low, I x.x9.high, I x.x9.start, Bo x.x10.inherited, I x.x10.low, I x.x10.high, I x.x10.start, Bo x.x11.inherited, I x.x11.low, I x.x11.high, I x.x11.start, Bo x.x12.inherited, I x.x12.low, I x.x12.high, I x.x12.start, Bo x.x13.inherited, I x.x13.low, I x.x13.high, I x.x13.start, Bo x.x14.inherited, I x.x14.low, I x.x14.high, I x.x14.start, Bo x.x15.inherited, I x.x15.low, I x.x15.high, I x.x15.start, Bo x.x16.inherited, I x.x16.low, I x.x16.high, I x.x16.start, Bo x.x17.inherited, I x.x17.low, I x.x17.high, I x.x17.start, Bo x.x18.inherited, I x.x18.low, I x.x18.high, I x.x18.start, Bo x.x19.inherited, I x.x19.low, I x.x19.high, I x.x19.start, Bo x.x20.inherited, I x.x20.low, I x.x20.high, I x.x20.start, Bo x.x21.inherited, I x.x21.low, I x.x21.high, I x.x21.start]
theorem cO.splice_eq (a : cO) (k : Nat) (v : cB) (hk : k < 22) : fY (vH a) (k * 4) (jL v) = vH (cO.set a k v) := by
 have h := nH (enc := jL) (sz := 4) (xs := a.toL) (k := k) (v := v) hk (fun x => by kernel_rfl)
 have h2 := cO.toL_ofL (a.toL.set k v) (by rw [List.length_set]; rfl)
 rw [← h2] at h
 exact h
structure gJ where
 x0 : Int
 x1 : Int
 x2 : Int
 x3 : Int
instance : Inhabited gJ := ⟨⟨default, default, default, default⟩⟩
def gJ.toL (a : gJ) : List Int := [a.x0, a.x1, a.x2, a.x3]
def gJ.ofL (l : List Int) : gJ := ⟨l.getD 0 default, l.getD 1 default, l.getD 2 default, l.getD 3 default⟩
theorem gJ.toL_ofL (l : List Int) (h : l.length = 4) : (gJ.ofL l).toL = l := by
 refine List.ext_getElem (by simp [gJ.toL, h]) fun i h1 h2 => ?_
 have hi : i = 0 ∨ i = 1 ∨ i = 2 ∨ i = 3 := by omega
 rcases hi with rfl | rfl | rfl | rfl <;> simp [gJ.toL, gJ.ofL, List.getD_eq_getElem?_getD, h2]
def gJ.set (a : gJ) (k : Nat) (v : Int) : gJ := gJ.ofL (a.toL.set k v)
def Sc (x : gJ) : List CV := [I x.x0, I x.x1, I x.x2, I x.x3]
theorem gJ.splice_eq (a : gJ) (k : Nat) (v : Int) (hk : k < 4) : fY (Sc a) (k * 1) (aN v) = Sc (gJ.set a k v) := by
 have h := nH (enc := aN) (sz := 1) (xs := a.toL) (k := k) (v := v) hk (fun x => by kernel_rfl)
 have h2 := gJ.toL_ofL (a.toL.set k v) (by rw [List.length_set]; rfl)
 rw [← h2] at h
 exact h
structure cJ where
 x0 : ByteArray
 x1 : ByteArray
instance : Inhabited cJ := ⟨⟨default, default⟩⟩
def cJ.toL (a : cJ) : List ByteArray := [a.x0, a.x1]
def cJ.ofL (l : List ByteArray) : cJ := ⟨l.getD 0 default, l.getD 1 default⟩
theorem cJ.toL_ofL (l : List ByteArray) (h : l.length = 2) : (cJ.ofL l).toL = l := by
 refine List.ext_getElem (by simp [cJ.toL, h]) fun i h1 h2 => ?_
 have hi : i = 0 ∨ i = 1 := by omega
 rcases hi with rfl | rfl <;> simp [cJ.toL, cJ.ofL, List.getD_eq_getElem?_getD, h2]
def cJ.set (a : cJ) (k : Nat) (v : ByteArray) : cJ := cJ.ofL (a.toL.set k v)
def xL (x : cJ) : List CV := [Sx x.x0, Sx x.x1]
theorem cJ.splice_eq (a : cJ) (k : Nat) (v : ByteArray) (hk : k < 2) : fY (xL a) (k * 1) (eS v) = xL (cJ.set a k v) := by
 have h := nH (enc := eS) (sz := 1) (xs := a.toL) (k := k) (v := v) hk (fun x => by kernel_rfl)
 have h2 := cJ.toL_ofL (a.toL.set k v) (by rw [List.length_set]; rfl)
 rw [← h2] at h
 exact h
structure aX where
 Kind : Int
 Of : (List aX)
instance : Inhabited aX := ⟨⟨default, default⟩⟩
mutual
def bL : aX → List CV
 | ⟨Kind, Of⟩ => [I Kind, .lit (Dd Of)]
def Dd : List aX → List (List CV)
 | [] => []
 | x :: l => bL x :: Dd l
end
theorem Et : ∀ l, Dd l = List.map bL l
 | [] => rfl
 | x :: l => by rw [Dd, Et l]; rfl
theorem gG (x : aX) : bL x = [I x.Kind, .lit (List.map bL x.Of)] := by
 cases x; simp only [bL, Et]
structure cF where
 lo : Int
 hi : Int
instance : Inhabited cF := ⟨⟨default, default⟩⟩
def jP (x : cF) : List CV := [U8 x.lo, U8 x.hi]
structure bW where
 x0 : cF
 x1 : cF
 x2 : cF
 x3 : cF
 x4 : cF
 x5 : cF
 x6 : cF
 x7 : cF
 x8 : cF
 x9 : cF
 x10 : cF
 x11 : cF
 x12 : cF
 x13 : cF
 x14 : cF
 x15 : cF
instance : Inhabited bW := ⟨⟨default, default, default, default, default, default, default, default, default, default, default, default, default, default, default, default⟩⟩
def bW.toL (a : bW) : List cF := [a.x0, a.x1, a.x2, a.x3, a.x4, a.x5, a.x6, a.x7, a.x8, a.x9, a.x10, a.x11, a.x12, a.x13, a.x14, a.x15]
def bW.ofL (l : List cF) : bW := ⟨l.getD 0 default, l.getD 1 default, l.getD 2 default, l.getD 3 default, l.getD 4 default, l.getD 5 default, l.getD 6 default, l.getD 7 default, l.getD 8 default, l.getD 9 default, l.getD 10 default, l.getD 11 default, l.getD 12 default, l.getD 13 default, l.getD 14 default, l.getD 15 default⟩
theorem bW.toL_ofL (l : List cF) (h : l.length = 16) : (bW.ofL l).toL = l := by
 refine List.ext_getElem (by simp [bW.toL, h]) fun i h1 h2 => ?_
 have hi : i = 0 ∨ i = 1 ∨ i = 2 ∨ i = 3 ∨ i = 4 ∨ i = 5 ∨ i = 6 ∨ i = 7 ∨ i = 8 ∨ i = 9 ∨ i = 10 ∨ i = 11 ∨ i = 12 ∨ i = 13 ∨ i = 14 ∨ i = 15 := by omega
 rcases hi with rfl | rfl | rfl | rfl | rfl | rfl | rfl | rfl | rfl | rfl | rfl | rfl | rfl | rfl | rfl | rfl <;> simp [bW.toL, bW.ofL, List.getD_eq_getElem?_getD, h2]
def bW.set (a : bW) (k : Nat) (v : cF) : bW := bW.ofL (a.toL.set k v)
def rN (x : bW) : List CV := [U8 x.x0.lo, U8 x.x0.hi, U8 x.x1.lo, U8 x.x1.hi, U8 x.x2.lo, U8 x.x2.hi, U8 x.x3.lo, U8 x.x3.hi, U8 x.x4.lo, U8 x.x4.hi, U8 x.x5.lo, U8 x.x5.hi, U8 x.x6.lo, U8 x.x6.hi, U8 x.x7.lo, U8 x.x7.hi, U8 x.x8.lo, U8 x.x8.hi, U8 x.x9.lo, U8 x.x9.hi, U8 x.x10.lo, U8 x.x10.hi, U8 x.x11.lo, U8 x.x11.hi, U8 x.x12.lo, U8 x.x12.hi, U8 x.x13.lo, U8 x.x13.hi, U8 x.x14.lo, U8 x.x14.hi, U8 x.x15.lo, U8 x.x15.hi]
theorem bW.splice_eq (a : bW) (k : Nat) (v : cF) (hk : k < 16) : fY (rN a) (k * 2) (jP v) = rN (bW.set a k v) := by
 have h := nH (enc := jP) (sz := 2) (xs := a.toL) (k := k) (v := v) hk (fun x => by kernel_rfl)
 have h2 := bW.toL_ofL (a.toL.set k v) (by rw [List.length_set]; rfl)
 rw [← h2] at h
 exact h
def cT : Nat → Option TI
 | 3 => some ⟨.int .i64, 1, 8, [.int .i64 0]⟩
 | 4 => some ⟨.boo, 1, 1, [.bool false]⟩
 | 5 => some ⟨.int .u8, 1, 1, [.int .u8 0]⟩
 | 9 => some ⟨.str, 1, 16, [.string ⟨#[]⟩]⟩
 | 12 => some ⟨.int .u64, 1, 8, [.int .u64 0]⟩
 | 21 => some ⟨.int .i32, 1, 4, [.int .i32 0]⟩
 | 22 => some ⟨.sl 3, 1, 24, [.slice none 0 0]⟩
 | 23 => some ⟨.oth, 1, 8, [.pointer none]⟩
 | 25 => some ⟨.sl 58, 1, 24, [.slice none 0 0]⟩
 | 27 => some ⟨.st [(3, 0, 1), (3, 1, 1), (25, 2, 1)], 3, 40, [.int .i64 0, .int .i64 0, .slice none 0 0]⟩
 | 29 => some ⟨.sl 63, 1, 24, [.slice none 0 0]⟩
 | 31 => some ⟨.st [(29, 0, 1)], 1, 24, [.slice none 0 0]⟩
 | 33 => some ⟨.sl 85, 1, 24, [.slice none 0 0]⟩
 | 35 => some ⟨.st [(33, 0, 1)], 1, 24, [.slice none 0 0]⟩
 | 38 => some ⟨.st [(4, 0, 1), (4, 1, 1), (3, 2, 1)], 3, 16, [.bool false, .bool false, .int .i64 0]⟩
 | 40 => some ⟨.sl 67, 1, 24, [.slice none 0 0]⟩
 | 43 => some ⟨.oth, 1, 8, [.nilFunc]⟩
 | 44 => some ⟨.sl 54, 1, 24, [.slice none 0 0]⟩
 | 45 => some ⟨.int .i64, 1, 8, [.int .i64 0]⟩
 | 52 => some ⟨.arr 22 3, 22, 176, [.int .i64 0, .int .i64 0, .int .i64 0, .int .i64 0, .int .i64 0, .int .i64 0, .int .i64 0, .int .i64 0, .int .i64 0, .int .i64 0, .int .i64 0, .int .i64 0, .int .i64 0, .int .i64 0, .int .i64 0, .int .i64 0, .int .i64 0, .int .i64 0, .int .i64 0, .int .i64 0, .int .i64 0, .int .i64 0]⟩
 | 54 => some ⟨.st [(3, 0, 1), (52, 1, 22)], 23, 184, [.int .i64 0, .int .i64 0, .int .i64 0, .int .i64 0, .int .i64 0, .int .i64 0, .int .i64 0, .int .i64 0, .int .i64 0, .int .i64 0, .int .i64 0, .int .i64 0, .int .i64 0, .int .i64 0, .int .i64 0, .int .i64 0, .int .i64 0, .int .i64 0, .int .i64 0, .int .i64 0, .int .i64 0, .int .i64 0, .int .i64 0]⟩
 | 55 => some ⟨.sl 172, 1, 24, [.slice none 0 0]⟩
 | 56 => some ⟨.sl 159, 1, 24, [.slice none 0 0]⟩
 | 58 => some ⟨.st [(3, 0, 1), (3, 1, 1), (3, 2, 1), (9, 3, 1), (55, 4, 1), (56, 5, 1), (22, 6, 1)], 7, 112, [.int .i64 0, .int .i64 0, .int .i64 0, .string ⟨#[]⟩, .slice none 0 0, .slice none 0 0, .slice none 0 0]⟩
 | 61 => some ⟨.sl 81, 1, 24, [.slice none 0 0]⟩
 | 63 => some ⟨.st [(3, 0, 1), (9, 1, 1), (3, 2, 1), (3, 3, 1), (9, 4, 1), (61, 5, 1)], 6, 80, [.int .i64 0, .string ⟨#[]⟩, .int .i64 0, .int .i64 0, .string ⟨#[]⟩, .slice none 0 0]⟩
 | 67 => some ⟨.st [(3, 0, 1), (3, 1, 1)], 2, 16, [.int .i64 0, .int .i64 0]⟩
 | 68 => some ⟨.sl 70, 1, 24, [.slice none 0 0]⟩
 | 70 => some ⟨.st [(3, 0, 1), (9, 1, 1), (55, 2, 1), (56, 3, 1), (68, 4, 1)], 5, 96, [.int .i64 0, .string ⟨#[]⟩, .slice none 0 0, .slice none 0 0, .slice none 0 0]⟩
 | 78 => some ⟨.st [(22, 0, 1), (3, 1, 1)], 2, 32, [.slice none 0 0, .int .i64 0]⟩
 | 81 => some ⟨.st [(3, 0, 1), (3, 1, 1), (3, 2, 1), (9, 3, 1)], 4, 40, [.int .i64 0, .int .i64 0, .int .i64 0, .string ⟨#[]⟩]⟩
 | 83 => some ⟨.sl 9, 1, 24, [.slice none 0 0]⟩
 | 85 => some ⟨.st [(9, 0, 1), (3, 1, 1), (3, 2, 1), (3, 3, 1), (3, 4, 1)], 5, 48, [.string ⟨#[]⟩, .int .i64 0, .int .i64 0, .int .i64 0, .int .i64 0]⟩
 | 88 => some ⟨.mp 3 58, 1, 8, [.map none]⟩
 | 89 => some ⟨.mp 3 9, 1, 8, [.map none]⟩
 | 90 => some ⟨.mp 3 3, 1, 8, [.map none]⟩
 | 92 => some ⟨.st [(88, 0, 1), (89, 1, 1), (90, 2, 1)], 3, 24, [.map none, .map none, .map none]⟩
 | 95 => some ⟨.st [(92, 0, 3), (29, 3, 1), (22, 4, 1), (35, 5, 1), (38, 6, 3)], 9, 112, [.map none, .map none, .map none, .slice none 0 0, .slice none 0 0, .slice none 0 0, .bool false, .bool false, .int .i64 0]⟩
 | 97 => some ⟨.arr 2 3, 2, 16, [.int .i64 0, .int .i64 0]⟩
 | 100 => some ⟨.mp 3 52, 1, 8, [.map none]⟩
 | 111 => some ⟨.st [(4, 0, 1), (3, 1, 1), (3, 2, 1), (3, 3, 1)], 4, 32, [.bool false, .int .i64 0, .int .i64 0, .int .i64 0]⟩
 | 112 => some ⟨.arr 22 111, 88, 704, [.bool false, .int .i64 0, .int .i64 0, .int .i64 0, .bool false, .int .i64 0, .int .i64 0, .int .i64 0, .bool false, .int .i64 0, .int .i64 0, .int .i64 0, .bool false, .int .i64 0, .int .i64 0, .int .i64 0, .bool false, .int .i64 0, .int .i64 0, .int .i64 0, .bool false, .int .i64 0, .int .i64 0, .int .i64 0, .bool false, .int .i64 0, .int .i64 0, .int .i64 0, .bool false, .int .i64 0, .int .i64 0, .int .i64 0, .bool false, .int .i64 0, .int .i64 0, .int .i64 0, .bool false, .int .i64 0, .int .i64 0, .int .i64 0, .bool false, .int .i64 0, .int .i64 0, .int .i64 0, .bool false, .int .i64 0, .int .i64 0, .int .i64 0, .bool false, .int .i64 0, .int .i64 0, .int .i64 0, .bool false, .int .i64 0, .int .i64 0, .int .i64 0, .bool false, .int .i64 0, .int .i64 0, .int .i64 0, .bool false, .int .i64 0, .int .i64 0, .int .i64 0, .bool false, .int .i64 0, .int .i64 0, .int .i64 0, .bool false, .int .i64 0, .int .i64 0, .int .i64 0, .bool false, .int .i64 0, .int .i64 0, .int .i64 0, .bool false, .int .i64 0, .int .i64 0, .int .i64 0, .bool false, .int .i64 0, .int .i64 0, .int .i64 0, .bool false, .int .i64 0, .int .i64 0, .int .i64 0]⟩
 | 122 => some ⟨.mp 3 4, 1, 8, [.map none]⟩
 | 126 => some ⟨.mp 9 4, 1, 8, [.map none]⟩
 | 127 => some ⟨.arr 4 3, 4, 32, [.int .i64 0, .int .i64 0, .int .i64 0, .int .i64 0]⟩
 | 130 => some ⟨.oth, 1, 8, [.nilFunc]⟩
 | 133 => some ⟨.arr 2 9, 2, 32, [.string ⟨#[]⟩, .string ⟨#[]⟩]⟩
 | 137 => some ⟨.mp 3 81, 1, 8, [.map none]⟩
 | 150 => some ⟨.sl 152, 1, 24, [.slice none 0 0]⟩
 | 152 => some ⟨.st [(3, 0, 1), (3, 1, 1), (9, 2, 1), (150, 3, 1)], 4, 56, [.int .i64 0, .int .i64 0, .string ⟨#[]⟩, .slice none 0 0]⟩
 | 159 => some ⟨.st [(9, 0, 1), (9, 1, 1), (9, 2, 1), (150, 3, 1)], 4, 72, [.string ⟨#[]⟩, .string ⟨#[]⟩, .string ⟨#[]⟩, .slice none 0 0]⟩
 | 160 => some ⟨.sl 5, 1, 24, [.slice none 0 0]⟩
 | 164 => some ⟨.oth, 1, 8, [.nilFunc]⟩
 | 165 => some ⟨.oth, 1, 8, [.nilFunc]⟩
 | 172 => some ⟨.st [(9, 0, 1), (152, 1, 4)], 5, 72, [.string ⟨#[]⟩, .int .i64 0, .int .i64 0, .string ⟨#[]⟩, .slice none 0 0]⟩
 | 175 => some ⟨.oth, 1, 8, [.pointer none]⟩
 | 177 => some ⟨.sl 21, 1, 24, [.slice none 0 0]⟩
 | 188 => some ⟨.sl 190, 1, 24, [.slice none 0 0]⟩
 | 190 => some ⟨.st [(3, 0, 1), (188, 1, 1)], 2, 32, [.int .i64 0, .slice none 0 0]⟩
 | 204 => some ⟨.arr 256 5, 256, 256, [.int .u8 0, .int .u8 0, .int .u8 0, .int .u8 0, .int .u8 0, .int .u8 0, .int .u8 0, .int .u8 0, .int .u8 0, .int .u8 0, .int .u8 0, .int .u8 0, .int .u8 0, .int .u8 0, .int .u8 0, .int .u8 0, .int .u8 0, .int .u8 0, .int .u8 0, .int .u8 0, .int .u8 0, .int .u8 0, .int .u8 0, .int .u8 0, .int .u8 0, .int .u8 0, .int .u8 0, .int .u8 0, .int .u8 0, .int .u8 0, .int .u8 0, .int .u8 0, .int .u8 0, .int .u8 0, .int .u8 0, .int .u8 0, .int .u8 0, .int .u8 0, .int .u8 0, .int .u8 0, .int .u8 0, .int .u8 0, .int .u8 0, .int .u8 0, .int .u8 0, .int .u8 0, .int .u8 0, .int .u8 0, .int .u8 0, .int .u8 0, .int .u8 0, .int .u8 0, .int .u8 0, .int .u8 0, .int .u8 0, .int .u8 0, .int .u8 0, .int .u8 0, .int .u8 0, .int .u8 0, .int .u8 0, .int .u8 0, .int .u8 0, .int .u8 0, .int .u8 0, .int .u8 0, .int .u8 0, .int .u8 0, .int .u8 0, .int .u8 0, .int .u8 0, .int .u8 0, .int .u8 0, .int .u8 0, .int .u8 0, .int .u8 0, .int .u8 0, .int .u8 0, .int .u8 0, .int .u8 0, .int .u8 0, .int .u8 0, .int .u8 0, .int .u8 0, .int .u8 0, .int .u8 0, .int .u8 0, .int .u8 0, .int .u8 0, .int .u8 0, .int .u8 0, .int .u8 0, .int .u8 0, .int .u8 0, .int .u8 0, .int .u8 0, .int .u8 0, .int .u8 0, .int .u8 0, .int .u8 0, .int .u8 0, .int .u8 0, .int .u8 0, .int .u8 0, .int .u8 0, .int .u8 0, .int .u8 0, .int .u8 0, .int .u8 0, .int .u8 0, .int .u8 0, .int .u8 0, .int .u8 0, .int .u8 0, .int .u8 0, .int .u8 0, .int .u8 0, .int .u8 0, .int .u8 0, .int .u8 0, .int .u8 0, .int .u8 0, .int .u8 0, .int .u8 0, .int .u8 0, .int .u8 0, .int .u8 0, .int .u8 0, .int .u8 0, .int .u8 0, .int .u8 0, .int .u8 0, .int .u8 0, .int .u8 0, .int .u8 0, .int .u8 0, .int .u8 0, .int .u8 0, .int .u8 0, .int .u8 0, .int .u8 0, .int .u8 0, .int .u8 0, .int .u8 0, .int .u8 0, .int .u8 0, .int .u8 0, .int .u8 0, .int .u8 0, .int .u8 0, .int .u8 0, .int .u8 0, .int .u8 0, .int .u8 0, .int .u8 0, .int .u8 0, .int .u8 0, .int .u8 0, .int .u8 0, .int .u8 0, .int .u8 0, .int .u8 0, .int .u8 0, .int .u8 0, .int .u8 0, .int .u8 0, .int .u8 0, .int .u8 0, .int .u8 0, .int .u8 0, .int .u8 0, .int .u8 0, .int .u8 0, .int .u8 0, .int .u8 0, .int .u8 0, .int .u8 0, .int .u8 0, .int .u8 0, .int .u8 0, .int .u8 0, .int .u8 0, .int .u8 0, .int .u8 0, .int .u8 0, .int .u8 0, .int .u8 0, .int .u8 0, .int .u8 0, .int .u8 0, .int .u8 0, .int .u8 0, .int .u8 0, .int .u8 0, .int .u8 0, .int .u8 0, .int .u8 0, .int .u8 0, .int .u8 0, .int .u8 0, .int .u8 0, .int .u8 0, .int .u8 0, .int .u8 0, .int .u8 0, .int .u8 0, .int .u8 0, .int .u8 0, .int .u8 0, .int .u8 0, .int .u8 0, .int .u8 0, .int .u8 0, .int .u8 0, .int .u8 0, .int .u8 0, .int .u8 0, .int .u8 0, .int .u8 0, .int .u8 0, .int .u8 0, .int .u8 0, .int .u8 0, .int .u8 0, .int .u8 0, .int .u8 0, .int .u8 0, .int .u8 0, .int .u8 0, .int .u8 0, .int .u8 0, .int .u8 0, .int .u8 0, .int .u8 0, .int .u8 0, .int .u8 0, .int .u8 0, .int .u8 0, .int .u8 0, .int .u8 0, .int .u8 0, .int .u8 0, .int .u8 0, .int .u8 0, .int .u8 0, .int .u8 0, .int .u8 0, .int .u8 0, .int .u8 0, .int .u8 0, .int .u8 0, .int .u8 0, .int .u8 0, .int .u8 0, .int .u8 0, .int .u8 0]⟩
 | 206 => some ⟨.st [(5, 0, 1), (5, 1, 1)], 2, 2, [.int .u8 0, .int .u8 0]⟩
 | 207 => some ⟨.arr 16 206, 32, 32, [.int .u8 0, .int .u8 0, .int .u8 0, .int .u8 0, .int .u8 0, .int .u8 0, .int .u8 0, .int .u8 0, .int .u8 0, .int .u8 0, .int .u8 0, .int .u8 0, .int .u8 0, .int .u8 0, .int .u8 0, .int .u8 0, .int .u8 0, .int .u8 0, .int .u8 0, .int .u8 0, .int .u8 0, .int .u8 0, .int .u8 0, .int .u8 0, .int .u8 0, .int .u8 0, .int .u8 0, .int .u8 0, .int .u8 0, .int .u8 0, .int .u8 0, .int .u8 0]⟩
 | 208 => some ⟨.int .u64, 1, 8, [.int .u64 0]⟩
 | _ => none
theorem ti3 : eH Tryz.prog 3 = cT 3 := by kernel_rfl
theorem ti4 : eH Tryz.prog 4 = cT 4 := by kernel_rfl
theorem ti5 : eH Tryz.prog 5 = cT 5 := by kernel_rfl
theorem ti9 : eH Tryz.prog 9 = cT 9 := by kernel_rfl
theorem ti12 : eH Tryz.prog 12 = cT 12 := by kernel_rfl
theorem ti21 : eH Tryz.prog 21 = cT 21 := by kernel_rfl
theorem ti22 : eH Tryz.prog 22 = cT 22 := by kernel_rfl
theorem ti23 : eH Tryz.prog 23 = cT 23 := by kernel_rfl
theorem ti25 : eH Tryz.prog 25 = cT 25 := by kernel_rfl
theorem ti27 : eH Tryz.prog 27 = cT 27 := by kernel_rfl
theorem ti29 : eH Tryz.prog 29 = cT 29 := by kernel_rfl
theorem ti31 : eH Tryz.prog 31 = cT 31 := by kernel_rfl
theorem ti33 : eH Tryz.prog 33 = cT 33 := by kernel_rfl
theorem ti35 : eH Tryz.prog 35 = cT 35 := by kernel_rfl
theorem ti38 : eH Tryz.prog 38 = cT 38 := by kernel_rfl
theorem ti40 : eH Tryz.prog 40 = cT 40 := by kernel_rfl
theorem ti43 : eH Tryz.prog 43 = cT 43 := by kernel_rfl
theorem ti44 : eH Tryz.prog 44 = cT 44 := by kernel_rfl
theorem ti45 : eH Tryz.prog 45 = cT 45 := by kernel_rfl
theorem ti52 : eH Tryz.prog 52 = cT 52 := by kernel_rfl
theorem ti54 : eH Tryz.prog 54 = cT 54 := by kernel_rfl
theorem ti55 : eH Tryz.prog 55 = cT 55 := by kernel_rfl
theorem ti56 : eH Tryz.prog 56 = cT 56 := by kernel_rfl
theorem ti58 : eH Tryz.prog 58 = cT 58 := by kernel_rfl
theorem ti61 : eH Tryz.prog 61 = cT 61 := by kernel_rfl
theorem ti63 : eH Tryz.prog 63 = cT 63 := by kernel_rfl
theorem ti67 : eH Tryz.prog 67 = cT 67 := by kernel_rfl
theorem ti68 : eH Tryz.prog 68 = cT 68 := by kernel_rfl
theorem ti70 : eH Tryz.prog 70 = cT 70 := by kernel_rfl
theorem ti78 : eH Tryz.prog 78 = cT 78 := by kernel_rfl
theorem ti81 : eH Tryz.prog 81 = cT 81 := by kernel_rfl
theorem ti83 : eH Tryz.prog 83 = cT 83 := by kernel_rfl
theorem ti85 : eH Tryz.prog 85 = cT 85 := by kernel_rfl
theorem ti88 : eH Tryz.prog 88 = cT 88 := by kernel_rfl
theorem ti89 : eH Tryz.prog 89 = cT 89 := by kernel_rfl
theorem ti90 : eH Tryz.prog 90 = cT 90 := by kernel_rfl
theorem ti92 : eH Tryz.prog 92 = cT 92 := by kernel_rfl
theorem ti95 : eH Tryz.prog 95 = cT 95 := by kernel_rfl
theorem ti97 : eH Tryz.prog 97 = cT 97 := by kernel_rfl
theorem ti100 : eH Tryz.prog 100 = cT 100 := by kernel_rfl
theorem ti111 : eH Tryz.prog 111 = cT 111 := by kernel_rfl
theorem ti112 : eH Tryz.prog 112 = cT 112 := by kernel_rfl
theorem ti122 : eH Tryz.prog 122 = cT 122 := by kernel_rfl
theorem ti126 : eH Tryz.prog 126 = cT 126 := by kernel_rfl
theorem ti127 : eH Tryz.prog 127 = cT 127 := by kernel_rfl
theorem ti130 : eH Tryz.prog 130 = cT 130 := by kernel_rfl
theorem ti133 : eH Tryz.prog 133 = cT 133 := by kernel_rfl
theorem ti137 : eH Tryz.prog 137 = cT 137 := by kernel_rfl
theorem ti150 : eH Tryz.prog 150 = cT 150 := by kernel_rfl
theorem ti152 : eH Tryz.prog 152 = cT 152 := by kernel_rfl
theorem ti159 : eH Tryz.prog 159 = cT 159 := by kernel_rfl
theorem ti160 : eH Tryz.prog 160 = cT 160 := by kernel_rfl
theorem ti164 : eH Tryz.prog 164 = cT 164 := by kernel_rfl
theorem ti165 : eH Tryz.prog 165 = cT 165 := by kernel_rfl
theorem ti172 : eH Tryz.prog 172 = cT 172 := by kernel_rfl
theorem ti175 : eH Tryz.prog 175 = cT 175 := by kernel_rfl
theorem ti177 : eH Tryz.prog 177 = cT 177 := by kernel_rfl
theorem ti188 : eH Tryz.prog 188 = cT 188 := by kernel_rfl
theorem ti190 : eH Tryz.prog 190 = cT 190 := by kernel_rfl
theorem ti204 : eH Tryz.prog 204 = cT 204 := by kernel_rfl
theorem ti206 : eH Tryz.prog 206 = cT 206 := by kernel_rfl
theorem ti207 : eH Tryz.prog 207 = cT 207 := by kernel_rfl
theorem ti208 : eH Tryz.prog 208 = cT 208 := by kernel_rfl
theorem Yt (T : TypeId) (i : TI) (h : cT T = some i) : i.ok Tryz.prog T := by
 unfold cT at h
 split at h
 ·exact bP (ti3.trans h)
 ·exact bP (ti4.trans h)
 ·exact bP (ti5.trans h)
 ·exact bP (ti9.trans h)
 ·exact bP (ti12.trans h)
 ·exact bP (ti21.trans h)
 ·exact bP (ti22.trans h)
 ·exact bP (ti23.trans h)
 ·exact bP (ti25.trans h)
 ·exact bP (ti27.trans h)
 ·exact bP (ti29.trans h)
 ·exact bP (ti31.trans h)
 ·exact bP (ti33.trans h)
 ·exact bP (ti35.trans h)
 ·exact bP (ti38.trans h)
 ·exact bP (ti40.trans h)
 ·exact bP (ti43.trans h)
 ·exact bP (ti44.trans h)
 ·exact bP (ti45.trans h)
 ·exact bP (ti52.trans h)
 ·exact bP (ti54.trans h)
 ·exact bP (ti55.trans h)
 ·exact bP (ti56.trans h)
 ·exact bP (ti58.trans h)
 ·exact bP (ti61.trans h)
 ·exact bP (ti63.trans h)
 ·exact bP (ti67.trans h)
 ·exact bP (ti68.trans h)
 ·exact bP (ti70.trans h)
 ·exact bP (ti78.trans h)
 ·exact bP (ti81.trans h)
 ·exact bP (ti83.trans h)
 ·exact bP (ti85.trans h)
 ·exact bP (ti88.trans h)
 ·exact bP (ti89.trans h)
 ·exact bP (ti90.trans h)
 ·exact bP (ti92.trans h)
 ·exact bP (ti95.trans h)
 ·exact bP (ti97.trans h)
 ·exact bP (ti100.trans h)
 ·exact bP (ti111.trans h)
 ·exact bP (ti112.trans h)
 ·exact bP (ti122.trans h)
 ·exact bP (ti126.trans h)
 ·exact bP (ti127.trans h)
 ·exact bP (ti130.trans h)
 ·exact bP (ti133.trans h)
 ·exact bP (ti137.trans h)
 ·exact bP (ti150.trans h)
 ·exact bP (ti152.trans h)
 ·exact bP (ti159.trans h)
 ·exact bP (ti160.trans h)
 ·exact bP (ti164.trans h)
 ·exact bP (ti165.trans h)
 ·exact bP (ti172.trans h)
 ·exact bP (ti175.trans h)
 ·exact bP (ti177.trans h)
 ·exact bP (ti188.trans h)
 ·exact bP (ti190.trans h)
 ·exact bP (ti204.trans h)
 ·exact bP (ti206.trans h)
 ·exact bP (ti207.trans h)
 ·exact bP (ti208.trans h)
 ·cases h
def aZ : List cB := [⟨true, 0, 16777215, 0⟩, ⟨false, (-1), 16777215, (-1)⟩, ⟨true, 1, 1000, 16⟩, ⟨true, 0, 7, 0⟩, ⟨true, 0, 1, 0⟩, ⟨false, 0, 4, 1⟩, ⟨false, 0, 4, 3⟩, ⟨false, 0, 3, 0⟩, ⟨true, 0, 2, 0⟩, ⟨false, 0, 1048576, 0⟩, ⟨false, 0, 1000, 0⟩, ⟨false, 0, 1000, 1⟩, ⟨false, (-1), 1048576, (-1)⟩, ⟨false, 0, 1048576, 0⟩, ⟨false, 0, 1048576, 1048576⟩, ⟨false, 0, 1048576, 0⟩, ⟨false, 0, 1048576, 1048576⟩, ⟨false, 0, 1048576, 0⟩, ⟨false, 0, 1048576, 0⟩, ⟨false, 0, 1048576, 0⟩, ⟨false, 0, 1048576, 0⟩, ⟨true, 0, 1, 0⟩]
def iC : List Int := (Pinned.utf8FirstZ.map Int.ofNat)
def dD : List cF := [⟨128, 191⟩, ⟨160, 191⟩, ⟨128, 159⟩, ⟨144, 191⟩, ⟨128, 143⟩, ⟨0, 0⟩, ⟨0, 0⟩, ⟨0, 0⟩, ⟨0, 0⟩, ⟨0, 0⟩, ⟨0, 0⟩, ⟨0, 0⟩, ⟨0, 0⟩, ⟨0, 0⟩, ⟨0, 0⟩, ⟨0, 0⟩]
def Sd : Nat → Option (List CV)
 | 0 => some (List.flatten (List.map jL aZ))
 | 1 => some (List.flatten (List.map Ux iC))
 | 2 => some (List.flatten (List.map jP dD))
 | _ => none
noncomputable def E : nO := ⟨Tryz.prog, cT, Yt, Sd, by kernel_rfl⟩
theorem fok9 : bU E 9 := ⟨Tryz.f9, Tryz.func9, by kernel_rfl, rfl⟩
theorem fok10 : bU E 10 := ⟨Tryz.f10, Tryz.func10, by kernel_rfl, rfl⟩
theorem fok11 : bU E 11 := ⟨Tryz.f11, Tryz.func11, by kernel_rfl, rfl⟩
theorem fok12 : bU E 12 := ⟨Tryz.f12, Tryz.func12, by kernel_rfl, rfl⟩
theorem fok13 : bU E 13 := ⟨Tryz.f13, Tryz.func13, by kernel_rfl, rfl⟩
theorem fok14 : bU E 14 := ⟨Tryz.f14, Tryz.func14, by kernel_rfl, rfl⟩
theorem cP : bU E 15 := ⟨Tryz.f15, Tryz.func15, by kernel_rfl, rfl⟩
theorem Ol : bU E 16 := ⟨Tryz.f16, Tryz.func16, by kernel_rfl, rfl⟩
theorem fok17 : bU E 17 := ⟨Tryz.f17, Tryz.func17, by kernel_rfl, rfl⟩
theorem fok18 : bU E 18 := ⟨Tryz.f18, Tryz.func18, by kernel_rfl, rfl⟩
theorem fok19 : bU E 19 := ⟨Tryz.f19, Tryz.func19, by kernel_rfl, rfl⟩
theorem fok20 : bU E 20 := ⟨Tryz.f20, Tryz.func20, by kernel_rfl, rfl⟩
theorem fok21 : bU E 21 := ⟨Tryz.f21, Tryz.func21, by kernel_rfl, rfl⟩
theorem fok26 : bU E 26 := ⟨Tryz.f26, Tryz.func26, by kernel_rfl, rfl⟩
theorem fok27 : bU E 27 := ⟨Tryz.f27, Tryz.func27, by kernel_rfl, rfl⟩
theorem fok28 : bU E 28 := ⟨Tryz.f28, Tryz.func28, by kernel_rfl, rfl⟩
theorem Yn : bU E 32 := ⟨Tryz.f32, Tryz.func32, by kernel_rfl, rfl⟩
theorem fok33 : bU E 33 := ⟨Tryz.f33, Tryz.func33, by kernel_rfl, rfl⟩
theorem fok34 : bU E 34 := ⟨Tryz.f34, Tryz.func34, by kernel_rfl, rfl⟩
theorem fok35 : bU E 35 := ⟨Tryz.f35, Tryz.func35, by kernel_rfl, rfl⟩
theorem fok36 : bU E 36 := ⟨Tryz.f36, Tryz.func36, by kernel_rfl, rfl⟩
theorem fok37 : bU E 37 := ⟨Tryz.f37, Tryz.func37, by kernel_rfl, rfl⟩
theorem fok38 : bU E 38 := ⟨Tryz.f38, Tryz.func38, by kernel_rfl, rfl⟩
theorem fok39 : bU E 39 := ⟨Tryz.f39, Tryz.func39, by kernel_rfl, rfl⟩
theorem fok40 : bU E 40 := ⟨Tryz.f40, Tryz.func40, by kernel_rfl, rfl⟩
theorem fok41 : bU E 41 := ⟨Tryz.f41, Tryz.func41, by kernel_rfl, rfl⟩
theorem fok42 : bU E 42 := ⟨Tryz.f42, Tryz.func42, by kernel_rfl, rfl⟩
theorem fok43 : bU E 43 := ⟨Tryz.f43, Tryz.func43, by kernel_rfl, rfl⟩
theorem fok44 : bU E 44 := ⟨Tryz.f44, Tryz.func44, by kernel_rfl, rfl⟩
theorem Mg : bU E 45 := ⟨Tryz.f45, Tryz.func45, by kernel_rfl, rfl⟩
theorem fok46 : bU E 46 := ⟨Tryz.f46, Tryz.func46, by kernel_rfl, rfl⟩
theorem fok47 : bU E 47 := ⟨Tryz.f47, Tryz.func47, by kernel_rfl, rfl⟩
theorem fok48 : bU E 48 := ⟨Tryz.f48, Tryz.func48, by kernel_rfl, rfl⟩
theorem fok49 : bU E 49 := ⟨Tryz.f49, Tryz.func49, by kernel_rfl, rfl⟩
theorem Vh : bU E 50 := ⟨Tryz.f50, Tryz.func50, by kernel_rfl, rfl⟩
theorem fok51 : bU E 51 := ⟨Tryz.f51, Tryz.func51, by kernel_rfl, rfl⟩
theorem fok52 : bU E 52 := ⟨Tryz.f52, Tryz.func52, by kernel_rfl, rfl⟩
theorem Wc : bU E 53 := ⟨Tryz.f53, Tryz.func53, by kernel_rfl, rfl⟩
theorem fok54 : bU E 54 := ⟨Tryz.f54, Tryz.func54, by kernel_rfl, rfl⟩
theorem fok57 : bU E 57 := ⟨Tryz.f57, Tryz.func57, by kernel_rfl, rfl⟩
theorem fok58 : bU E 58 := ⟨Tryz.f58, Tryz.func58, by kernel_rfl, rfl⟩
theorem Yv : bU E 59 := ⟨Tryz.f59, Tryz.func59, by kernel_rfl, rfl⟩
theorem fok60 : bU E 60 := ⟨Tryz.f60, Tryz.func60, by kernel_rfl, rfl⟩
theorem Vg : bU E 65 := ⟨Tryz.f65, Tryz.func65, by kernel_rfl, rfl⟩
theorem En : bU E 66 := ⟨Tryz.f66, Tryz.func66, by kernel_rfl, rfl⟩
theorem fok67 : bU E 67 := ⟨Tryz.f67, Tryz.func67, by kernel_rfl, rfl⟩
theorem fok68 : bU E 68 := ⟨Tryz.f68, Tryz.func68, by kernel_rfl, rfl⟩
theorem fok69 : bU E 69 := ⟨Tryz.f69, Tryz.func69, by kernel_rfl, rfl⟩
theorem fok70 : bU E 70 := ⟨Tryz.f70, Tryz.func70, by kernel_rfl, rfl⟩
theorem fok71 : bU E 71 := ⟨Tryz.f71, Tryz.func71, by kernel_rfl, rfl⟩
theorem fok72 : bU E 72 := ⟨Tryz.f72, Tryz.func72, by kernel_rfl, rfl⟩
theorem fok73 : bU E 73 := ⟨Tryz.f73, Tryz.func73, by kernel_rfl, rfl⟩
theorem Yo : bU E 74 := ⟨Tryz.f74, Tryz.func74, by kernel_rfl, rfl⟩
theorem fok75 : bU E 75 := ⟨Tryz.f75, Tryz.func75, by kernel_rfl, rfl⟩
theorem fok76 : bU E 76 := ⟨Tryz.f76, Tryz.func76, by kernel_rfl, rfl⟩
theorem fok77 : bU E 77 := ⟨Tryz.f77, Tryz.func77, by kernel_rfl, rfl⟩
theorem fok78 : bU E 78 := ⟨Tryz.f78, Tryz.func78, by kernel_rfl, rfl⟩
theorem fok79 : bU E 79 := ⟨Tryz.f79, Tryz.func79, by kernel_rfl, rfl⟩
theorem Wv : bU E 80 := ⟨Tryz.f80, Tryz.func80, by kernel_rfl, rfl⟩
theorem fok81 : bU E 81 := ⟨Tryz.f81, Tryz.func81, by kernel_rfl, rfl⟩
theorem fok82 : bU E 82 := ⟨Tryz.f82, Tryz.func82, by kernel_rfl, rfl⟩
theorem fok83 : bU E 83 := ⟨Tryz.f83, Tryz.func83, by kernel_rfl, rfl⟩
theorem fok84 : bU E 84 := ⟨Tryz.f84, Tryz.func84, by kernel_rfl, rfl⟩
theorem fok85 : bU E 85 := ⟨Tryz.f85, Tryz.func85, by kernel_rfl, rfl⟩
theorem fok86 : bU E 86 := ⟨Tryz.f86, Tryz.func86, by kernel_rfl, rfl⟩
theorem fok87 : bU E 87 := ⟨Tryz.f87, Tryz.func87, by kernel_rfl, rfl⟩
theorem fok88 : bU E 88 := ⟨Tryz.f88, Tryz.func88, by kernel_rfl, rfl⟩
theorem fok89 : bU E 89 := ⟨Tryz.f89, Tryz.func89, by kernel_rfl, rfl⟩
theorem fok90 : bU E 90 := ⟨Tryz.f90, Tryz.func90, by kernel_rfl, rfl⟩
theorem fok91 : bU E 91 := ⟨Tryz.f91, Tryz.func91, by kernel_rfl, rfl⟩
theorem fok92 : bU E 92 := ⟨Tryz.f92, Tryz.func92, by kernel_rfl, rfl⟩
theorem fok93 : bU E 93 := ⟨Tryz.f93, Tryz.func93, by kernel_rfl, rfl⟩
theorem fok94 : bU E 94 := ⟨Tryz.f94, Tryz.func94, by kernel_rfl, rfl⟩
theorem fok95 : bU E 95 := ⟨Tryz.f95, Tryz.func95, by kernel_rfl, rfl⟩
theorem fok96 : bU E 96 := ⟨Tryz.f96, Tryz.func96, by kernel_rfl, rfl⟩
theorem fok97 : bU E 97 := ⟨Tryz.f97, Tryz.func97, by kernel_rfl, rfl⟩
theorem fok98 : bU E 98 := ⟨Tryz.f98, Tryz.func98, by kernel_rfl, rfl⟩
theorem fok101 : bU E 101 := ⟨Tryz.f101, Tryz.func101, by kernel_rfl, rfl⟩
theorem Wa : bU E 102 := ⟨Tryz.f102, Tryz.func102, by kernel_rfl, rfl⟩
theorem Vf : bU E 104 := ⟨Tryz.f104, Tryz.func104, by kernel_rfl, rfl⟩
theorem fok105 : bU E 105 := ⟨Tryz.f105, Tryz.func105, by kernel_rfl, rfl⟩
theorem fok106 : bU E 106 := ⟨Tryz.f106, Tryz.func106, by kernel_rfl, rfl⟩
theorem fok107 : bU E 107 := ⟨Tryz.f107, Tryz.func107, by kernel_rfl, rfl⟩
theorem xN : bU E 108 := ⟨Tryz.f108, Tryz.func108, by kernel_rfl, rfl⟩
theorem fok109 : bU E 109 := ⟨Tryz.f109, Tryz.func109, by kernel_rfl, rfl⟩
theorem Lk : bU E 110 := ⟨Tryz.f110, Tryz.func110, by kernel_rfl, rfl⟩
theorem Zd : bU E 111 := ⟨Tryz.f111, Tryz.func111, by kernel_rfl, rfl⟩
theorem fok112 : bU E 112 := ⟨Tryz.f112, Tryz.func112, by kernel_rfl, rfl⟩
theorem fok113 : bU E 113 := ⟨Tryz.f113, Tryz.func113, by kernel_rfl, rfl⟩
theorem Zc : bU E 114 := ⟨Tryz.f114, Tryz.func114, by kernel_rfl, rfl⟩
theorem Ys : bU E 115 := ⟨Tryz.f115, Tryz.func115, by kernel_rfl, rfl⟩
theorem Fb : bU E 116 := ⟨Tryz.f116, Tryz.func116, by kernel_rfl, rfl⟩
theorem La : bU E 117 := ⟨Tryz.f117, Tryz.func117, by kernel_rfl, rfl⟩
theorem Ay : bU E 118 := ⟨Tryz.f118, Tryz.func118, by kernel_rfl, rfl⟩
theorem fok119 : bU E 119 := ⟨Tryz.f119, Tryz.func119, by kernel_rfl, rfl⟩
theorem fok120 : bU E 120 := ⟨Tryz.f120, Tryz.func120, by kernel_rfl, rfl⟩
theorem Wl : bU E 121 := ⟨Tryz.f121, Tryz.func121, by kernel_rfl, rfl⟩
theorem Yw : bU E 122 := ⟨Tryz.f122, Tryz.func122, by kernel_rfl, rfl⟩
theorem fok123 : bU E 123 := ⟨Tryz.f123, Tryz.func123, by kernel_rfl, rfl⟩
theorem Yi : bU E 124 := ⟨Tryz.f124, Tryz.func124, by kernel_rfl, rfl⟩
theorem fok126 : bU E 126 := ⟨Tryz.f126, Tryz.func126, by kernel_rfl, rfl⟩
theorem Vx : bU E 127 := ⟨Tryz.f127, Tryz.func127, by kernel_rfl, rfl⟩
theorem fok128 : bU E 128 := ⟨Tryz.f128, Tryz.func128, by kernel_rfl, rfl⟩
theorem fok129 : bU E 129 := ⟨Tryz.f129, Tryz.func129, by kernel_rfl, rfl⟩
theorem fok130 : bU E 130 := ⟨Tryz.f130, Tryz.func130, by kernel_rfl, rfl⟩
theorem fok131 : bU E 131 := ⟨Tryz.f131, Tryz.func131, by kernel_rfl, rfl⟩
theorem fok132 : bU E 132 := ⟨Tryz.f132, Tryz.func132, by kernel_rfl, rfl⟩
theorem Xc : bU E 133 := ⟨Tryz.f133, Tryz.func133, by kernel_rfl, rfl⟩
theorem fok134 : bU E 134 := ⟨Tryz.f134, Tryz.func134, by kernel_rfl, rfl⟩
theorem fok135 : bU E 135 := ⟨Tryz.f135, Tryz.func135, by kernel_rfl, rfl⟩
theorem fok137 : bU E 137 := ⟨Tryz.f137, Tryz.func137, by kernel_rfl, rfl⟩
theorem fok138 : bU E 138 := ⟨Tryz.f138, Tryz.func138, by kernel_rfl, rfl⟩
theorem Xs : bU E 139 := ⟨Tryz.f139, Tryz.func139, by kernel_rfl, rfl⟩
theorem fok140 : bU E 140 := ⟨Tryz.f140, Tryz.func140, by kernel_rfl, rfl⟩
theorem fok141 : bU E 141 := ⟨Tryz.f141, Tryz.func141, by kernel_rfl, rfl⟩
theorem fok142 : bU E 142 := ⟨Tryz.f142, Tryz.func142, by kernel_rfl, rfl⟩
theorem Yx : bU E 143 := ⟨Tryz.f143, Tryz.func143, by kernel_rfl, rfl⟩
theorem fok144 : bU E 144 := ⟨Tryz.f144, Tryz.func144, by kernel_rfl, rfl⟩
theorem fok145 : bU E 145 := ⟨Tryz.f145, Tryz.func145, by kernel_rfl, rfl⟩
theorem Wj : bU E 146 := ⟨Tryz.f146, Tryz.func146, by kernel_rfl, rfl⟩
theorem Wq : bU E 147 := ⟨Tryz.f147, Tryz.func147, by kernel_rfl, rfl⟩
theorem Vp : bU E 148 := ⟨Tryz.f148, Tryz.func148, by kernel_rfl, rfl⟩
theorem fok149 : bU E 149 := ⟨Tryz.f149, Tryz.func149, by kernel_rfl, rfl⟩
theorem fok150 : bU E 150 := ⟨Tryz.f150, Tryz.func150, by kernel_rfl, rfl⟩
theorem fok151 : bU E 151 := ⟨Tryz.f151, Tryz.func151, by kernel_rfl, rfl⟩
theorem fok152 : bU E 152 := ⟨Tryz.f152, Tryz.func152, by kernel_rfl, rfl⟩
theorem Pr : bU E 153 := ⟨Tryz.f153, Tryz.func153, by kernel_rfl, rfl⟩
theorem Yb : bU E 155 := ⟨Tryz.f155, Tryz.func155, by kernel_rfl, rfl⟩
end Go.Proofs.YtojkihhnioeggaaGreatDoor.S
