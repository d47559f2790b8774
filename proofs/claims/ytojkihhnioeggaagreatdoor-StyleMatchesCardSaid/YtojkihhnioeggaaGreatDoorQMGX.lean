import Derived.Test.YtojkihhnioeggaaGreatDoorQMBE
import Derived.Test.YtojkihhnioeggaaGreatDoorChecked
import GoSem.PinnedTables
set_option linter.unusedVariables false
namespace Go.Proofs.YtojkihhnioeggaaGreatDoor.S
open Go Go.Bm
structure aH where
 Kind : Int
 N : Int
 S : ByteArray
 L : (List aH)
instance : Inhabited aH := ⟨⟨default, default, default, default⟩⟩
mutual
def aO : aH → List CV
 | ⟨Kind, N, S, L⟩ => [I Kind, I N, Sx S, .lit (xM L)]
def xM : List aH → List (List CV)
 | [] => []
 | x :: l => aO x :: xM l
end
theorem zW : ∀ l, xM l = List.map aO l
 | [] => rfl
 | x :: l => by rw [xM, zW l]; rfl
theorem dO (x : aH) : aO x = [I x.Kind, I x.N, Sx x.S, .lit (List.map aO x.L)] := by
 cases x; simp only [aO, zW]
structure aZ where
 Name : ByteArray
 Value : aH
instance : Inhabited aZ := ⟨⟨default, default⟩⟩
def aM (x : aZ) : List CV := [Sx x.Name, I x.Value.Kind, I x.Value.N, Sx x.Value.S, .lit (List.map aO x.Value.L)]
structure cE where
 Event : ByteArray
 Instance : ByteArray
 Handler : ByteArray
 Args : (List aH)
instance : Inhabited cE := ⟨⟨default, default, default, default⟩⟩
def aD (x : cE) : List CV := [Sx x.Event, Sx x.Instance, Sx x.Handler, .lit (List.map aO x.Args)]
structure aR where
 ID : Int
 Parent : Int
 Kind : Int
 Key : ByteArray
 Attrs : (List aZ)
 Actions : (List cE)
 Kids : (List Int)
instance : Inhabited aR := ⟨⟨default, default, default, default, default, default, default⟩⟩
def aE (x : aR) : List CV := [I x.ID, I x.Parent, I x.Kind, Sx x.Key, .lit (List.map aM x.Attrs), .lit (List.map aD x.Actions), .lit (List.map aJ x.Kids)]
structure bC where
 Root : Int
 Next : Int
 Nodes : (List aR)
instance : Inhabited bC := ⟨⟨default, default, default⟩⟩
structure cI where
 Prop_ : Int
 Source : Int
 N : Int
 Token : ByteArray
instance : Inhabited cI := ⟨⟨default, default, default, default⟩⟩
def bK (x : cI) : List CV := [I x.Prop_, I x.Source, I x.N, Sx x.Token]
structure cC where
 Kind : Int
 Class : ByteArray
 States : Int
 UnderKind : Int
 UnderClass : ByteArray
 Decls : (List cI)
instance : Inhabited cC := ⟨⟨default, default, default, default, default, default⟩⟩
def aW (x : cC) : List CV := [I x.Kind, Sx x.Class, I x.States, I x.UnderKind, Sx x.UnderClass, .lit (List.map bK x.Decls)]
structure bS where
 Rules : (List cC)
instance : Inhabited bS := ⟨⟨default⟩⟩
structure wQ where
 Name : ByteArray
 Light : Int
 Dark : Int
 HighLight : Int
 HighDark : Int
instance : Inhabited wQ := ⟨⟨default, default, default, default, default⟩⟩
def cK (x : wQ) : List CV := [Sx x.Name, I x.Light, I x.Dark, I x.HighLight, I x.HighDark]
structure mY where
 Tokens : (List wQ)
instance : Inhabited mY := ⟨⟨default⟩⟩
structure tC where
 Dark : Bool
 High : Bool
 Scale : Int
instance : Inhabited tC := ⟨⟨default, default, default⟩⟩
structure aU where
 ID : Int
 States : Int
instance : Inhabited aU := ⟨⟨default, default⟩⟩
def bG (x : aU) : List CV := [I x.ID, I x.States]
structure aA where
 x0 : Int
 x1 : Int
 x2 : Int
 x3 : Int
 x4 : Int
 x5 : Int
 x6 : Int
 x7 : Int
 x8 : Int
 x9 : Int
 x10 : Int
 x11 : Int
 x12 : Int
 x13 : Int
 x14 : Int
 x15 : Int
 x16 : Int
 x17 : Int
 x18 : Int
 x19 : Int
 x20 : Int
 x21 : Int
instance : Inhabited aA := ⟨⟨default, default, default, default, default, default, default, default, default, default, default, default, default, default, default, default, default, default, default, default, default, default⟩⟩
def aA.toL (a : aA) : List Int := [a.x0, a.x1, a.x2, a.x3, a.x4, a.x5, a.x6, a.x7, a.x8, a.x9, a.x10, a.x11, a.x12, a.x13, a.x14, a.x15, a.x16, a.x17, a.x18, a.x19, a.x20, a.x21]
def aA.ofL (l : List Int) : aA := ⟨l.getD 0 default, l.getD 1 default, l.getD 2 default, l.getD 3 default, l.getD 4 default, l.getD 5 default, l.getD 6 default, l.getD 7 default, l.getD 8 default, l.getD 9 default, l.getD 10 default, l.getD 11 default, l.getD 12 default, l.getD 13 default, l.getD 14 default, l.getD 15 default, l.getD 16 default, l.getD 17 default, l.getD 18 default, l.getD 19 default, l.getD 20 default, l.getD 21 default⟩
theorem aA.toL_ofL (l : List Int) (h : l.length = 22) : (aA.ofL l).toL = l := by
 refine List.ext_getElem (by simp [aA.toL, h]) fun i h1 h2 => ?_
 have hi : i = 0 ∨ i = 1 ∨ i = 2 ∨ i = 3 ∨ i = 4 ∨ i = 5 ∨ i = 6 ∨ i = 7 ∨ i = 8 ∨ i = 9 ∨ i = 10 ∨ i = 11 ∨ i = 12 ∨ i = 13 ∨ i = 14 ∨ i = 15 ∨ i = 16 ∨ i = 17 ∨ i = 18 ∨ i = 19 ∨ i = 20 ∨ i = 21 := by omega
 rcases hi with rfl | rfl | rfl | rfl | rfl | rfl | rfl | rfl | rfl | rfl | rfl | rfl | rfl | rfl | rfl | rfl | rfl | rfl | rfl | rfl | rfl | rfl <;> simp [aA.toL, aA.ofL, List.getD_eq_getElem?_getD, h2]
def aA.set (a : aA) (k : Nat) (v : Int) : aA := aA.ofL (a.toL.set k v)
def lN (x : aA) : List CV := [I x.x0, I x.x1, I x.x2, I x.x3, I x.x4, I x.x5, I x.x6, I x.x7, I x.x8, I x.x9, I x.x10, I x.x11, I x.x12, I x.x13, I x.x14, I x.x15, I x.x16, I x.x17, I x.x18, I x.x19, I x.x20, I x.x21]
theorem aA.splice_eq (a : aA) (k : Nat) (v : Int) (hk : k < 22) : fL (lN a) (k * 1) (aJ v) = lN (aA.set a k v) := by
 have h := mI (enc := aJ) (sz := 1) (xs := a.toL) (k := k) (v := v) hk (fun x => by kernel_rfl)
 have h2 := aA.toL_ofL (a.toL.set k v) (by rw [List.length_set]; rfl)
 rw [← h2] at h
 exact h
structure dB where
 ID : Int
 Style : aA
instance : Inhabited dB := ⟨⟨default, default⟩⟩
def dW (x : dB) : List CV := [I x.ID, I x.Style.x0, I x.Style.x1, I x.Style.x2, I x.Style.x3, I x.Style.x4, I x.Style.x5, I x.Style.x6, I x.Style.x7, I x.Style.x8, I x.Style.x9, I x.Style.x10, I x.Style.x11, I x.Style.x12, I x.Style.x13, I x.Style.x14, I x.Style.x15, I x.Style.x16, I x.Style.x17, I x.Style.x18, I x.Style.x19, I x.Style.x20, I x.Style.x21]
structure aL where
 Kind : Int
 Key : ByteArray
 Attrs : (List aZ)
 Actions : (List cE)
 Kids : (List aL)
instance : Inhabited aL := ⟨⟨default, default, default, default, default⟩⟩
mutual
def aX : aL → List CV
 | ⟨Kind, Key, Attrs, Actions, Kids⟩ => [I Kind, Sx Key, .lit (List.map aM Attrs), .lit (List.map aD Actions), .lit (Be Kids)]
def Be : List aL → List (List CV)
 | [] => []
 | x :: l => aX x :: Be l
end
theorem Dp : ∀ l, Be l = List.map aX l
 | [] => rfl
 | x :: l => by rw [Be, Dp l]; rfl
theorem fR (x : aL) : aX x = [I x.Kind, Sx x.Key, .lit (List.map aM x.Attrs), .lit (List.map aD x.Actions), .lit (List.map aX x.Kids)] := by
 cases x; simp only [aX, Dp]
structure aP where
 L : (List Int)
 At : Int
instance : Inhabited aP := ⟨⟨default, default⟩⟩
structure iN where
 nodes : (List (Int × aR))
 class_ : (List (Int × ByteArray))
 states : (List (Int × Int))
instance : Inhabited iN := ⟨⟨default, default, default⟩⟩
structure mT where
 shape : iN
 rules : (List cC)
 order : (List Int)
 th : mY
 m : tC
instance : Inhabited mT := ⟨⟨default, default, default, default, default⟩⟩
structure cY where
 x0 : Int
 x1 : Int
instance : Inhabited cY := ⟨⟨default, default⟩⟩
def cY.toL (a : cY) : List Int := [a.x0, a.x1]
def cY.ofL (l : List Int) : cY := ⟨l.getD 0 default, l.getD 1 default⟩
theorem cY.toL_ofL (l : List Int) (h : l.length = 2) : (cY.ofL l).toL = l := by
 refine List.ext_getElem (by simp [cY.toL, h]) fun i h1 h2 => ?_
 have hi : i = 0 ∨ i = 1 := by omega
 rcases hi with rfl | rfl <;> simp [cY.toL, cY.ofL, List.getD_eq_getElem?_getD, h2]
def cY.set (a : cY) (k : Nat) (v : Int) : cY := cY.ofL (a.toL.set k v)
def Nh (x : cY) : List CV := [I x.x0, I x.x1]
theorem cY.splice_eq (a : cY) (k : Nat) (v : Int) (hk : k < 2) : fL (Nh a) (k * 1) (aJ v) = Nh (cY.set a k v) := by
 have h := mI (enc := aJ) (sz := 1) (xs := a.toL) (k := k) (v := v) hk (fun x => by kernel_rfl)
 have h2 := cY.toL_ofL (a.toL.set k v) (by rw [List.length_set]; rfl)
 rw [← h2] at h
 exact h
structure bR where
 inherited : Bool
 low : Int
 high : Int
 start : Int
instance : Inhabited bR := ⟨⟨default, default, default, default⟩⟩
def iM (x : bR) : List CV := [Bo x.inherited, I x.low, I x.high, I x.start]
structure cD where
 x0 : bR
 x1 : bR
 x2 : bR
 x3 : bR
 x4 : bR
 x5 : bR
 x6 : bR
 x7 : bR
 x8 : bR
 x9 : bR
 x10 : bR
 x11 : bR
 x12 : bR
 x13 : bR
 x14 : bR
 x15 : bR
 x16 : bR
 x17 : bR
 x18 : bR
 x19 : bR
 x20 : bR
 x21 : bR
instance : Inhabited cD := ⟨⟨default, default, default, default, default, default, default, default, default, default, default, default, default, default, default, default, default, default, default, default, default, default⟩⟩
def cD.toL (a : cD) : List bR := [a.x0, a.x1, a.x2, a.x3, a.x4, a.x5, a.x6, a.x7, a.x8, a.x9, a.x10, a.x11, a.x12, a.x13, a.x14, a.x15, a.x16, a.x17, a.x18, a.x19, a.x20, a.x21]
def cD.ofL (l : List bR) : cD := ⟨l.getD 0 default, l.getD 1 default, l.getD 2 default, l.getD 3 default, l.getD 4 default, l.getD 5 default, l.getD 6 default, l.getD 7 default, l.getD 8 default, l.getD 9 default, l.getD 10 default, l.getD 11 default, l.getD 12 default, l.getD 13 default, l.getD 14 default, l.getD 15 default, l.getD 16 default, l.getD 17 default, l.getD 18 default, l.getD 19 default, l.getD 20 default, l.getD 21 default⟩
theorem cD.toL_ofL (l : List bR) (h : l.length = 22) : (cD.ofL l).toL = l := by
 refine List.ext_getElem (by simp [cD.toL, h]) fun i h1 h2 => ?_
 have hi : i = 0 ∨ i = 1 ∨ i = 2 ∨ i = 3 ∨ i = 4 ∨ i = 5 ∨ i = 6 ∨ i = 7 ∨ i = 8 ∨ i = 9 ∨ i = 10 ∨ i = 11 ∨ i = 12 ∨ i = 13 ∨ i = 14 ∨ i = 15 ∨ i = 16 ∨ i = 17 ∨ i = 18 ∨ i = 19 ∨ i = 20 ∨ i = 21 := by omega
 rcases hi with rfl | rfl | rfl | rfl | rfl | rfl | rfl | rfl | rfl | rfl | rfl | rfl | rfl | rfl | rfl | rfl | rfl | rfl | rfl | rfl | rfl | rfl <;> simp [cD.toL, cD.ofL, List.getD_eq_getElem?_getD, h2]
def cD.set (a : cD) (k : Nat) (v : bR) : cD := cD.ofL (a.toL.set k v)
def uL (x : cD) : List CV := [Bo x.x0.inherited, I x.x0.low, I x.x0.high, I x.x0.start, Bo x.x1.inherited, I x.x1.low, I x.x1.high, I x.x1.start, Bo x.x2.inherited, I x.x2.low, I x.x2.high, I x.x2.start, Bo x.x3.inherited, I x.x3.low, I x.x3.high, I x.x3.start, Bo x.x4.inherited, I x.x4.low, I x.x4.high, I x.x4.start, Bo x.x5.inherited, I x.x5.low, I x.x5.high, I x.x5.start, Bo x.x6.inherited, I x.x6.low, I x.x6.high, I x.x6.start, Bo x.x7.inherited, I x.x7.low, I x.x7.high, I x.x7.start, Bo x.x8.inherited, I x.x8.low, I x.x8.high, I x.x8.start, Bo x.x9.inherited, I x.x9.low, I x.x9.high, I x.x9.start, Bo x.x10.inherited, I x.x10.low, I x.x10.high, I x.x10.start, Bo x.x11.inherited, I x.x11.low, I x.x11.high, I x.x11.start, Bo x.x12.inherited, I x.x12.low, I x.x12.high, I x.x12.start, Bo x.x13.inherited, I x.x13.low, I x.x13.high, I x.x13.start, Bo x.x14.inherited, I x.x14.low, I x.x14.high, I x.x14.start, Bo x.x15.inherited, I x.x15.low, I x.x15.high, I x.x15.start, Bo x.x16.inherited, I x.x16.low, I x.x16.high, I x.x16.start, Bo x.x17.inherited, I x.x17.low, I x.x17.high, I x.x17.start, Bo x.x18.inherited, I x.x18.low, I x.x18.high, I x.x18.start, Bo x.x19.inherited, I x.x19.low, I x.x19.high, I x.x19.start, Bo x.x20.inherited, I x.x20.low, I x.x20.high, I x.x20.start, Bo x.x21.inherited, I x.x21.low, I x.x21.high, I x.x21.start]
theorem cD.splice_eq (a : cD) (k : Nat) (v : bR) (hk : k < 22) : fL (uL a) (k * 4) (iM v) = uL (cD.set a k v) := by
 have h := mI (enc := iM) (sz := 4) (xs := a.toL) (k := k) (v := v) hk (fun x => by kernel_rfl)
 have h2 := cD.toL_ofL (a.toL.set k v) (by rw [List.length_set]; rfl)
 rw [← h2] at h
 exact h
structure gW where
 x0 : Int
 x1 : Int
 x2 : Int
 x3 : Int
instance : Inhabited gW := ⟨⟨default, default, default, default⟩⟩
def gW.toL (a : gW) : List Int := [a.x0, a.x1, a.x2, a.x3]
def gW.ofL (l : List Int) : gW := ⟨l.getD 0 default, l.getD 1 default, l.getD 2 default, l.getD 3 default⟩
theorem gW.toL_ofL (l : List Int) (h : l.length = 4) : (gW.ofL l).toL = l := by
 refine List.ext_getElem (by simp [gW.toL, h]) fun i h1 h2 => ?_
 have hi : i = 0 ∨ i = 1 ∨ i = 2 ∨ i = 3 := by omega
 rcases hi with rfl | rfl | rfl | rfl <;> simp [gW.toL, gW.ofL, List.getD_eq_getElem?_getD, h2]
def gW.set (a : gW) (k : Nat) (v : Int) : gW := gW.ofL (a.toL.set k v)
def Nj (x : gW) : List CV := [I x.x0, I x.x1, I x.x2, I x.x3]
theorem gW.splice_eq (a : gW) (k : Nat) (v : Int) (hk : k < 4) : fL (Nj a) (k * 1) (aJ v) = Nj (gW.set a k v) := by
 have h := mI (enc := aJ) (sz := 1) (xs := a.toL) (k := k) (v := v) hk (fun x => by kernel_rfl)
 have h2 := gW.toL_ofL (a.toL.set k v) (by rw [List.length_set]; rfl)
 rw [← h2] at h
 exact h
structure bZ where
 x0 : ByteArray
 x1 : ByteArray
instance : Inhabited bZ := ⟨⟨default, default⟩⟩
def bZ.toL (a : bZ) : List ByteArray := [a.x0, a.x1]
def bZ.ofL (l : List ByteArray) : bZ := ⟨l.getD 0 default, l.getD 1 default⟩
theorem bZ.toL_ofL (l : List ByteArray) (h : l.length = 2) : (bZ.ofL l).toL = l := by
 refine List.ext_getElem (by simp [bZ.toL, h]) fun i h1 h2 => ?_
 have hi : i = 0 ∨ i = 1 := by omega
 rcases hi with rfl | rfl <;> simp [bZ.toL, bZ.ofL, List.getD_eq_getElem?_getD, h2]
def bZ.set (a : bZ) (k : Nat) (v : ByteArray) : bZ := bZ.ofL (a.toL.set k v)
def vX (x : bZ) : List CV := [Sx x.x0, Sx x.x1]
theorem bZ.splice_eq (a : bZ) (k : Nat) (v : ByteArray) (hk : k < 2) : fL (vX a) (k * 1) (eS v) = vX (bZ.set a k v) := by
 have h := mI (enc := eS) (sz := 1) (xs := a.toL) (k := k) (v := v) hk (fun x => by kernel_rfl)
 have h2 := bZ.toL_ofL (a.toL.set k v) (by rw [List.length_set]; rfl)
 rw [← h2] at h
 exact h
structure aS where
 Kind : Int
 Of : (List aS)
instance : Inhabited aS := ⟨⟨default, default⟩⟩
mutual
def bF : aS → List CV
 | ⟨Kind, Of⟩ => [I Kind, .lit (Az Of)]
def Az : List aS → List (List CV)
 | [] => []
 | x :: l => bF x :: Az l
end
theorem Dz : ∀ l, Az l = List.map bF l
 | [] => rfl
 | x :: l => by rw [Az, Dz l]; rfl
theorem fU (x : aS) : bF x = [I x.Kind, .lit (List.map bF x.Of)] := by
 cases x; simp only [bF, Dz]
structure bU where
 lo : Int
 hi : Int
instance : Inhabited bU := ⟨⟨default, default⟩⟩
def iV (x : bU) : List CV := [U8 x.lo, U8 x.hi]
structure bO where
 x0 : bU
 x1 : bU
 x2 : bU
 x3 : bU
 x4 : bU
 x5 : bU
 x6 : bU
 x7 : bU
 x8 : bU
 x9 : bU
 x10 : bU
 x11 : bU
 x12 : bU
 x13 : bU
 x14 : bU
 x15 : bU
instance : Inhabited bO := ⟨⟨default, default, default, default, default, default, default, default, default, default, default, default, default, default, default, default⟩⟩
def bO.toL (a : bO) : List bU := [a.x0, a.x1, a.x2, a.x3, a.x4, a.x5, a.x6, a.x7, a.x8, a.x9, a.x10, a.x11, a.x12, a.x13, a.x14, a.x15]
def bO.ofL (l : List bU) : bO := ⟨l.getD 0 default, l.getD 1 default, l.getD 2 default, l.getD 3 default, l.getD 4 default, l.getD 5 default, l.getD 6 default, l.getD 7 default, l.getD 8 default, l.getD 9 default, l.getD 10 default, l.getD 11 default, l.getD 12 default, l.getD 13 default, l.getD 14 default, l.getD 15 default⟩
theorem bO.toL_ofL (l : List bU) (h : l.length = 16) : (bO.ofL l).toL = l := by
 refine List.ext_getElem (by simp [bO.toL, h]) fun i h1 h2 => ?_
 have hi : i = 0 ∨ i = 1 ∨ i = 2 ∨ i = 3 ∨ i = 4 ∨ i = 5 ∨ i = 6 ∨ i = 7 ∨ i = 8 ∨ i = 9 ∨ i = 10 ∨ i = 11 ∨ i = 12 ∨ i = 13 ∨ i = 14 ∨ i = 15 := by omega
 rcases hi with rfl | rfl | rfl | rfl | rfl | rfl | rfl | rfl | rfl | rfl | rfl | rfl | rfl | rfl | rfl | rfl <;> simp [bO.toL, bO.ofL, List.getD_eq_getElem?_getD, h2]
def bO.set (a : bO) (k : Nat) (v : bU) : bO := bO.ofL (a.toL.set k v)
def qH (x : bO) : List CV := [U8 x.x0.lo, U8 x.x0.hi, U8 x.x1.lo, U8 x.x1.hi, U8 x.x2.lo, U8 x.x2.hi, U8 x.x3.lo, U8 x.x3.hi, U8 x.x4.lo, U8 x.x4.hi, U8 x.x5.lo, U8 x.x5.hi, U8 x.x6.lo, U8 x.x6.hi, U8 x.x7.lo, U8 x.x7.hi, U8 x.x8.lo, U8 x.x8.hi, U8 x.x9.lo, U8 x.x9.hi, U8 x.x10.lo, U8 x.x10.hi, U8 x.x11.lo, U8 x.x11.hi, U8 x.x12.lo, U8 x.x12.hi, U8 x.x13.lo, U8 x.x13.hi, U8 x.x14.lo, U8 x.x14.hi, U8 x.x15.lo, U8 x.x15.hi]
theorem bO.splice_eq (a : bO) (k : Nat) (v : bU) (hk : k < 16) : fL (qH a) (k * 2) (iV v) = qH (bO.set a k v) := by
 have h := mI (enc := iV) (sz := 2) (xs := a.toL) (k := k) (v := v) hk (fun x => by kernel_rfl)
 have h2 := bO.toL_ofL (a.toL.set k v) (by rw [List.length_set]; rfl)
 rw [← h2] at h
 exact h
def cJ : Nat → Option TI
 | 3 => some ⟨.int .i64, 1, 8, [.int .i64 0]⟩
 | 4 => some ⟨.boo, 1, 1, [.bool false]⟩
 | 5 => some ⟨.int .u8, 1, 1, [.int .u8 0]⟩
 | 9 => some ⟨.str, 1, 16, [.string ⟨#[]⟩]⟩
 | 12 => some ⟨.int .u64, 1, 8, [.int .u64 0]⟩
 | 21 => some ⟨.int .i32, 1, 4, [.int .i32 0]⟩
 | 22 => some ⟨.sl 3, 1, 24, [.slice none 0 0]⟩
 | 23 => some ⟨.oth, 1, 8, [.pointer none]⟩
 | 25 => some ⟨.sl 58, 1, 24, [.slice none 0 0]⟩
 | 27 => some ⟨.st [(3, 0, 1), (3, 1, 1), (25, 2, 1)], 3, 40, [.int .i64 0, .int .i64 0, .slice none 0 0]⟩
 | 29 => some ⟨.sl 63, 1, 24, [.slice none 0 0]⟩
 | 31 => some ⟨.st [(29, 0, 1)], 1, 24, [.slice none 0 0]⟩
 | 33 => some ⟨.sl 85, 1, 24, [.slice none 0 0]⟩
 | 35 => some ⟨.st [(33, 0, 1)], 1, 24, [.slice none 0 0]⟩
 | 38 => some ⟨.st [(4, 0, 1), (4, 1, 1), (3, 2, 1)], 3, 16, [.bool false, .bool false, .int .i64 0]⟩
 | 40 => some ⟨.sl 67, 1, 24, [.slice none 0 0]⟩
 | 43 => some ⟨.oth, 1, 8, [.nilFunc]⟩
 | 44 => some ⟨.sl 54, 1, 24, [.slice none 0 0]⟩
 | 45 => some ⟨.int .i64, 1, 8, [.int .i64 0]⟩
 | 52 => some ⟨.arr 22 3, 22, 176, [.int .i64 0, .int .i64 0, .int .i64 0, .int .i64 0, .int .i64 0, .int .i64 0, .int .i64 0, .int .i64 0, .int .i64 0, .int .i64 0, .int .i64 0, .int .i64 0, .int .i64 0, .int .i64 0, .int .i64 0, .int .i64 0, .int .i64 0, .int .i64 0, .int .i64 0, .int .i64 0, .int .i64 0, .int .i64 0]⟩
 | 54 => some ⟨.st [(3, 0, 1), (52, 1, 22)], 23, 184, [.int .i64 0, .int .i64 0, .int .i64 0, .int .i64 0, .int .i64 0, .int .i64 0, .int .i64 0, .int .i64 0, .int .i64 0, .int .i64 0, .int .i64 0, .int .i64 0, .int .i64 0, .int .i64 0, .int .i64 0, .int .i64 0, .int .i64 0, .int .i64 0, .int .i64 0, .int .i64 0, .int .i64 0, .int .i64 0, .int .i64 0]⟩
 | 55 => some ⟨.sl 172, 1, 24, [.slice none 0 0]⟩
 | 56 => some ⟨.sl 159, 1, 24, [.slice none 0 0]⟩
 | 58 => some ⟨.st [(3, 0, 1), (3, 1, 1), (3, 2, 1), (9, 3, 1), (55, 4, 1), (56, 5, 1), (22, 6, 1)], 7, 112, [.int .i64 0, .int .i64 0, .int .i64 0, .string ⟨#[]⟩, .slice none 0 0, .slice none 0 0, .slice none 0 0]⟩
 | 61 => some ⟨.sl 81, 1, 24, [.slice none 0 0]⟩
 | 63 => some ⟨.st [(3, 0, 1), (9, 1, 1), (3, 2, 1), (3, 3, 1), (9, 4, 1), (61, 5, 1)], 6, 80, [.int .i64 0, .string ⟨#[]⟩, .int .i64 0, .int .i64 0, .string ⟨#[]⟩, .slice none 0 0]⟩
 | 67 => some ⟨.st [(3, 0, 1), (3, 1, 1)], 2, 16, [.int .i64 0, .int .i64 0]⟩
 | 68 => some ⟨.sl 70, 1, 24, [.slice none 0 0]⟩
 | 70 => some ⟨.st [(3, 0, 1), (9, 1, 1), (55, 2, 1), (56, 3, 1), (68, 4, 1)], 5, 96, [.int .i64 0, .string ⟨#[]⟩, .slice none 0 0, .slice none 0 0, .slice none 0 0]⟩
 | 78 => some ⟨.st [(22, 0, 1), (3, 1, 1)], 2, 32, [.slice none 0 0, .int .i64 0]⟩
 | 81 => some ⟨.st [(3, 0, 1), (3, 1, 1), (3, 2, 1), (9, 3, 1)], 4, 40, [.int .i64 0, .int .i64 0, .int .i64 0, .string ⟨#[]⟩]⟩
 | 83 => some ⟨.sl 9, 1, 24, [.slice none 0 0]⟩
 | 85 => some ⟨.st [(9, 0, 1), (3, 1, 1), (3, 2, 1), (3, 3, 1), (3, 4, 1)], 5, 48, [.string ⟨#[]⟩, .int .i64 0, .int .i64 0, .int .i64 0, .int .i64 0]⟩
 | 88 => some ⟨.mp 3 58, 1, 8, [.map none]⟩
 | 89 => some ⟨.mp 3 9, 1, 8, [.map none]⟩
 | 90 => some ⟨.mp 3 3, 1, 8, [.map none]⟩
 | 92 => some ⟨.st [(88, 0, 1), (89, 1, 1), (90, 2, 1)], 3, 24, [.map none, .map none, .map none]⟩
 | 95 => some ⟨.st [(92, 0, 3), (29, 3, 1), (22, 4, 1), (35, 5, 1), (38, 6, 3)], 9, 112, [.map none, .map none, .map none, .slice none 0 0, .slice none 0 0, .slice none 0 0, .bool false, .bool false, .int .i64 0]⟩
 | 97 => some ⟨.arr 2 3, 2, 16, [.int .i64 0, .int .i64 0]⟩
 | 100 => some ⟨.mp 3 52, 1, 8, [.map none]⟩
 | 111 => some ⟨.st [(4, 0, 1), (3, 1, 1), (3, 2, 1), (3, 3, 1)], 4, 32, [.bool false, .int .i64 0, .int .i64 0, .int .i64 0]⟩
 | 112 => some ⟨.arr 22 111, 88, 704, [.bool false, .int .i64 0, .int .i64 0, .int .i64 0, .bool false, .int .i64 0, .int .i64 0, .int .i64 0, .bool false, .int .i64 0, .int .i64 0, .int .i64 0, .bool false, .int .i64 0, .int .i64 0, .int .i64 0, .bool false, .int .i64 0, .int .i64 0, .int .i64 0, .bool false, .int .i64 0, .int .i64 0, .int .i64 0, .bool false, .int .i64 0, .int .i64 0, .int .i64 0, .bool false, .int .i64 0, .int .i64 0, .int .i64 0, .bool false, .int .i64 0, .int .i64 0, .int .i64 0, .bool false, .int .i64 0, .int .i64 0, .int .i64 0, .bool false, .int .i64 0, .int .i64 0, .int .i64 0, .bool false, .int .i64 0, .int .i64 0, .int .i64 0, .bool false, .int .i64 0, .int .i64 0, .int .i64 0, .bool false, .int .i64 0, .int .i64 0, .int .i64 0, .bool false, .int .i64 0, .int .i64 0, .int .i64 0, .bool false, .int .i64 0, .int .i64 0, .int .i64 0, .bool false, .int .i64 0, .int .i64 0, .int .i64 0, .bool false, .int .i64 0, .int .i64 0, .int .i64 0, .bool false, .int .i64 0, .int .i64 0, .int .i64 0, .bool false, .int .i64 0, .int .i64 0, .int .i64 0, .bool false, .int .i64 0, .int .i64 0, .int .i64 0, .bool false, .int .i64 0, .int .i64 0, .int .i64 0]⟩
 | 122 => some ⟨.mp 3 4, 1, 8, [.map none]⟩
 | 126 => some ⟨.mp 9 4, 1, 8, [.map none]⟩
 | 127 => some ⟨.arr 4 3, 4, 32, [.int .i64 0, .int .i64 0, .int .i64 0, .int .i64 0]⟩
 | 130 => some ⟨.oth, 1, 8, [.nilFunc]⟩
 | 133 => some ⟨.arr 2 9, 2, 32, [.string ⟨#[]⟩, .string ⟨#[]⟩]⟩
 | 137 => some ⟨.mp 3 81, 1, 8, [.map none]⟩
 | 150 => some ⟨.sl 152, 1, 24, [.slice none 0 0]⟩
 | 152 => some ⟨.st [(3, 0, 1), (3, 1, 1), (9, 2, 1), (150, 3, 1)], 4, 56, [.int .i64 0, .int .i64 0, .string ⟨#[]⟩, .slice none 0 0]⟩
 | 159 => some ⟨.st [(9, 0, 1), (9, 1, 1), (9, 2, 1), (150, 3, 1)], 4, 72, [.string ⟨#[]⟩, .string ⟨#[]⟩, .string ⟨#[]⟩, .slice none 0 0]⟩
 | 160 => some ⟨.sl 5, 1, 24, [.slice none 0 0]⟩
 | 164 => some ⟨.oth, 1, 8, [.nilFunc]⟩
 | 165 => some ⟨.oth, 1, 8, [.nilFunc]⟩
 | 172 => some ⟨.st [(9, 0, 1), (152, 1, 4)], 5, 72, [.string ⟨#[]⟩, .int .i64 0, .int .i64 0, .string ⟨#[]⟩, .slice none 0 0]⟩
 | 175 => some ⟨.oth, 1, 8, [.pointer none]⟩
 | 177 => some ⟨.sl 21, 1, 24, [.slice none 0 0]⟩
 | 182 => some ⟨.int .u64, 1, 8, [.int .u64 0]⟩
 | 188 => some ⟨.sl 190, 1, 24, [.slice none 0 0]⟩
 | 190 => some ⟨.st [(3, 0, 1), (188, 1, 1)], 2, 32, [.int .i64 0, .slice none 0 0]⟩
 | 204 => some ⟨.arr 256 5, 256, 256, [.int .u8 0, .int .u8 0, .int .u8 0, .int .u8 0, .int .u8 0, .int .u8 0, .int .u8 0, .int .u8 0, .int .u8 0, .int .u8 0, .int .u8 0, .int .u8 0, .int .u8 0, .int .u8 0, .int .u8 0, .int .u8 0, .int .u8 0, .int .u8 0, .int .u8 0, .int .u8 0, .int .u8 0, .int .u8 0, .int .u8 0, .int .u8 0, .int .u8 0, .int .u8 0, .int .u8 0, .int .u8 0, .int .u8 0, .int .u8 0, .int .u8 0, .int .u8 0, .int .u8 0, .int .u8 0, .int .u8 0, .int .u8 0, .int .u8 0, .int .u8 0, .int .u8 0, .int .u8 0, .int .u8 0, .int .u8 0, .int .u8 0, .int .u8 0, .int .u8 0, .int .u8 0, .int .u8 0, .int .u8 0, .int .u8 0, .int .u8 0, .int .u8 0, .int .u8 0, .int .u8 0, .int .u8 0, .int .u8 0, .int .u8 0, .int .u8 0, .int .u8 0, .int .u8 0, .int .u8 0, .int .u8 0, .int .u8 0, .int .u8 0, .int .u8 0, .int .u8 0, .int .u8 0, .int .u8 0, .int .u8 0, .int .u8 0, .int .u8 0, .int .u8 0, .int .u8 0, .int .u8 0, .int .u8 0, .int .u8 0, .int .u8 0, .int .u8 0, .int .u8 0, .int .u8 0, .int .u8 0, .int .u8 0, .int .u8 0, .int .u8 0, .int .u8 0, .int .u8 0, .int .u8 0, .int .u8 0, .int .u8 0, .int .u8 0, .int .u8 0, .int .u8 0, .int .u8 0, .int .u8 0, .int .u8 0, .int .u8 0, .int .u8 0, .int .u8 0, .int .u8 0, .int .u8 0, .int .u8 0, .int .u8 0, .int .u8 0, .int .u8 0, .int .u8 0, .int .u8 0, .int .u8 0, .int .u8 0, .int .u8 0, .int .u8 0, .int .u8 0, .int .u8 0, .int .u8 0, .int .u8 0, .int .u8 0, .int .u8 0, .int .u8 0, .int .u8 0, .int .u8 0, .int .u8 0, .int .u8 0, .int .u8 0, .int .u8 0, .int .u8 0, .int .u8 0, .int .u8 0, .int .u8 0, .int .u8 0, .int .u8 0, .int .u8 0, .int .u8 0, .int .u8 0, .int .u8 0, .int .u8 0, .int .u8 0, .int .u8 0, .int .u8 0, .int .u8 0, .int .u8 0, .int .u8 0, .int .u8 0, .int .u8 0, .int .u8 0, .int .u8 0, .int .u8 0, .int .u8 0, .int .u8 0, .int .u8 0, .int .u8 0, .int .u8 0, .int .u8 0, .int .u8 0, .int .u8 0, .int .u8 0, .int .u8 0, .int .u8 0, .int .u8 0, .int .u8 0, .int .u8 0, .int .u8 0, .int .u8 0, .int .u8 0, .int .u8 0, .int .u8 0, .int .u8 0, .int .u8 0, .int .u8 0, .int .u8 0, .int .u8 0, .int .u8 0, .int .u8 0, .int .u8 0, .int .u8 0, .int .u8 0, .int .u8 0, .int .u8 0, .int .u8 0, .int .u8 0, .int .u8 0, .int .u8 0, .int .u8 0, .int .u8 0, .int .u8 0, .int .u8 0, .int .u8 0, .int .u8 0, .int .u8 0, .int .u8 0, .int .u8 0, .int .u8 0, .int .u8 0, .int .u8 0, .int .u8 0, .int .u8 0, .int .u8 0, .int .u8 0, .int .u8 0, .int .u8 0, .int .u8 0, .int .u8 0, .int .u8 0, .int .u8 0, .int .u8 0, .int .u8 0, .int .u8 0, .int .u8 0, .int .u8 0, .int .u8 0, .int .u8 0, .int .u8 0, .int .u8 0, .int .u8 0, .int .u8 0, .int .u8 0, .int .u8 0, .int .u8 0, .int .u8 0, .int .u8 0, .int .u8 0, .int .u8 0, .int .u8 0, .int .u8 0, .int .u8 0, .int .u8 0, .int .u8 0, .int .u8 0, .int .u8 0, .int .u8 0, .int .u8 0, .int .u8 0, .int .u8 0, .int .u8 0, .int .u8 0, .int .u8 0, .int .u8 0, .int .u8 0, .int .u8 0, .int .u8 0, .int .u8 0, .int .u8 0, .int .u8 0, .int .u8 0, .int .u8 0, .int .u8 0, .int .u8 0, .int .u8 0, .int .u8 0, .int .u8 0, .int .u8 0, .int .u8 0, .int .u8 0, .int .u8 0, .int .u8 0, .int .u8 0, .int .u8 0, .int .u8 0, .int .u8 0]⟩
 | 206 => some ⟨.st [(5, 0, 1), (5, 1, 1)], 2, 2, [.int .u8 0, .int .u8 0]⟩
 | 207 => some ⟨.arr 16 206, 32, 32, [.int .u8 0, .int .u8 0, .int .u8 0, .int .u8 0, .int .u8 0, .int .u8 0, .int .u8 0, .int .u8 0, .int .u8 0, .int .u8 0, .int .u8 0, .int .u8 0, .int .u8 0, .int .u8 0, .int .u8 0, .int .u8 0, .int .u8 0, .int .u8 0, .int .u8 0, .int .u8 0, .int .u8 0, .int .u8 0, .int .u8 0, .int .u8 0, .int .u8 0, .int .u8 0, .int .u8 0, .int .u8 0, .int .u8 0, .int .u8 0, .int .u8 0, .int .u8 0]⟩
 | 208 => some ⟨.int .u64, 1, 8, [.int .u64 0]⟩
 | _ => none
theorem ti3 : eD Tryz.prog 3 = cJ 3 := by kernel_rfl
theorem ti4 : eD Tryz.prog 4 = cJ 4 := by kernel_rfl
theorem ti5 : eD Tryz.prog 5 = cJ 5 := by kernel_rfl
theorem ti9 : eD Tryz.prog 9 = cJ 9 := by kernel_rfl
theorem ti12 : eD Tryz.prog 12 = cJ 12 := by kernel_rfl
theorem ti21 : eD Tryz.prog 21 = cJ 21 := by kernel_rfl
theorem ti22 : eD Tryz.prog 22 = cJ 22 := by kernel_rfl
theorem ti23 : eD Tryz.prog 23 = cJ 23 := by kernel_rfl
theorem ti25 : eD Tryz.prog 25 = cJ 25 := by kernel_rfl
theorem ti27 : eD Tryz.prog 27 = cJ 27 := by kernel_rfl
theorem ti29 : eD Tryz.prog 29 = cJ 29 := by kernel_rfl
theorem ti31 : eD Tryz.prog 31 = cJ 31 := by kernel_rfl
theorem ti33 : eD Tryz.prog 33 = cJ 33 := by kernel_rfl
theorem ti35 : eD Tryz.prog 35 = cJ 35 := by kernel_rfl
theorem ti38 : eD Tryz.prog 38 = cJ 38 := by kernel_rfl
theorem ti40 : eD Tryz.prog 40 = cJ 40 := by kernel_rfl
theorem ti43 : eD Tryz.prog 43 = cJ 43 := by kernel_rfl
theorem ti44 : eD Tryz.prog 44 = cJ 44 := by kernel_rfl
theorem ti45 : eD Tryz.prog 45 = cJ 45 := by kernel_rfl
theorem ti52 : eD Tryz.prog 52 = cJ 52 := by kernel_rfl
theorem ti54 : eD Tryz.prog 54 = cJ 54 := by kernel_rfl
theorem ti55 : eD Tryz.prog 55 = cJ 55 := by kernel_rfl
theorem ti56 : eD Tryz.prog 56 = cJ 56 := by kernel_rfl
theorem ti58 : eD Tryz.prog 58 = cJ 58 := by kernel_rfl
theorem ti61 : eD Tryz.prog 61 = cJ 61 := by kernel_rfl
theorem ti63 : eD Tryz.prog 63 = cJ 63 := by kernel_rfl
theorem ti67 : eD Tryz.prog 67 = cJ 67 := by kernel_rfl
theorem ti68 : eD Tryz.prog 68 = cJ 68 := by kernel_rfl
theorem ti70 : eD Tryz.prog 70 = cJ 70 := by kernel_rfl
theorem ti78 : eD Tryz.prog 78 = cJ 78 := by kernel_rfl
theorem ti81 : eD Tryz.prog 81 = cJ 81 := by kernel_rfl
theorem ti83 : eD Tryz.prog 83 = cJ 83 := by kernel_rfl
theorem ti85 : eD Tryz.prog 85 = cJ 85 := by kernel_rfl
theorem ti88 : eD Tryz.prog 88 = cJ 88 := by kernel_rfl
theorem ti89 : eD Tryz.prog 89 = cJ 89 := by kernel_rfl
theorem ti90 : eD Tryz.prog 90 = cJ 90 := by kernel_rfl
theorem ti92 : eD Tryz.prog 92 = cJ 92 := by kernel_rfl
theorem ti95 : eD Tryz.prog 95 = cJ 95 := by kernel_rfl
theorem ti97 : eD Tryz.prog 97 = cJ 97 := by kernel_rfl
theorem ti100 : eD Tryz.prog 100 = cJ 100 := by kernel_rfl
theorem ti111 : eD Tryz.prog 111 = cJ 111 := by kernel_rfl
theorem ti112 : eD Tryz.prog 112 = cJ 112 := by kernel_rfl
theorem ti122 : eD Tryz.prog 122 = cJ 122 := by kernel_rfl
theorem Zw : eD Tryz.prog 126 = cJ 126 := by kernel_rfl
theorem ti127 : eD Tryz.prog 127 = cJ 127 := by kernel_rfl
theorem ti130 : eD Tryz.prog 130 = cJ 130 := by kernel_rfl
theorem ti133 : eD Tryz.prog 133 = cJ 133 := by kernel_rfl
theorem ti137 : eD Tryz.prog 137 = cJ 137 := by kernel_rfl
theorem ti150 : eD Tryz.prog 150 = cJ 150 := by kernel_rfl
theorem ti152 : eD Tryz.prog 152 = cJ 152 := by kernel_rfl
theorem ti159 : eD Tryz.prog 159 = cJ 159 := by kernel_rfl
theorem ti160 : eD Tryz.prog 160 = cJ 160 := by kernel_rfl
theorem ti164 : eD Tryz.prog 164 = cJ 164 := by kernel_rfl
theorem ti165 : eD Tryz.prog 165 = cJ 165 := by kernel_rfl
theorem ti172 : eD Tryz.prog 172 = cJ 172 := by kernel_rfl
theorem ti175 : eD Tryz.prog 175 = cJ 175 := by kernel_rfl
theorem ti177 : eD Tryz.prog 177 = cJ 177 := by kernel_rfl
theorem ti182 : eD Tryz.prog 182 = cJ 182 := by kernel_rfl
theorem ti188 : eD Tryz.prog 188 = cJ 188 := by kernel_rfl
theorem ti190 : eD Tryz.prog 190 = cJ 190 := by kernel_rfl
theorem ti204 : eD Tryz.prog 204 = cJ 204 := by kernel_rfl
theorem aA1 : eD Tryz.prog 206 = cJ 206 := by kernel_rfl
theorem ti207 : eD Tryz.prog 207 = cJ 207 := by kernel_rfl
theorem Zz : eD Tryz.prog 208 = cJ 208 := by kernel_rfl
theorem Tf (T : TypeId) (i : TI) (h : cJ T = some i) : i.ok Tryz.prog T := by
 unfold cJ at h
 split at h
 ·exact bI (ti3.trans h)
 ·exact bI (ti4.trans h)
 ·exact bI (ti5.trans h)
 ·exact bI (ti9.trans h)
 ·exact bI (ti12.trans h)
 ·exact bI (ti21.trans h)
 ·exact bI (ti22.trans h)
 ·exact bI (ti23.trans h)
 ·exact bI (ti25.trans h)
 ·exact bI (ti27.trans h)
 ·exact bI (ti29.trans h)
 ·exact bI (ti31.trans h)
 ·exact bI (ti33.trans h)
 ·exact bI (ti35.trans h)
 ·exact bI (ti38.trans h)
 ·exact bI (ti40.trans h)
 ·exact bI (ti43.trans h)
 ·exact bI (ti44.trans h)
 ·exact bI (ti45.trans h)
 ·exact bI (ti52.trans h)
 ·exact bI (ti54.trans h)
 ·exact bI (ti55.trans h)
 ·exact bI (ti56.trans h)
 ·exact bI (ti58.trans h)
 ·exact bI (ti61.trans h)
 ·exact bI (ti63.trans h)
 ·exact bI (ti67.trans h)
 ·exact bI (ti68.trans h)
 ·exact bI (ti70.trans h)
 ·exact bI (ti78.trans h)
 ·exact bI (ti81.trans h)
 ·exact bI (ti83.trans h)
 ·exact bI (ti85.trans h)
 ·exact bI (ti88.trans h)
 ·exact bI (ti89.trans h)
 ·exact bI (ti90.trans h)
 ·exact bI (ti92.trans h)
 ·exact bI (ti95.trans h)
 ·exact bI (ti97.trans h)
 ·exact bI (ti100.trans h)
 ·exact bI (ti111.trans h)
 ·exact bI (ti112.trans h)
 ·exact bI (ti122.trans h)
 ·exact bI (Zw.trans h)
 ·exact bI (ti127.trans h)
 ·exact bI (ti130.trans h)
 ·exact bI (ti133.trans h)
 ·exact bI (ti137.trans h)
 ·exact bI (ti150.trans h)
 ·exact bI (ti152.trans h)
 ·exact bI (ti159.trans h)
 ·exact bI (ti160.trans h)
 ·exact bI (ti164.trans h)
 ·exact bI (ti165.trans h)
 ·exact bI (ti172.trans h)
 ·exact bI (ti175.trans h)
 ·exact bI (ti177.trans h)
 ·exact bI (ti182.trans h)
 ·exact bI (ti188.trans h)
 ·exact bI (ti190.trans h)
 ·exact bI (ti204.trans h)
 ·exact bI (aA1.trans h)
 ·exact bI (ti207.trans h)
 ·exact bI (Zz.trans h)
 ·cases h
def bE : List bR := [⟨true, 0, 16777215, 0⟩, ⟨false, (-1), 16777215, (-1)⟩, ⟨true, 1, 1000, 16⟩, ⟨true, 0, 7, 0⟩, ⟨true, 0, 1, 0⟩, ⟨false, 0, 4, 1⟩, ⟨false, 0, 4, 3⟩, ⟨false, 0, 3, 0⟩, ⟨true, 0, 2, 0⟩, ⟨false, 0, 1048576, 0⟩, ⟨false, 0, 1000, 0⟩, ⟨false, 0, 1000, 1⟩, ⟨false, (-1), 1048576, (-1)⟩, ⟨false, 0, 1048576, 0⟩, ⟨false, 0, 1048576, 1048576⟩, ⟨false, 0, 1048576, 0⟩, ⟨false, 0, 1048576, 1048576⟩, ⟨false, 0, 1048576, 0⟩, ⟨false, 0, 1048576, 0⟩, ⟨false, 0, 1048576, 0⟩, ⟨false, 0, 1048576, 0⟩, ⟨true, 0, 1, 0⟩]
def gQ : List Int := (Pinned.utf8FirstZ.map Int.ofNat)
def cW : List bU := [⟨128, 191⟩, ⟨160, 191⟩, ⟨128, 159⟩, ⟨144, 191⟩, ⟨128, 143⟩, ⟨0, 0⟩, ⟨0, 0⟩, ⟨0, 0⟩, ⟨0, 0⟩, ⟨0, 0⟩, ⟨0, 0⟩, ⟨0, 0⟩, ⟨0, 0⟩, ⟨0, 0⟩, ⟨0, 0⟩, ⟨0, 0⟩]
def Oo : Nat → Option (List CV)
 | 0 => some (List.flatten (List.map iM bE))
 | 1 => some (List.flatten (List.map Qo gQ))
 | 2 => some (List.flatten (List.map iV cW))
 | _ => none
noncomputable def E : oD := ⟨Tryz.prog, cJ, Tf, Oo, by kernel_rfl⟩
theorem fok9 : bQ E 9 := ⟨Tryz.f9, Tryz.func9, by kernel_rfl, rfl⟩
theorem Zy : bQ E 10 := ⟨Tryz.f10, Tryz.func10, by kernel_rfl, rfl⟩
theorem fok11 : bQ E 11 := ⟨Tryz.f11, Tryz.func11, by kernel_rfl, rfl⟩
theorem fok14 : bQ E 14 := ⟨Tryz.f14, Tryz.func14, by kernel_rfl, rfl⟩
theorem cL : bQ E 15 := ⟨Tryz.f15, Tryz.func15, by kernel_rfl, rfl⟩
theorem Nn : bQ E 16 := ⟨Tryz.f16, Tryz.func16, by kernel_rfl, rfl⟩
theorem fok17 : bQ E 17 := ⟨Tryz.f17, Tryz.func17, by kernel_rfl, rfl⟩
theorem fok20 : bQ E 20 := ⟨Tryz.f20, Tryz.func20, by kernel_rfl, rfl⟩
theorem Xn : bQ E 21 := ⟨Tryz.f21, Tryz.func21, by kernel_rfl, rfl⟩
theorem Wx : bQ E 22 := ⟨Tryz.f22, Tryz.func22, by kernel_rfl, rfl⟩
theorem Wp : bQ E 23 := ⟨Tryz.f23, Tryz.func23, by kernel_rfl, rfl⟩
theorem Wv : bQ E 26 := ⟨Tryz.f26, Tryz.func26, by kernel_rfl, rfl⟩
theorem fok27 : bQ E 27 := ⟨Tryz.f27, Tryz.func27, by kernel_rfl, rfl⟩
theorem Xh : bQ E 28 := ⟨Tryz.f28, Tryz.func28, by kernel_rfl, rfl⟩
theorem Rn : bQ E 32 := ⟨Tryz.f32, Tryz.func32, by kernel_rfl, rfl⟩
theorem fok33 : bQ E 33 := ⟨Tryz.f33, Tryz.func33, by kernel_rfl, rfl⟩
theorem fok34 : bQ E 34 := ⟨Tryz.f34, Tryz.func34, by kernel_rfl, rfl⟩
theorem fok35 : bQ E 35 := ⟨Tryz.f35, Tryz.func35, by kernel_rfl, rfl⟩
theorem Xm : bQ E 36 := ⟨Tryz.f36, Tryz.func36, by kernel_rfl, rfl⟩
theorem fok37 : bQ E 37 := ⟨Tryz.f37, Tryz.func37, by kernel_rfl, rfl⟩
theorem Ov : bQ E 38 := ⟨Tryz.f38, Tryz.func38, by kernel_rfl, rfl⟩
theorem Ww : bQ E 39 := ⟨Tryz.f39, Tryz.func39, by kernel_rfl, rfl⟩
theorem fok40 : bQ E 40 := ⟨Tryz.f40, Tryz.func40, by kernel_rfl, rfl⟩
theorem fok41 : bQ E 41 := ⟨Tryz.f41, Tryz.func41, by kernel_rfl, rfl⟩
theorem fok42 : bQ E 42 := ⟨Tryz.f42, Tryz.func42, by kernel_rfl, rfl⟩
theorem Nu : bQ E 45 := ⟨Tryz.f45, Tryz.func45, by kernel_rfl, rfl⟩
theorem fok49 : bQ E 49 := ⟨Tryz.f49, Tryz.func49, by kernel_rfl, rfl⟩
theorem Ta : bQ E 50 := ⟨Tryz.f50, Tryz.func50, by kernel_rfl, rfl⟩
theorem Wq : bQ E 51 := ⟨Tryz.f51, Tryz.func51, by kernel_rfl, rfl⟩
theorem fok52 : bQ E 52 := ⟨Tryz.f52, Tryz.func52, by kernel_rfl, rfl⟩
theorem Og : bQ E 53 := ⟨Tryz.f53, Tryz.func53, by kernel_rfl, rfl⟩
theorem fok54 : bQ E 54 := ⟨Tryz.f54, Tryz.func54, by kernel_rfl, rfl⟩
theorem Xl : bQ E 57 := ⟨Tryz.f57, Tryz.func57, by kernel_rfl, rfl⟩
theorem Xi : bQ E 58 := ⟨Tryz.f58, Tryz.func58, by kernel_rfl, rfl⟩
theorem Sl : bQ E 59 := ⟨Tryz.f59, Tryz.func59, by kernel_rfl, rfl⟩
theorem Xf : bQ E 60 := ⟨Tryz.f60, Tryz.func60, by kernel_rfl, rfl⟩
theorem fok65 : bQ E 65 := ⟨Tryz.f65, Tryz.func65, by kernel_rfl, rfl⟩
theorem Cp : bQ E 66 := ⟨Tryz.f66, Tryz.func66, by kernel_rfl, rfl⟩
theorem fok67 : bQ E 67 := ⟨Tryz.f67, Tryz.func67, by kernel_rfl, rfl⟩
theorem aA3 : bQ E 68 := ⟨Tryz.f68, Tryz.func68, by kernel_rfl, rfl⟩
theorem fok69 : bQ E 69 := ⟨Tryz.f69, Tryz.func69, by kernel_rfl, rfl⟩
theorem fok70 : bQ E 70 := ⟨Tryz.f70, Tryz.func70, by kernel_rfl, rfl⟩
theorem fok71 : bQ E 71 := ⟨Tryz.f71, Tryz.func71, by kernel_rfl, rfl⟩
theorem fok72 : bQ E 72 := ⟨Tryz.f72, Tryz.func72, by kernel_rfl, rfl⟩
theorem aA0 : bQ E 73 := ⟨Tryz.f73, Tryz.func73, by kernel_rfl, rfl⟩
theorem Tx : bQ E 74 := ⟨Tryz.f74, Tryz.func74, by kernel_rfl, rfl⟩
theorem fok75 : bQ E 75 := ⟨Tryz.f75, Tryz.func75, by kernel_rfl, rfl⟩
theorem fok76 : bQ E 76 := ⟨Tryz.f76, Tryz.func76, by kernel_rfl, rfl⟩
theorem fok77 : bQ E 77 := ⟨Tryz.f77, Tryz.func77, by kernel_rfl, rfl⟩
theorem Xd : bQ E 80 := ⟨Tryz.f80, Tryz.func80, by kernel_rfl, rfl⟩
theorem fok86 : bQ E 86 := ⟨Tryz.f86, Tryz.func86, by kernel_rfl, rfl⟩
theorem aA4 : bQ E 87 := ⟨Tryz.f87, Tryz.func87, by kernel_rfl, rfl⟩
theorem Wt : bQ E 88 := ⟨Tryz.f88, Tryz.func88, by kernel_rfl, rfl⟩
theorem Xb : bQ E 89 := ⟨Tryz.f89, Tryz.func89, by kernel_rfl, rfl⟩
theorem fok90 : bQ E 90 := ⟨Tryz.f90, Tryz.func90, by kernel_rfl, rfl⟩
theorem fok91 : bQ E 91 := ⟨Tryz.f91, Tryz.func91, by kernel_rfl, rfl⟩
theorem fok92 : bQ E 92 := ⟨Tryz.f92, Tryz.func92, by kernel_rfl, rfl⟩
theorem fok93 : bQ E 93 := ⟨Tryz.f93, Tryz.func93, by kernel_rfl, rfl⟩
theorem Xo : bQ E 94 := ⟨Tryz.f94, Tryz.func94, by kernel_rfl, rfl⟩
theorem fok95 : bQ E 95 := ⟨Tryz.f95, Tryz.func95, by kernel_rfl, rfl⟩
theorem fok96 : bQ E 96 := ⟨Tryz.f96, Tryz.func96, by kernel_rfl, rfl⟩
theorem Wy : bQ E 97 := ⟨Tryz.f97, Tryz.func97, by kernel_rfl, rfl⟩
theorem Xe : bQ E 98 := ⟨Tryz.f98, Tryz.func98, by kernel_rfl, rfl⟩
theorem Xu : bQ E 101 := ⟨Tryz.f101, Tryz.func101, by kernel_rfl, rfl⟩
theorem Qx : bQ E 102 := ⟨Tryz.f102, Tryz.func102, by kernel_rfl, rfl⟩
theorem Ik : bQ E 103 := ⟨Tryz.f103, Tryz.func103, by kernel_rfl, rfl⟩
theorem Ss : bQ E 104 := ⟨Tryz.f104, Tryz.func104, by kernel_rfl, rfl⟩
theorem Xy : bQ E 105 := ⟨Tryz.f105, Tryz.func105, by kernel_rfl, rfl⟩
theorem Xv : bQ E 106 := ⟨Tryz.f106, Tryz.func106, by kernel_rfl, rfl⟩
theorem Yc : bQ E 107 := ⟨Tryz.f107, Tryz.func107, by kernel_rfl, rfl⟩
theorem Mh : bQ E 108 := ⟨Tryz.f108, Tryz.func108, by kernel_rfl, rfl⟩
theorem Zf : bQ E 113 := ⟨Tryz.f113, Tryz.func113, by kernel_rfl, rfl⟩
theorem Qv : bQ E 114 := ⟨Tryz.f114, Tryz.func114, by kernel_rfl, rfl⟩
theorem Rw : bQ E 115 := ⟨Tryz.f115, Tryz.func115, by kernel_rfl, rfl⟩
theorem Ec : bQ E 116 := ⟨Tryz.f116, Tryz.func116, by kernel_rfl, rfl⟩
theorem Hn : bQ E 117 := ⟨Tryz.f117, Tryz.func117, by kernel_rfl, rfl⟩
theorem yJ : bQ E 118 := ⟨Tryz.f118, Tryz.func118, by kernel_rfl, rfl⟩
theorem Xs : bQ E 119 := ⟨Tryz.f119, Tryz.func119, by kernel_rfl, rfl⟩
theorem Zk : bQ E 120 := ⟨Tryz.f120, Tryz.func120, by kernel_rfl, rfl⟩
theorem Tu : bQ E 121 := ⟨Tryz.f121, Tryz.func121, by kernel_rfl, rfl⟩
theorem Qw : bQ E 122 := ⟨Tryz.f122, Tryz.func122, by kernel_rfl, rfl⟩
theorem Zg : bQ E 123 := ⟨Tryz.f123, Tryz.func123, by kernel_rfl, rfl⟩
theorem Rr : bQ E 124 := ⟨Tryz.f124, Tryz.func124, by kernel_rfl, rfl⟩
theorem Yn : bQ E 125 := ⟨Tryz.f125, Tryz.func125, by kernel_rfl, rfl⟩
theorem Yg : bQ E 126 := ⟨Tryz.f126, Tryz.func126, by kernel_rfl, rfl⟩
theorem Rs : bQ E 127 := ⟨Tryz.f127, Tryz.func127, by kernel_rfl, rfl⟩
theorem Xt : bQ E 129 := ⟨Tryz.f129, Tryz.func129, by kernel_rfl, rfl⟩
theorem Yk : bQ E 130 := ⟨Tryz.f130, Tryz.func130, by kernel_rfl, rfl⟩
theorem Yj : bQ E 131 := ⟨Tryz.f131, Tryz.func131, by kernel_rfl, rfl⟩
theorem Zb : bQ E 132 := ⟨Tryz.f132, Tryz.func132, by kernel_rfl, rfl⟩
theorem Sb : bQ E 133 := ⟨Tryz.f133, Tryz.func133, by kernel_rfl, rfl⟩
theorem Yl : bQ E 134 := ⟨Tryz.f134, Tryz.func134, by kernel_rfl, rfl⟩
theorem Xp : bQ E 135 := ⟨Tryz.f135, Tryz.func135, by kernel_rfl, rfl⟩
theorem Mx : bQ E 136 := ⟨Tryz.f136, Tryz.func136, by kernel_rfl, rfl⟩
theorem Yf : bQ E 137 := ⟨Tryz.f137, Tryz.func137, by kernel_rfl, rfl⟩
theorem Xx : bQ E 138 := ⟨Tryz.f138, Tryz.func138, by kernel_rfl, rfl⟩
theorem Rv : bQ E 139 := ⟨Tryz.f139, Tryz.func139, by kernel_rfl, rfl⟩
theorem Za : bQ E 140 := ⟨Tryz.f140, Tryz.func140, by kernel_rfl, rfl⟩
theorem Zl : bQ E 141 := ⟨Tryz.f141, Tryz.func141, by kernel_rfl, rfl⟩
theorem Ys : bQ E 142 := ⟨Tryz.f142, Tryz.func142, by kernel_rfl, rfl⟩
theorem Re : bQ E 143 := ⟨Tryz.f143, Tryz.func143, by kernel_rfl, rfl⟩
theorem Yu : bQ E 144 := ⟨Tryz.f144, Tryz.func144, by kernel_rfl, rfl⟩
theorem Yq : bQ E 145 := ⟨Tryz.f145, Tryz.func145, by kernel_rfl, rfl⟩
theorem Rg : bQ E 146 := ⟨Tryz.f146, Tryz.func146, by kernel_rfl, rfl⟩
theorem Ro : bQ E 147 := ⟨Tryz.f147, Tryz.func147, by kernel_rfl, rfl⟩
theorem Rj : bQ E 148 := ⟨Tryz.f148, Tryz.func148, by kernel_rfl, rfl⟩
theorem Yh : bQ E 149 := ⟨Tryz.f149, Tryz.func149, by kernel_rfl, rfl⟩
theorem Yb : bQ E 150 := ⟨Tryz.f150, Tryz.func150, by kernel_rfl, rfl⟩
theorem Yr : bQ E 151 := ⟨Tryz.f151, Tryz.func151, by kernel_rfl, rfl⟩
theorem Yo : bQ E 152 := ⟨Tryz.f152, Tryz.func152, by kernel_rfl, rfl⟩
theorem Mb : bQ E 153 := ⟨Tryz.f153, Tryz.func153, by kernel_rfl, rfl⟩
theorem Rd : bQ E 155 := ⟨Tryz.f155, Tryz.func155, by kernel_rfl, rfl⟩
end Go.Proofs.YtojkihhnioeggaaGreatDoor.S
