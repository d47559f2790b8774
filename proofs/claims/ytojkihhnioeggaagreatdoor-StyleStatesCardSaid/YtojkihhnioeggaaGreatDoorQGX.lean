import Derived.Test.YtojkihhnioeggaaGreatDoorQBE
import Derived.Test.YtojkihhnioeggaaGreatDoorChecked
import GoSem.PinnedTables
set_option linter.unusedVariables false
namespace Go.Proofs.YtojkihhnioeggaaGreatDoor.S
open Go Go.Bm
structure aF where
 Kind : Int
 N : Int
 S : ByteArray
 L : (List aF)
instance : Inhabited aF := ⟨⟨default, default, default, default⟩⟩
mutual
def aN : aF → List CV
 | ⟨Kind, N, S, L⟩ => [I Kind, I N, Sx S, .lit (wM L)]
def wM : List aF → List (List CV)
 | [] => []
 | x :: l => aN x :: wM l
end
theorem zM : ∀ l, wM l = List.map aN l
 | [] => rfl
 | x :: l => by rw [wM, zM l]; rfl
theorem dF (x : aF) : aN x = [I x.Kind, I x.N, Sx x.S, .lit (List.map aN x.L)] := by
 cases x; simp only [aN, zM]
structure aY where
 Name : ByteArray
 Value : aF
instance : Inhabited aY := ⟨⟨default, default⟩⟩
def aM (x : aY) : List CV := [Sx x.Name, I x.Value.Kind, I x.Value.N, Sx x.Value.S, .lit (List.map aN x.Value.L)]
structure cA where
 Event : ByteArray
 Instance : ByteArray
 Handler : ByteArray
 Args : (List aF)
instance : Inhabited cA := ⟨⟨default, default, default, default⟩⟩
def aD (x : cA) : List CV := [Sx x.Event, Sx x.Instance, Sx x.Handler, .lit (List.map aN x.Args)]
structure aR where
 ID : Int
 Parent : Int
 Kind : Int
 Key : ByteArray
 Attrs : (List aY)
 Actions : (List cA)
 Kids : (List Int)
instance : Inhabited aR := ⟨⟨default, default, default, default, default, default, default⟩⟩
def aE (x : aR) : List CV := [I x.ID, I x.Parent, I x.Kind, Sx x.Key, .lit (List.map aM x.Attrs), .lit (List.map aD x.Actions), .lit (List.map aL x.Kids)]
structure bD where
 Root : Int
 Next : Int
 Nodes : (List aR)
instance : Inhabited bD := ⟨⟨default, default, default⟩⟩
structure dV where
 Prop_ : Int
 Source : Int
 N : Int
 Token : ByteArray
instance : Inhabited dV := ⟨⟨default, default, default, default⟩⟩
def bQ (x : dV) : List CV := [I x.Prop_, I x.Source, I x.N, Sx x.Token]
structure iK where
 Kind : Int
 Class : ByteArray
 States : Int
 UnderKind : Int
 UnderClass : ByteArray
 Decls : (List dV)
instance : Inhabited iK := ⟨⟨default, default, default, default, default, default⟩⟩
def bG (x : iK) : List CV := [I x.Kind, Sx x.Class, I x.States, I x.UnderKind, Sx x.UnderClass, .lit (List.map bQ x.Decls)]
structure cV where
 Rules : (List iK)
instance : Inhabited cV := ⟨⟨default⟩⟩
structure vY where
 Name : ByteArray
 Light : Int
 Dark : Int
 HighLight : Int
 HighDark : Int
instance : Inhabited vY := ⟨⟨default, default, default, default, default⟩⟩
def cD (x : vY) : List CV := [Sx x.Name, I x.Light, I x.Dark, I x.HighLight, I x.HighDark]
structure lV where
 Tokens : (List vY)
instance : Inhabited lV := ⟨⟨default⟩⟩
structure sF where
 Dark : Bool
 High : Bool
 Scale : Int
instance : Inhabited sF := ⟨⟨default, default, default⟩⟩
structure aP where
 ID : Int
 States : Int
instance : Inhabited aP := ⟨⟨default, default⟩⟩
def bA (x : aP) : List CV := [I x.ID, I x.States]
structure aA where
 x0 : Int
 x1 : Int
 x2 : Int
 x3 : Int
 x4 : Int
 x5 : Int
 x6 : Int
 x7 : Int
 x8 : Int
 x9 : Int
 x10 : Int
 x11 : Int
 x12 : Int
 x13 : Int
 x14 : Int
 x15 : Int
 x16 : Int
 x17 : Int
 x18 : Int
 x19 : Int
 x20 : Int
 x21 : Int
instance : Inhabited aA := ⟨⟨default, default, default, default, default, default, default, default, default, default, default, default, default, default, default, default, default, default, default, default, default, default⟩⟩
def aA.toL (a : aA) : List Int := [a.x0, a.x1, a.x2, a.x3, a.x4, a.x5, a.x6, a.x7, a.x8, a.x9, a.x10, a.x11, a.x12, a.x13, a.x14, a.x15, a.x16, a.x17, a.x18, a.x19, a.x20, a.x21]
def aA.ofL (l : List Int) : aA := ⟨l.getD 0 default, l.getD 1 default, l.getD 2 default, l.getD 3 default, l.getD 4 default, l.getD 5 default, l.getD 6 default, l.getD 7 default, l.getD 8 default, l.getD 9 default, l.getD 10 default, l.getD 11 default, l.getD 12 default, l.getD 13 default, l.getD 14 default, l.getD 15 default, l.getD 16 default, l.getD 17 default, l.getD 18 default, l.getD 19 default, l.getD 20 default, l.getD 21 default⟩
theorem aA.toL_ofL (l : List Int) (h : l.length = 22) : (aA.ofL l).toL = l := by
 refine List.ext_getElem (by simp [aA.toL, h]) fun i h1 h2 => ?_
 have hi : i = 0 ∨ i = 1 ∨ i = 2 ∨ i = 3 ∨ i = 4 ∨ i = 5 ∨ i = 6 ∨ i = 7 ∨ i = 8 ∨ i = 9 ∨ i = 10 ∨ i = 11 ∨ i = 12 ∨ i = 13 ∨ i = 14 ∨ i = 15 ∨ i = 16 ∨ i = 17 ∨ i = 18 ∨ i = 19 ∨ i = 20 ∨ i = 21 := by omega
 rcases hi with rfl | rfl | rfl | rfl | rfl | rfl | rfl | rfl | rfl | rfl | rfl | rfl | rfl | rfl | rfl | rfl | rfl | rfl | rfl | rfl | rfl | rfl <;> simp [aA.toL, aA.ofL, List.getD_eq_getElem?_getD, h2]
def aA.set (a : aA) (k : Nat) (v : Int) : aA := aA.ofL (a.toL.set k v)
def kZ (x : aA) : List CV := [I x.x0, I x.x1, I x.x2, I x.x3, I x.x4, I x.x5, I x.x6, I x.x7, I x.x8, I x.x9, I x.x10, I x.x11, I x.x12, I x.x13, I x.x14, I x.x15, I x.x16, I x.x17, I x.x18, I x.x19, I x.x20, I x.x21]
theorem aA.splice_eq (a : aA) (k : Nat) (v : Int) (hk : k < 22) : fG (kZ a) (k * 1) (aL v) = kZ (aA.set a k v) := by
 have h := lN (enc := aL) (sz := 1) (xs := a.toL) (k := k) (v := v) hk (fun x => by kernel_rfl)
 have h2 := aA.toL_ofL (a.toL.set k v) (by rw [List.length_set]; rfl)
 rw [← h2] at h
 exact h
structure cR where
 ID : Int
 Style : aA
instance : Inhabited cR := ⟨⟨default, default⟩⟩
def dM (x : cR) : List CV := [I x.ID, I x.Style.x0, I x.Style.x1, I x.Style.x2, I x.Style.x3, I x.Style.x4, I x.Style.x5, I x.Style.x6, I x.Style.x7, I x.Style.x8, I x.Style.x9, I x.Style.x10, I x.Style.x11, I x.Style.x12, I x.Style.x13, I x.Style.x14, I x.Style.x15, I x.Style.x16, I x.Style.x17, I x.Style.x18, I x.Style.x19, I x.Style.x20, I x.Style.x21]
structure aK where
 Kind : Int
 Key : ByteArray
 Attrs : (List aY)
 Actions : (List cA)
 Kids : (List aK)
instance : Inhabited aK := ⟨⟨default, default, default, default, default⟩⟩
mutual
def aV : aK → List CV
 | ⟨Kind, Key, Attrs, Actions, Kids⟩ => [I Kind, Sx Key, .lit (List.map aM Attrs), .lit (List.map aD Actions), .lit (Ah Kids)]
def Ah : List aK → List (List CV)
 | [] => []
 | x :: l => aV x :: Ah l
end
theorem Cs : ∀ l, Ah l = List.map aV l
 | [] => rfl
 | x :: l => by rw [Ah, Cs l]; rfl
theorem fL (x : aK) : aV x = [I x.Kind, Sx x.Key, .lit (List.map aM x.Attrs), .lit (List.map aD x.Actions), .lit (List.map aV x.Kids)] := by
 cases x; simp only [aV, Cs]
structure aS where
 L : (List Int)
 At : Int
instance : Inhabited aS := ⟨⟨default, default⟩⟩
structure kH where
 nodes : (List (Int × aR))
 class_ : (List (Int × ByteArray))
 states : (List (Int × Int))
instance : Inhabited kH := ⟨⟨default, default, default⟩⟩
structure lU where
 shape : kH
 rules : (List iK)
 order : (List Int)
 th : lV
 m : sF
instance : Inhabited lU := ⟨⟨default, default, default, default, default⟩⟩
structure cU where
 x0 : Int
 x1 : Int
instance : Inhabited cU := ⟨⟨default, default⟩⟩
def cU.toL (a : cU) : List Int := [a.x0, a.x1]
def cU.ofL (l : List Int) : cU := ⟨l.getD 0 default, l.getD 1 default⟩
theorem cU.toL_ofL (l : List Int) (h : l.length = 2) : (cU.ofL l).toL = l := by
 refine List.ext_getElem (by simp [cU.toL, h]) fun i h1 h2 => ?_
 have hi : i = 0 ∨ i = 1 := by omega
 rcases hi with rfl | rfl <;> simp [cU.toL, cU.ofL, List.getD_eq_getElem?_getD, h2]
def cU.set (a : cU) (k : Nat) (v : Int) : cU := cU.ofL (a.toL.set k v)
def Nb (x : cU) : List CV := [I x.x0, I x.x1]
theorem cU.splice_eq (a : cU) (k : Nat) (v : Int) (hk : k < 2) : fG (Nb a) (k * 1) (aL v) = Nb (cU.set a k v) := by
 have h := lN (enc := aL) (sz := 1) (xs := a.toL) (k := k) (v := v) hk (fun x => by kernel_rfl)
 have h2 := cU.toL_ofL (a.toL.set k v) (by rw [List.length_set]; rfl)
 rw [← h2] at h
 exact h
structure bM where
 inherited : Bool
 low : Int
 high : Int
 start : Int
instance : Inhabited bM := ⟨⟨default, default, default, default⟩⟩
def iG (x : bM) : List CV := [Bo x.inherited, I x.low, I x.high, I x.start]
structure bY where
 x0 : bM
 x1 : bM
 x2 : bM
 x3 : bM
 x4 : bM
 x5 : bM
 x6 : bM
 x7 : bM
 x8 : bM
 x9 : bM
 x10 : bM
 x11 : bM
 x12 : bM
 x13 : bM
 x14 : bM
 x15 : bM
 x16 : bM
 x17 : bM
 x18 : bM
 x19 : bM
 x20 : bM
 x21 : bM
instance : Inhabited bY := ⟨⟨default, default, default, default, default, default, default, default, default, default, default, default, default, default, default, default, default, default, default, default, default, default⟩⟩
def bY.toL (a : bY) : List bM := [a.x0, a.x1, a.x2, a.x3, a.x4, a.x5, a.x6, a.x7, a.x8, a.x9, a.x10, a.x11, a.x12, a.x13, a.x14, a.x15, a.x16, a.x17, a.x18, a.x19, a.x20, a.x21]
def bY.ofL (l : List bM) : bY := ⟨l.getD 0 default, l.getD 1 default, l.getD 2 default, l.getD 3 default, l.getD 4 default, l.getD 5 default, l.getD 6 default, l.getD 7 default, l.getD 8 default, l.getD 9 default, l.getD 10 default, l.getD 11 default, l.getD 12 default, l.getD 13 default, l.getD 14 default, l.getD 15 default, l.getD 16 default, l.getD 17 default, l.getD 18 default, l.getD 19 default, l.getD 20 default, l.getD 21 default⟩
theorem bY.toL_ofL (l : List bM) (h : l.length = 22) : (bY.ofL l).toL = l := by
 refine List.ext_getElem (by simp [bY.toL, h]) fun i h1 h2 => ?_
 have hi : i = 0 ∨ i = 1 ∨ i = 2 ∨ i = 3 ∨ i = 4 ∨ i = 5 ∨ i = 6 ∨ i = 7 ∨ i = 8 ∨ i = 9 ∨ i = 10 ∨ i = 11 ∨ i = 12 ∨ i = 13 ∨ i = 14 ∨ i = 15 ∨ i = 16 ∨ i = 17 ∨ i = 18 ∨ i = 19 ∨ i = 20 ∨ i = 21 := by omega
 rcases hi with rfl | rfl | rfl | rfl | rfl | rfl | rfl | rfl | rfl | rfl | rfl | rfl | rfl | rfl | rfl | rfl | rfl | rfl | rfl | rfl | rfl | rfl <;> simp [bY.toL, bY.ofL, List.getD_eq_getElem?_getD, h2]
def bY.set (a : bY) (k : Nat) (v : bM) : bY := bY.ofL (a.toL.set k v)
def uC (x : bY) : List CV := [Bo x.x0.inherited, I x.x0.low, I x.x0.high, I x.x0.start, Bo x.x1.inherited, I x.x1.low, I x.x1.high, I x.x1.start, Bo x.x2.inherited, I x.x2.low, I x.x2.high, I x.x2.start, Bo x.x3.inherited, I x.x3.low, I x.x3.high, I x.x3.start, Bo x.x4.inherited, I x.x4.low, I x.x4.high, I x.x4.start, Bo x.x5.inherited, I x.x5.low, I x.x5.high, I x.x5.start, Bo x.x6.inherited, I x.x6.low, I x.x6.high, I x.x6.start, Bo x.x7.inherited, I x.x7.low, I x.x7.high, I x.x7.start, Bo x.x8.inherited, I x.x8.low, I x.x8.high, I x.x8.start, Bo x.x9.inherited, I x.x9.low, I x.x9.high, I x.x9.start, Bo x.x10.inherited, I x.x10.low, I x.x10.high, I x.x10.start, Bo x.x11.inherited, I x.x11.low, I x.x11.high, I x.x11.start, Bo x.x12.inherited, I x.x12.low, I x.x12.high, I x.x12.start, Bo x.x13.inherited, I x.x13.low, I x.x13.high, I x.x13.start, Bo x.x14.inherited, I x.x14.low, I x.x14.high, I x.x14.start, Bo x.x15.inherited, I x.x15.low, I x.x15.high, I x.x15.start, Bo x.x16.inherited, I x.x16.low, I x.x16.high, I x.x16.start, Bo x.x17.inherited, I x.x17.low, I x.x17.high, I x.x17.start, Bo x.x18.inherited, I x.x18.low, I x.x18.high, I x.x18.start, Bo x.x19.inherited, I x.x19.low, I x.x19.high, I x.x19.start, Bo x.x20.inherited, I x.x20.low, I x.x20.high, I x.x20.start, Bo x.x21.inherited, I x.x21.low, I x.x21.high, I x.x21.start]
theorem bY.splice_eq (a : bY) (k : Nat) (v : bM) (hk : k < 22) : fG (uC a) (k * 4) (iG v) = uC (bY.set a k v) := by
 have h := lN (enc := iG) (sz := 4) (xs := a.toL) (k := k) (v := v) hk (fun x => by kernel_rfl)
 have h2 := bY.toL_ofL (a.toL.set k v) (by rw [List.length_set]; rfl)
 rw [← h2] at h
 exact h
structure gR where
 x0 : Int
 x1 : Int
 x2 : Int
 x3 : Int
instance : Inhabited gR := ⟨⟨default, default, default, default⟩⟩
def gR.toL (a : gR) : List Int := [a.x0, a.x1, a.x2, a.x3]
def gR.ofL (l : List Int) : gR := ⟨l.getD 0 default, l.getD 1 default, l.getD 2 default, l.getD 3 default⟩
theorem gR.toL_ofL (l : List Int) (h : l.length = 4) : (gR.ofL l).toL = l := by
 refine List.ext_getElem (by simp [gR.toL, h]) fun i h1 h2 => ?_
 have hi : i = 0 ∨ i = 1 ∨ i = 2 ∨ i = 3 := by omega
 rcases hi with rfl | rfl | rfl | rfl <;> simp [gR.toL, gR.ofL, List.getD_eq_getElem?_getD, h2]
def gR.set (a : gR) (k : Nat) (v : Int) : gR := gR.ofL (a.toL.set k v)
def Lu (x : gR) : List CV := [I x.x0, I x.x1, I x.x2, I x.x3]
theorem gR.splice_eq (a : gR) (k : Nat) (v : Int) (hk : k < 4) : fG (Lu a) (k * 1) (aL v) = Lu (gR.set a k v) := by
 have h := lN (enc := aL) (sz := 1) (xs := a.toL) (k := k) (v := v) hk (fun x => by kernel_rfl)
 have h2 := gR.toL_ofL (a.toL.set k v) (by rw [List.length_set]; rfl)
 rw [← h2] at h
 exact h
structure bS where
 x0 : ByteArray
 x1 : ByteArray
instance : Inhabited bS := ⟨⟨default, default⟩⟩
def bS.toL (a : bS) : List ByteArray := [a.x0, a.x1]
def bS.ofL (l : List ByteArray) : bS := ⟨l.getD 0 default, l.getD 1 default⟩
theorem bS.toL_ofL (l : List ByteArray) (h : l.length = 2) : (bS.ofL l).toL = l := by
 refine List.ext_getElem (by simp [bS.toL, h]) fun i h1 h2 => ?_
 have hi : i = 0 ∨ i = 1 := by omega
 rcases hi with rfl | rfl <;> simp [bS.toL, bS.ofL, List.getD_eq_getElem?_getD, h2]
def bS.set (a : bS) (k : Nat) (v : ByteArray) : bS := bS.ofL (a.toL.set k v)
def vE (x : bS) : List CV := [Sx x.x0, Sx x.x1]
theorem bS.splice_eq (a : bS) (k : Nat) (v : ByteArray) (hk : k < 2) : fG (vE a) (k * 1) (eS v) = vE (bS.set a k v) := by
 have h := lN (enc := eS) (sz := 1) (xs := a.toL) (k := k) (v := v) hk (fun x => by kernel_rfl)
 have h2 := bS.toL_ofL (a.toL.set k v) (by rw [List.length_set]; rfl)
 rw [← h2] at h
 exact h
structure aQ where
 Kind : Int
 Of : (List aQ)
instance : Inhabited aQ := ⟨⟨default, default⟩⟩
mutual
def bE : aQ → List CV
 | ⟨Kind, Of⟩ => [I Kind, .lit (zV Of)]
def zV : List aQ → List (List CV)
 | [] => []
 | x :: l => bE x :: zV l
end
theorem Av : ∀ l, zV l = List.map bE l
 | [] => rfl
 | x :: l => by rw [zV, Av l]; rfl
theorem fK (x : aQ) : bE x = [I x.Kind, .lit (List.map bE x.Of)] := by
 cases x; simp only [bE, Av]
structure bN where
 lo : Int
 hi : Int
instance : Inhabited bN := ⟨⟨default, default⟩⟩
def iI (x : bN) : List CV := [U8 x.lo, U8 x.hi]
structure bJ where
 x0 : bN
 x1 : bN
 x2 : bN
 x3 : bN
 x4 : bN
 x5 : bN
 x6 : bN
 x7 : bN
 x8 : bN
 x9 : bN
 x10 : bN
 x11 : bN
 x12 : bN
 x13 : bN
 x14 : bN
 x15 : bN
instance : Inhabited bJ := ⟨⟨default, default, default, default, default, default, default, default, default, default, default, default, default, default, default, default⟩⟩
def bJ.toL (a : bJ) : List bN := [a.x0, a.x1, a.x2, a.x3, a.x4, a.x5, a.x6, a.x7, a.x8, a.x9, a.x10, a.x11, a.x12, a.x13, a.x14, a.x15]
def bJ.ofL (l : List bN) : bJ := ⟨l.getD 0 default, l.getD 1 default, l.getD 2 default, l.getD 3 default, l.getD 4 default, l.getD 5 default, l.getD 6 default, l.getD 7 default, l.getD 8 default, l.getD 9 default, l.getD 10 default, l.getD 11 default, l.getD 12 default, l.getD 13 default, l.getD 14 default, l.getD 15 default⟩
theorem bJ.toL_ofL (l : List bN) (h : l.length = 16) : (bJ.ofL l).toL = l := by
 refine List.ext_getElem (by simp [bJ.toL, h]) fun i h1 h2 => ?_
 have hi : i = 0 ∨ i = 1 ∨ i = 2 ∨ i = 3 ∨ i = 4 ∨ i = 5 ∨ i = 6 ∨ i = 7 ∨ i = 8 ∨ i = 9 ∨ i = 10 ∨ i = 11 ∨ i = 12 ∨ i = 13 ∨ i = 14 ∨ i = 15 := by omega
 rcases hi with rfl | rfl | rfl | rfl | rfl | rfl | rfl | rfl | rfl | rfl | rfl | rfl | rfl | rfl | rfl | rfl <;> simp [bJ.toL, bJ.ofL, List.getD_eq_getElem?_getD, h2]
def bJ.set (a : bJ) (k : Nat) (v : bN) : bJ := bJ.ofL (a.toL.set k v)
def pT (x : bJ) : List CV := [U8 x.x0.lo, U8 x.x0.hi, U8 x.x1.lo, U8 x.x1.hi, U8 x.x2.lo, U8 x.x2.hi, U8 x.x3.lo, U8 x.x3.hi, U8 x.x4.lo, U8 x.x4.hi, U8 x.x5.lo, U8 x.x5.hi, U8 x.x6.lo, U8 x.x6.hi, U8 x.x7.lo, U8 x.x7.hi, U8 x.x8.lo, U8 x.x8.hi, U8 x.x9.lo, U8 x.x9.hi, U8 x.x10.lo, U8 x.x10.hi, U8 x.x11.lo, U8 x.x11.hi, U8 x.x12.lo, U8 x.x12.hi, U8 x.x13.lo, U8 x.x13.hi, U8 x.x14.lo, U8 x.x14.hi, U8 x.x15.lo, U8 x.x15.hi]
theorem bJ.splice_eq (a : bJ) (k : Nat) (v : bN) (hk : k < 16) : fG (pT a) (k * 2) (iI v) = pT (bJ.set a k v) := by
 have h := lN (enc := iI) (sz := 2) (xs := a.toL) (k := k) (v := v) hk (fun x => by kernel_rfl)
 have h2 := bJ.toL_ofL (a.toL.set k v) (by rw [List.length_set]; rfl)
 rw [← h2] at h
 exact h
def cB : Nat → Option TI
 | 3 => some ⟨.int .i64, 1, 8, [.int .i64 0]⟩
 | 4 => some ⟨.boo, 1, 1, [.bool false]⟩
 | 5 => some ⟨.int .u8, 1, 1, [.int .u8 0]⟩
 | 9 => some ⟨.str, 1, 16, [.string ⟨#[]⟩]⟩
 | 12 => some ⟨.int .u64, 1, 8, [.int .u64 0]⟩
 | 21 => some ⟨.int .i32, 1, 4, [.int .i32 0]⟩
 | 22 => some ⟨.sl 3, 1, 24, [.slice none 0 0]⟩
 | 23 => some ⟨.oth, 1, 8, [.pointer none]⟩
 | 25 => some ⟨.sl 58, 1, 24, [.slice none 0 0]⟩
 | 27 => some ⟨.st [(3, 0, 1), (3, 1, 1), (25, 2, 1)], 3, 40, [.int .i64 0, .int .i64 0, .slice none 0 0]⟩
 | 29 => some ⟨.sl 63, 1, 24, [.slice none 0 0]⟩
 | 31 => some ⟨.st [(29, 0, 1)], 1, 24, [.slice none 0 0]⟩
 | 33 => some ⟨.sl 85, 1, 24, [.slice none 0 0]⟩
 | 35 => some ⟨.st [(33, 0, 1)], 1, 24, [.slice none 0 0]⟩
 | 38 => some ⟨.st [(4, 0, 1), (4, 1, 1), (3, 2, 1)], 3, 16, [.bool false, .bool false, .int .i64 0]⟩
 | 40 => some ⟨.sl 67, 1, 24, [.slice none 0 0]⟩
 | 43 => some ⟨.oth, 1, 8, [.nilFunc]⟩
 | 44 => some ⟨.sl 54, 1, 24, [.slice none 0 0]⟩
 | 45 => some ⟨.int .i64, 1, 8, [.int .i64 0]⟩
 | 52 => some ⟨.arr 22 3, 22, 176, [.int .i64 0, .int .i64 0, .int .i64 0, .int .i64 0, .int .i64 0, .int .i64 0, .int .i64 0, .int .i64 0, .int .i64 0, .int .i64 0, .int .i64 0, .int .i64 0, .int .i64 0, .int .i64 0, .int .i64 0, .int .i64 0, .int .i64 0, .int .i64 0, .int .i64 0, .int .i64 0, .int .i64 0, .int .i64 0]⟩
 | 54 => some ⟨.st [(3, 0, 1), (52, 1, 22)], 23, 184, [.int .i64 0, .int .i64 0, .int .i64 0, .int .i64 0, .int .i64 0, .int .i64 0, .int .i64 0, .int .i64 0, .int .i64 0, .int .i64 0, .int .i64 0, .int .i64 0, .int .i64 0, .int .i64 0, .int .i64 0, .int .i64 0, .int .i64 0, .int .i64 0, .int .i64 0, .int .i64 0, .int .i64 0, .int .i64 0, .int .i64 0]⟩
 | 55 => some ⟨.sl 172, 1, 24, [.slice none 0 0]⟩
 | 56 => some ⟨.sl 159, 1, 24, [.slice none 0 0]⟩
 | 58 => some ⟨.st [(3, 0, 1), (3, 1, 1), (3, 2, 1), (9, 3, 1), (55, 4, 1), (56, 5, 1), (22, 6, 1)], 7, 112, [.int .i64 0, .int .i64 0, .int .i64 0, .string ⟨#[]⟩, .slice none 0 0, .slice none 0 0, .slice none 0 0]⟩
 | 61 => some ⟨.sl 81, 1, 24, [.slice none 0 0]⟩
 | 63 => some ⟨.st [(3, 0, 1), (9, 1, 1), (3, 2, 1), (3, 3, 1), (9, 4, 1), (61, 5, 1)], 6, 80, [.int .i64 0, .string ⟨#[]⟩, .int .i64 0, .int .i64 0, .string ⟨#[]⟩, .slice none 0 0]⟩
 | 67 => some ⟨.st [(3, 0, 1), (3, 1, 1)], 2, 16, [.int .i64 0, .int .i64 0]⟩
 | 68 => some ⟨.sl 70, 1, 24, [.slice none 0 0]⟩
 | 70 => some ⟨.st [(3, 0, 1), (9, 1, 1), (55, 2, 1), (56, 3, 1), (68, 4, 1)], 5, 96, [.int .i64 0, .string ⟨#[]⟩, .slice none 0 0, .slice none 0 0, .slice none 0 0]⟩
 | 78 => some ⟨.st [(22, 0, 1), (3, 1, 1)], 2, 32, [.slice none 0 0, .int .i64 0]⟩
 | 81 => some ⟨.st [(3, 0, 1), (3, 1, 1), (3, 2, 1), (9, 3, 1)], 4, 40, [.int .i64 0, .int .i64 0, .int .i64 0, .string ⟨#[]⟩]⟩
 | 83 => some ⟨.sl 9, 1, 24, [.slice none 0 0]⟩
 | 85 => some ⟨.st [(9, 0, 1), (3, 1, 1), (3, 2, 1), (3, 3, 1), (3, 4, 1)], 5, 48, [.string ⟨#[]⟩, .int .i64 0, .int .i64 0, .int .i64 0, .int .i64 0]⟩
 | 88 => some ⟨.mp 3 58, 1, 8, [.map none]⟩
 | 89 => some ⟨.mp 3 9, 1, 8, [.map none]⟩
 | 90 => some ⟨.mp 3 3, 1, 8, [.map none]⟩
 | 92 => some ⟨.st [(88, 0, 1), (89, 1, 1), (90, 2, 1)], 3, 24, [.map none, .map none, .map none]⟩
 | 95 => some ⟨.st [(92, 0, 3), (29, 3, 1), (22, 4, 1), (35, 5, 1), (38, 6, 3)], 9, 112, [.map none, .map none, .map none, .slice none 0 0, .slice none 0 0, .slice none 0 0, .bool false, .bool false, .int .i64 0]⟩
 | 97 => some ⟨.arr 2 3, 2, 16, [.int .i64 0, .int .i64 0]⟩
 | 100 => some ⟨.mp 3 52, 1, 8, [.map none]⟩
 | 111 => some ⟨.st [(4, 0, 1), (3, 1, 1), (3, 2, 1), (3, 3, 1)], 4, 32, [.bool false, .int .i64 0, .int .i64 0, .int .i64 0]⟩
 | 112 => some ⟨.arr 22 111, 88, 704, [.bool false, .int .i64 0, .int .i64 0, .int .i64 0, .bool false, .int .i64 0, .int .i64 0, .int .i64 0, .bool false, .int .i64 0, .int .i64 0, .int .i64 0, .bool false, .int .i64 0, .int .i64 0, .int .i64 0, .bool false, .int .i64 0, .int .i64 0, .int .i64 0, .bool false, .int .i64 0, .int .i64 0, .int .i64 0, .bool false, .int .i64 0, .int .i64 0, .int .i64 0, .bool false, .int .i64 0, .int .i64 0, .int .i64 0, .bool false, .int .i64 0, .int .i64 0, .int .i64 0, .bool false, .int .i64 0, .int .i64 0, .int .i64 0, .bool false, .int .i64 0, .int .i64 0, .int .i64 0, .bool false, .int .i64 0, .int .i64 0, .int .i64 0, .bool false, .int .i64 0, .int .i64 0, .int .i64 0, .bool false, .int .i64 0, .int .i64 0, .int .i64 0, .bool false, .int .i64 0, .int .i64 0, .int .i64 0, .bool false, .int .i64 0, .int .i64 0, .int .i64 0, .bool false, .int .i64 0, .int .i64 0, .int .i64 0, .bool false, .int .i64 0, .int .i64 0, .int .i64 0, .bool false, .int .i64 0, .int .i64 0, .int .i64 0, .bool false, .int .i64 0, .int .i64 0, .int .i64 0, .bool false, .int .i64 0, .int .i64 0, .int .i64 0, .bool false, .int .i64 0, .int .i64 0, .int .i64 0]⟩
 | 122 => some ⟨.mp 3 4, 1, 8, [.map none]⟩
 | 126 => some ⟨.mp 9 4, 1, 8, [.map none]⟩
 | 127 => some ⟨.arr 4 3, 4, 32, [.int .i64 0, .int .i64 0, .int .i64 0, .int .i64 0]⟩
 | 130 => some ⟨.oth, 1, 8, [.nilFunc]⟩
 | 133 => some ⟨.arr 2 9, 2, 32, [.string ⟨#[]⟩, .string ⟨#[]⟩]⟩
 | 137 => some ⟨.mp 3 81, 1, 8, [.map none]⟩
 | 150 => some ⟨.sl 152, 1, 24, [.slice none 0 0]⟩
 | 152 => some ⟨.st [(3, 0, 1), (3, 1, 1), (9, 2, 1), (150, 3, 1)], 4, 56, [.int .i64 0, .int .i64 0, .string ⟨#[]⟩, .slice none 0 0]⟩
 | 159 => some ⟨.st [(9, 0, 1), (9, 1, 1), (9, 2, 1), (150, 3, 1)], 4, 72, [.string ⟨#[]⟩, .string ⟨#[]⟩, .string ⟨#[]⟩, .slice none 0 0]⟩
 | 160 => some ⟨.sl 5, 1, 24, [.slice none 0 0]⟩
 | 164 => some ⟨.oth, 1, 8, [.nilFunc]⟩
 | 165 => some ⟨.oth, 1, 8, [.nilFunc]⟩
 | 172 => some ⟨.st [(9, 0, 1), (152, 1, 4)], 5, 72, [.string ⟨#[]⟩, .int .i64 0, .int .i64 0, .string ⟨#[]⟩, .slice none 0 0]⟩
 | 175 => some ⟨.oth, 1, 8, [.pointer none]⟩
 | 177 => some ⟨.sl 21, 1, 24, [.slice none 0 0]⟩
 | 182 => some ⟨.int .u64, 1, 8, [.int .u64 0]⟩
 | 188 => some ⟨.sl 190, 1, 24, [.slice none 0 0]⟩
 | 190 => some ⟨.st [(3, 0, 1), (188, 1, 1)], 2, 32, [.int .i64 0, .slice none 0 0]⟩
 | 204 => some ⟨.arr 256 5, 256, 256, [.int .u8 0, .int .u8 0, .int .u8 0, .int .u8 0, .int .u8 0, .int .u8 0, .int .u8 0, .int .u8 0, .int .u8 0, .int .u8 0, .int .u8 0, .int .u8 0, .int .u8 0, .int .u8 0, .int .u8 0, .int .u8 0, .int .u8 0, .int .u8 0, .int .u8 0, .int .u8 0, .int .u8 0, .int .u8 0, .int .u8 0, .int .u8 0, .int .u8 0, .int .u8 0, .int .u8 0, .int .u8 0, .int .u8 0, .int .u8 0, .int .u8 0, .int .u8 0, .int .u8 0, .int .u8 0, .int .u8 0, .int .u8 0, .int .u8 0, .int .u8 0, .int .u8 0, .int .u8 0, .int .u8 0, .int .u8 0, .int .u8 0, .int .u8 0, .int .u8 0, .int .u8 0, .int .u8 0, .int .u8 0, .int .u8 0, .int .u8 0, .int .u8 0, .int .u8 0, .int .u8 0, .int .u8 0, .int .u8 0, .int .u8 0, .int .u8 0, .int .u8 0, .int .u8 0, .int .u8 0, .int .u8 0, .int .u8 0, .int .u8 0, .int .u8 0, .int .u8 0, .int .u8 0, .int .u8 0, .int .u8 0, .int .u8 0, .int .u8 0, .int .u8 0, .int .u8 0, .int .u8 0, .int .u8 0, .int .u8 0, .int .u8 0, .int .u8 0, .int .u8 0, .int .u8 0, .int .u8 0, .int .u8 0, .int .u8 0, .int .u8 0, .int .u8 0, .int .u8 0, .int .u8 0, .int .u8 0, .int .u8 0, .int .u8 0, .int .u8 0, .int .u8 0, .int .u8 0, .int .u8 0, .int .u8 0, .int .u8 0, .int .u8 0, .int .u8 0, .int .u8 0, .int .u8 0, .int .u8 0, .int .u8 0, .int .u8 0, .int .u8 0, .int .u8 0, .int .u8 0, .int .u8 0, .int .u8 0, .int .u8 0, .int .u8 0, .int .u8 0, .int .u8 0, .int .u8 0, .int .u8 0, .int .u8 0, .int .u8 0, .int .u8 0, .int .u8 0, .int .u8 0, .int .u8 0, .int .u8 0, .int .u8 0, .int .u8 0, .int .u8 0, .int .u8 0, .int .u8 0, .int .u8 0, .int .u8 0, .int .u8 0, .int .u8 0, .int .u8 0, .int .u8 0, .int .u8 0, .int .u8 0, .int .u8 0, .int .u8 0, .int .u8 0, .int .u8 0, .int .u8 0, .int .u8 0, .int .u8 0, .int .u8 0, .int .u8 0, .int .u8 0, .int .u8 0, .int .u8 0, .int .u8 0, .int .u8 0, .int .u8 0, .int .u8 0, .int .u8 0, .int .u8 0, .int .u8 0, .int .u8 0, .int .u8 0, .int .u8 0, .int .u8 0, .int .u8 0, .int .u8 0, .int .u8 0, .int .u8 0, .int .u8 0, .int .u8 0, .int .u8 0, .int .u8 0, .int .u8 0, .int .u8 0, .int .u8 0, .int .u8 0, .int .u8 0, .int .u8 0, .int .u8 0, .int .u8 0, .int .u8 0, .int .u8 0, .int .u8 0, .int .u8 0, .int .u8 0, .int .u8 0, .int .u8 0, .int .u8 0, .int .u8 0, .int .u8 0, .int .u8 0, .int .u8 0, .int .u8 0, .int .u8 0, .int .u8 0, .int .u8 0, .int .u8 0, .int .u8 0, .int .u8 0, .int .u8 0, .int .u8 0, .int .u8 0, .int .u8 0, .int .u8 0, .int .u8 0, .int .u8 0, .int .u8 0, .int .u8 0, .int .u8 0, .int .u8 0, .int .u8 0, .int .u8 0, .int .u8 0, .int .u8 0, .int .u8 0, .int .u8 0, .int .u8 0, .int .u8 0, .int .u8 0, .int .u8 0, .int .u8 0, .int .u8 0, .int .u8 0, .int .u8 0, .int .u8 0, .int .u8 0, .int .u8 0, .int .u8 0, .int .u8 0, .int .u8 0, .int .u8 0, .int .u8 0, .int .u8 0, .int .u8 0, .int .u8 0, .int .u8 0, .int .u8 0, .int .u8 0, .int .u8 0, .int .u8 0, .int .u8 0, .int .u8 0, .int .u8 0, .int .u8 0, .int .u8 0, .int .u8 0, .int .u8 0, .int .u8 0, .int .u8 0, .int .u8 0, .int .u8 0, .int .u8 0, .int .u8 0, .int .u8 0, .int .u8 0, .int .u8 0, .int .u8 0, .int .u8 0, .int .u8 0, .int .u8 0, .int .u8 0, .int .u8 0, .int .u8 0, .int .u8 0]⟩
 | 206 => some ⟨.st [(5, 0, 1), (5, 1, 1)], 2, 2, [.int .u8 0, .int .u8 0]⟩
 | 207 => some ⟨.arr 16 206, 32, 32, [.int .u8 0, .int .u8 0, .int .u8 0, .int .u8 0, .int .u8 0, .int .u8 0, .int .u8 0, .int .u8 0, .int .u8 0, .int .u8 0, .int .u8 0, .int .u8 0, .int .u8 0, .int .u8 0, .int .u8 0, .int .u8 0, .int .u8 0, .int .u8 0, .int .u8 0, .int .u8 0, .int .u8 0, .int .u8 0, .int .u8 0, .int .u8 0, .int .u8 0, .int .u8 0, .int .u8 0, .int .u8 0, .int .u8 0, .int .u8 0, .int .u8 0, .int .u8 0]⟩
 | 208 => some ⟨.int .u64, 1, 8, [.int .u64 0]⟩
 | _ => none
theorem ti3 : dS Tryz.prog 3 = cB 3 := by kernel_rfl
theorem ti4 : dS Tryz.prog 4 = cB 4 := by kernel_rfl
theorem ti5 : dS Tryz.prog 5 = cB 5 := by kernel_rfl
theorem ti9 : dS Tryz.prog 9 = cB 9 := by kernel_rfl
theorem ti12 : dS Tryz.prog 12 = cB 12 := by kernel_rfl
theorem ti21 : dS Tryz.prog 21 = cB 21 := by kernel_rfl
theorem ti22 : dS Tryz.prog 22 = cB 22 := by kernel_rfl
theorem ti23 : dS Tryz.prog 23 = cB 23 := by kernel_rfl
theorem ti25 : dS Tryz.prog 25 = cB 25 := by kernel_rfl
theorem ti27 : dS Tryz.prog 27 = cB 27 := by kernel_rfl
theorem ti29 : dS Tryz.prog 29 = cB 29 := by kernel_rfl
theorem ti31 : dS Tryz.prog 31 = cB 31 := by kernel_rfl
theorem ti33 : dS Tryz.prog 33 = cB 33 := by kernel_rfl
theorem ti35 : dS Tryz.prog 35 = cB 35 := by kernel_rfl
theorem ti38 : dS Tryz.prog 38 = cB 38 := by kernel_rfl
theorem ti40 : dS Tryz.prog 40 = cB 40 := by kernel_rfl
theorem ti43 : dS Tryz.prog 43 = cB 43 := by kernel_rfl
theorem ti44 : dS Tryz.prog 44 = cB 44 := by kernel_rfl
theorem ti45 : dS Tryz.prog 45 = cB 45 := by kernel_rfl
theorem ti52 : dS Tryz.prog 52 = cB 52 := by kernel_rfl
theorem ti54 : dS Tryz.prog 54 = cB 54 := by kernel_rfl
theorem ti55 : dS Tryz.prog 55 = cB 55 := by kernel_rfl
theorem ti56 : dS Tryz.prog 56 = cB 56 := by kernel_rfl
theorem ti58 : dS Tryz.prog 58 = cB 58 := by kernel_rfl
theorem ti61 : dS Tryz.prog 61 = cB 61 := by kernel_rfl
theorem ti63 : dS Tryz.prog 63 = cB 63 := by kernel_rfl
theorem ti67 : dS Tryz.prog 67 = cB 67 := by kernel_rfl
theorem ti68 : dS Tryz.prog 68 = cB 68 := by kernel_rfl
theorem ti70 : dS Tryz.prog 70 = cB 70 := by kernel_rfl
theorem ti78 : dS Tryz.prog 78 = cB 78 := by kernel_rfl
theorem ti81 : dS Tryz.prog 81 = cB 81 := by kernel_rfl
theorem ti83 : dS Tryz.prog 83 = cB 83 := by kernel_rfl
theorem ti85 : dS Tryz.prog 85 = cB 85 := by kernel_rfl
theorem ti88 : dS Tryz.prog 88 = cB 88 := by kernel_rfl
theorem ti89 : dS Tryz.prog 89 = cB 89 := by kernel_rfl
theorem ti90 : dS Tryz.prog 90 = cB 90 := by kernel_rfl
theorem ti92 : dS Tryz.prog 92 = cB 92 := by kernel_rfl
theorem ti95 : dS Tryz.prog 95 = cB 95 := by kernel_rfl
theorem ti97 : dS Tryz.prog 97 = cB 97 := by kernel_rfl
theorem ti100 : dS Tryz.prog 100 = cB 100 := by kernel_rfl
theorem ti111 : dS Tryz.prog 111 = cB 111 := by kernel_rfl
theorem ti112 : dS Tryz.prog 112 = cB 112 := by kernel_rfl
theorem Zl : dS Tryz.prog 122 = cB 122 := by kernel_rfl
theorem Zi : dS Tryz.prog 126 = cB 126 := by kernel_rfl
theorem aA6 : dS Tryz.prog 127 = cB 127 := by kernel_rfl
theorem Zr : dS Tryz.prog 130 = cB 130 := by kernel_rfl
theorem ti133 : dS Tryz.prog 133 = cB 133 := by kernel_rfl
theorem ti137 : dS Tryz.prog 137 = cB 137 := by kernel_rfl
theorem Yj : dS Tryz.prog 150 = cB 150 := by kernel_rfl
theorem Zw : dS Tryz.prog 152 = cB 152 := by kernel_rfl
theorem Zf : dS Tryz.prog 159 = cB 159 := by kernel_rfl
theorem Zk : dS Tryz.prog 160 = cB 160 := by kernel_rfl
theorem Zg : dS Tryz.prog 164 = cB 164 := by kernel_rfl
theorem Zd : dS Tryz.prog 165 = cB 165 := by kernel_rfl
theorem Ym : dS Tryz.prog 172 = cB 172 := by kernel_rfl
theorem ti175 : dS Tryz.prog 175 = cB 175 := by kernel_rfl
theorem aA9 : dS Tryz.prog 177 = cB 177 := by kernel_rfl
theorem ti182 : dS Tryz.prog 182 = cB 182 := by kernel_rfl
theorem aA7 : dS Tryz.prog 188 = cB 188 := by kernel_rfl
theorem Zx : dS Tryz.prog 190 = cB 190 := by kernel_rfl
theorem ti204 : dS Tryz.prog 204 = cB 204 := by kernel_rfl
theorem ti206 : dS Tryz.prog 206 = cB 206 := by kernel_rfl
theorem Yy : dS Tryz.prog 207 = cB 207 := by kernel_rfl
theorem Yw : dS Tryz.prog 208 = cB 208 := by kernel_rfl
theorem Pl (T : TypeId) (i : TI) (h : cB T = some i) : i.ok Tryz.prog T := by
 unfold cB at h
 split at h
 ·exact bH (ti3.trans h)
 ·exact bH (ti4.trans h)
 ·exact bH (ti5.trans h)
 ·exact bH (ti9.trans h)
 ·exact bH (ti12.trans h)
 ·exact bH (ti21.trans h)
 ·exact bH (ti22.trans h)
 ·exact bH (ti23.trans h)
 ·exact bH (ti25.trans h)
 ·exact bH (ti27.trans h)
 ·exact bH (ti29.trans h)
 ·exact bH (ti31.trans h)
 ·exact bH (ti33.trans h)
 ·exact bH (ti35.trans h)
 ·exact bH (ti38.trans h)
 ·exact bH (ti40.trans h)
 ·exact bH (ti43.trans h)
 ·exact bH (ti44.trans h)
 ·exact bH (ti45.trans h)
 ·exact bH (ti52.trans h)
 ·exact bH (ti54.trans h)
 ·exact bH (ti55.trans h)
 ·exact bH (ti56.trans h)
 ·exact bH (ti58.trans h)
 ·exact bH (ti61.trans h)
 ·exact bH (ti63.trans h)
 ·exact bH (ti67.trans h)
 ·exact bH (ti68.trans h)
 ·exact bH (ti70.trans h)
 ·exact bH (ti78.trans h)
 ·exact bH (ti81.trans h)
 ·exact bH (ti83.trans h)
 ·exact bH (ti85.trans h)
 ·exact bH (ti88.trans h)
 ·exact bH (ti89.trans h)
 ·exact bH (ti90.trans h)
 ·exact bH (ti92.trans h)
 ·exact bH (ti95.trans h)
 ·exact bH (ti97.trans h)
 ·exact bH (ti100.trans h)
 ·exact bH (ti111.trans h)
 ·exact bH (ti112.trans h)
 ·exact bH (Zl.trans h)
 ·exact bH (Zi.trans h)
 ·exact bH (aA6.trans h)
 ·exact bH (Zr.trans h)
 ·exact bH (ti133.trans h)
 ·exact bH (ti137.trans h)
 ·exact bH (Yj.trans h)
 ·exact bH (Zw.trans h)
 ·exact bH (Zf.trans h)
 ·exact bH (Zk.trans h)
 ·exact bH (Zg.trans h)
 ·exact bH (Zd.trans h)
 ·exact bH (Ym.trans h)
 ·exact bH (ti175.trans h)
 ·exact bH (aA9.trans h)
 ·exact bH (ti182.trans h)
 ·exact bH (aA7.trans h)
 ·exact bH (Zx.trans h)
 ·exact bH (ti204.trans h)
 ·exact bH (ti206.trans h)
 ·exact bH (Yy.trans h)
 ·exact bH (Yw.trans h)
 ·cases h
def bF : List bM := [⟨true, 0, 16777215, 0⟩, ⟨false, (-1), 16777215, (-1)⟩, ⟨true, 1, 1000, 16⟩, ⟨true, 0, 7, 0⟩, ⟨true, 0, 1, 0⟩, ⟨false, 0, 4, 1⟩, ⟨false, 0, 4, 3⟩, ⟨false, 0, 3, 0⟩, ⟨true, 0, 2, 0⟩, ⟨false, 0, 1048576, 0⟩, ⟨false, 0, 1000, 0⟩, ⟨false, 0, 1000, 1⟩, ⟨false, (-1), 1048576, (-1)⟩, ⟨false, 0, 1048576, 0⟩, ⟨false, 0, 1048576, 1048576⟩, ⟨false, 0, 1048576, 0⟩, ⟨false, 0, 1048576, 1048576⟩, ⟨false, 0, 1048576, 0⟩, ⟨false, 0, 1048576, 0⟩, ⟨false, 0, 1048576, 0⟩, ⟨false, 0, 1048576, 0⟩, ⟨true, 0, 1, 0⟩]
def gJ : List Int := (Pinned.utf8FirstZ.map Int.ofNat)
def cN : List bN := [⟨128, 191⟩, ⟨160, 191⟩, ⟨128, 159⟩, ⟨144, 191⟩, ⟨128, 143⟩, ⟨0, 0⟩, ⟨0, 0⟩, ⟨0, 0⟩, ⟨0, 0⟩, ⟨0, 0⟩, ⟨0, 0⟩, ⟨0, 0⟩, ⟨0, 0⟩, ⟨0, 0⟩, ⟨0, 0⟩, ⟨0, 0⟩]
def Mw : Nat → Option (List CV)
 | 0 => some (List.flatten (List.map iG bF))
 | 1 => some (List.flatten (List.map Pc gJ))
 | 2 => some (List.flatten (List.map iI cN))
 | _ => none
noncomputable def E : lR := ⟨Tryz.prog, cB, Pl, Mw, by kernel_rfl⟩
theorem fok9 : bO E 9 := ⟨Tryz.f9, Tryz.func9, by kernel_rfl, rfl⟩
theorem Yt : bO E 10 := ⟨Tryz.f10, Tryz.func10, by kernel_rfl, rfl⟩
theorem dB : bO E 15 := ⟨Tryz.f15, Tryz.func15, by kernel_rfl, rfl⟩
theorem Ra : bO E 16 := ⟨Tryz.f16, Tryz.func16, by kernel_rfl, rfl⟩
theorem Yn : bO E 17 := ⟨Tryz.f17, Tryz.func17, by kernel_rfl, rfl⟩
theorem fok20 : bO E 20 := ⟨Tryz.f20, Tryz.func20, by kernel_rfl, rfl⟩
theorem Vn : bO E 21 := ⟨Tryz.f21, Tryz.func21, by kernel_rfl, rfl⟩
theorem Vy : bO E 24 := ⟨Tryz.f24, Tryz.func24, by kernel_rfl, rfl⟩
theorem Ys : bO E 25 := ⟨Tryz.f25, Tryz.func25, by kernel_rfl, rfl⟩
theorem Sq : bO E 26 := ⟨Tryz.f26, Tryz.func26, by kernel_rfl, rfl⟩
theorem aA5 : bO E 27 := ⟨Tryz.f27, Tryz.func27, by kernel_rfl, rfl⟩
theorem Vq : bO E 28 := ⟨Tryz.f28, Tryz.func28, by kernel_rfl, rfl⟩
theorem Zz : bO E 32 := ⟨Tryz.f32, Tryz.func32, by kernel_rfl, rfl⟩
theorem fok34 : bO E 34 := ⟨Tryz.f34, Tryz.func34, by kernel_rfl, rfl⟩
theorem Zu : bO E 35 := ⟨Tryz.f35, Tryz.func35, by kernel_rfl, rfl⟩
theorem Zv : bO E 36 := ⟨Tryz.f36, Tryz.func36, by kernel_rfl, rfl⟩
theorem Zp : bO E 37 := ⟨Tryz.f37, Tryz.func37, by kernel_rfl, rfl⟩
theorem Nf : bO E 38 := ⟨Tryz.f38, Tryz.func38, by kernel_rfl, rfl⟩
theorem Vf : bO E 39 := ⟨Tryz.f39, Tryz.func39, by kernel_rfl, rfl⟩
theorem Zm : bO E 40 := ⟨Tryz.f40, Tryz.func40, by kernel_rfl, rfl⟩
theorem fok41 : bO E 41 := ⟨Tryz.f41, Tryz.func41, by kernel_rfl, rfl⟩
theorem Zb : bO E 42 := ⟨Tryz.f42, Tryz.func42, by kernel_rfl, rfl⟩
theorem Vo : bO E 45 := ⟨Tryz.f45, Tryz.func45, by kernel_rfl, rfl⟩
theorem aA2 : bO E 49 := ⟨Tryz.f49, Tryz.func49, by kernel_rfl, rfl⟩
theorem Sc : bO E 50 := ⟨Tryz.f50, Tryz.func50, by kernel_rfl, rfl⟩
theorem fok51 : bO E 51 := ⟨Tryz.f51, Tryz.func51, by kernel_rfl, rfl⟩
theorem Yp : bO E 52 := ⟨Tryz.f52, Tryz.func52, by kernel_rfl, rfl⟩
theorem Si : bO E 53 := ⟨Tryz.f53, Tryz.func53, by kernel_rfl, rfl⟩
theorem Vm : bO E 55 := ⟨Tryz.f55, Tryz.func55, by kernel_rfl, rfl⟩
theorem Vk : bO E 56 := ⟨Tryz.f56, Tryz.func56, by kernel_rfl, rfl⟩
theorem Vw : bO E 57 := ⟨Tryz.f57, Tryz.func57, by kernel_rfl, rfl⟩
theorem Vs : bO E 58 := ⟨Tryz.f58, Tryz.func58, by kernel_rfl, rfl⟩
theorem Qb : bO E 59 := ⟨Tryz.f59, Tryz.func59, by kernel_rfl, rfl⟩
theorem Vv : bO E 60 := ⟨Tryz.f60, Tryz.func60, by kernel_rfl, rfl⟩
theorem Az : bO E 66 := ⟨Tryz.f66, Tryz.func66, by kernel_rfl, rfl⟩
theorem fok67 : bO E 67 := ⟨Tryz.f67, Tryz.func67, by kernel_rfl, rfl⟩
theorem Zn : bO E 68 := ⟨Tryz.f68, Tryz.func68, by kernel_rfl, rfl⟩
theorem aA8 : bO E 69 := ⟨Tryz.f69, Tryz.func69, by kernel_rfl, rfl⟩
theorem Yi : bO E 70 := ⟨Tryz.f70, Tryz.func70, by kernel_rfl, rfl⟩
theorem fok71 : bO E 71 := ⟨Tryz.f71, Tryz.func71, by kernel_rfl, rfl⟩
theorem Zq : bO E 72 := ⟨Tryz.f72, Tryz.func72, by kernel_rfl, rfl⟩
theorem Zs : bO E 73 := ⟨Tryz.f73, Tryz.func73, by kernel_rfl, rfl⟩
theorem Rp : bO E 74 := ⟨Tryz.f74, Tryz.func74, by kernel_rfl, rfl⟩
theorem Zc : bO E 75 := ⟨Tryz.f75, Tryz.func75, by kernel_rfl, rfl⟩
theorem Yv : bO E 76 := ⟨Tryz.f76, Tryz.func76, by kernel_rfl, rfl⟩
theorem fok77 : bO E 77 := ⟨Tryz.f77, Tryz.func77, by kernel_rfl, rfl⟩
theorem Vj : bO E 80 := ⟨Tryz.f80, Tryz.func80, by kernel_rfl, rfl⟩
theorem aAb : bO E 86 := ⟨Tryz.f86, Tryz.func86, by kernel_rfl, rfl⟩
theorem Yx : bO E 87 := ⟨Tryz.f87, Tryz.func87, by kernel_rfl, rfl⟩
theorem Wa : bO E 88 := ⟨Tryz.f88, Tryz.func88, by kernel_rfl, rfl⟩
theorem Vg : bO E 91 := ⟨Tryz.f91, Tryz.func91, by kernel_rfl, rfl⟩
theorem fok92 : bO E 92 := ⟨Tryz.f92, Tryz.func92, by kernel_rfl, rfl⟩
theorem Yr : bO E 93 := ⟨Tryz.f93, Tryz.func93, by kernel_rfl, rfl⟩
theorem Vx : bO E 94 := ⟨Tryz.f94, Tryz.func94, by kernel_rfl, rfl⟩
theorem fok95 : bO E 95 := ⟨Tryz.f95, Tryz.func95, by kernel_rfl, rfl⟩
theorem aA3 : bO E 96 := ⟨Tryz.f96, Tryz.func96, by kernel_rfl, rfl⟩
theorem Vu : bO E 97 := ⟨Tryz.f97, Tryz.func97, by kernel_rfl, rfl⟩
theorem Vh : bO E 98 := ⟨Tryz.f98, Tryz.func98, by kernel_rfl, rfl⟩
theorem Xu : bO E 101 := ⟨Tryz.f101, Tryz.func101, by kernel_rfl, rfl⟩
theorem Rw : bO E 102 := ⟨Tryz.f102, Tryz.func102, by kernel_rfl, rfl⟩
theorem Ft : bO E 103 := ⟨Tryz.f103, Tryz.func103, by kernel_rfl, rfl⟩
theorem Sv : bO E 104 := ⟨Tryz.f104, Tryz.func104, by kernel_rfl, rfl⟩
theorem Wz : bO E 105 := ⟨Tryz.f105, Tryz.func105, by kernel_rfl, rfl⟩
theorem Xi : bO E 106 := ⟨Tryz.f106, Tryz.func106, by kernel_rfl, rfl⟩
theorem Xt : bO E 107 := ⟨Tryz.f107, Tryz.func107, by kernel_rfl, rfl⟩
theorem Kg : bO E 108 := ⟨Tryz.f108, Tryz.func108, by kernel_rfl, rfl⟩
theorem Pp : bO E 114 := ⟨Tryz.f114, Tryz.func114, by kernel_rfl, rfl⟩
theorem Se : bO E 115 := ⟨Tryz.f115, Tryz.func115, by kernel_rfl, rfl⟩
theorem Dl : bO E 116 := ⟨Tryz.f116, Tryz.func116, by kernel_rfl, rfl⟩
theorem Gv : bO E 117 := ⟨Tryz.f117, Tryz.func117, by kernel_rfl, rfl⟩
theorem yT : bO E 118 := ⟨Tryz.f118, Tryz.func118, by kernel_rfl, rfl⟩
theorem Xk : bO E 119 := ⟨Tryz.f119, Tryz.func119, by kernel_rfl, rfl⟩
theorem Xe : bO E 120 := ⟨Tryz.f120, Tryz.func120, by kernel_rfl, rfl⟩
theorem Pq : bO E 121 := ⟨Tryz.f121, Tryz.func121, by kernel_rfl, rfl⟩
theorem Pt : bO E 122 := ⟨Tryz.f122, Tryz.func122, by kernel_rfl, rfl⟩
theorem Xy : bO E 123 := ⟨Tryz.f123, Tryz.func123, by kernel_rfl, rfl⟩
theorem Pj : bO E 124 := ⟨Tryz.f124, Tryz.func124, by kernel_rfl, rfl⟩
theorem Xb : bO E 125 := ⟨Tryz.f125, Tryz.func125, by kernel_rfl, rfl⟩
theorem Wl : bO E 126 := ⟨Tryz.f126, Tryz.func126, by kernel_rfl, rfl⟩
theorem Qi : bO E 127 := ⟨Tryz.f127, Tryz.func127, by kernel_rfl, rfl⟩
theorem Wo : bO E 129 := ⟨Tryz.f129, Tryz.func129, by kernel_rfl, rfl⟩
theorem Yc : bO E 130 := ⟨Tryz.f130, Tryz.func130, by kernel_rfl, rfl⟩
theorem Yb : bO E 131 := ⟨Tryz.f131, Tryz.func131, by kernel_rfl, rfl⟩
theorem Ww : bO E 132 := ⟨Tryz.f132, Tryz.func132, by kernel_rfl, rfl⟩
theorem Ps : bO E 133 := ⟨Tryz.f133, Tryz.func133, by kernel_rfl, rfl⟩
theorem Xr : bO E 134 := ⟨Tryz.f134, Tryz.func134, by kernel_rfl, rfl⟩
theorem Wm : bO E 135 := ⟨Tryz.f135, Tryz.func135, by kernel_rfl, rfl⟩
theorem Lk : bO E 136 := ⟨Tryz.f136, Tryz.func136, by kernel_rfl, rfl⟩
theorem Wj : bO E 137 := ⟨Tryz.f137, Tryz.func137, by kernel_rfl, rfl⟩
theorem Wc : bO E 138 := ⟨Tryz.f138, Tryz.func138, by kernel_rfl, rfl⟩
theorem Pm : bO E 139 := ⟨Tryz.f139, Tryz.func139, by kernel_rfl, rfl⟩
theorem Xa : bO E 140 := ⟨Tryz.f140, Tryz.func140, by kernel_rfl, rfl⟩
theorem Wp : bO E 141 := ⟨Tryz.f141, Tryz.func141, by kernel_rfl, rfl⟩
theorem Xs : bO E 142 := ⟨Tryz.f142, Tryz.func142, by kernel_rfl, rfl⟩
theorem Pi : bO E 143 := ⟨Tryz.f143, Tryz.func143, by kernel_rfl, rfl⟩
theorem Xj : bO E 144 := ⟨Tryz.f144, Tryz.func144, by kernel_rfl, rfl⟩
theorem Wu : bO E 145 := ⟨Tryz.f145, Tryz.func145, by kernel_rfl, rfl⟩
theorem Rs : bO E 146 := ⟨Tryz.f146, Tryz.func146, by kernel_rfl, rfl⟩
theorem Qe : bO E 147 := ⟨Tryz.f147, Tryz.func147, by kernel_rfl, rfl⟩
theorem Su : bO E 148 := ⟨Tryz.f148, Tryz.func148, by kernel_rfl, rfl⟩
theorem Ws : bO E 149 := ⟨Tryz.f149, Tryz.func149, by kernel_rfl, rfl⟩
theorem Wx : bO E 150 := ⟨Tryz.f150, Tryz.func150, by kernel_rfl, rfl⟩
theorem Xh : bO E 151 := ⟨Tryz.f151, Tryz.func151, by kernel_rfl, rfl⟩
theorem We : bO E 152 := ⟨Tryz.f152, Tryz.func152, by kernel_rfl, rfl⟩
theorem Lf : bO E 153 := ⟨Tryz.f153, Tryz.func153, by kernel_rfl, rfl⟩
theorem Ss : bO E 155 := ⟨Tryz.f155, Tryz.func155, by kernel_rfl, rfl⟩
end Go.Proofs.YtojkihhnioeggaaGreatDoor.S
