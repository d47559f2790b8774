import Derived.Test.YtojkihhnioeggaaGreatDoorQUBE
import Derived.Test.YtojkihhnioeggaaGreatDoorChecked
import GoSem.PinnedTables
set_option linter.unusedVariables false
namespace Go.Proofs.YtojkihhnioeggaaGreatDoor.S
open Go Go.Bm
structure aF where
 Kind : Int
 N : Int
 S : ByteArray
 L : (List aF)
instance : Inhabited aF := ⟨⟨default, default, default, default⟩⟩
mutual
def aQ : aF → List CV
 | ⟨Kind, N, S, L⟩ => [I Kind, I N, Sx S, .lit (zU L)]
def zU : List aF → List (List CV)
 | [] => []
 | x :: l => aQ x :: zU l
end
theorem Bz : ∀ l, zU l = List.map aQ l
 | [] => rfl
 | x :: l => by rw [zU, Bz l]; rfl
theorem dR (x : aF) : aQ x = [I x.Kind, I x.N, Sx x.S, .lit (List.map aQ x.L)] := by
 cases x; simp only [aQ, Bz]
structure bD where
 Name : ByteArray
 Value : aF
instance : Inhabited bD := ⟨⟨default, default⟩⟩
def aM (x : bD) : List CV := [Sx x.Name, I x.Value.Kind, I x.Value.N, Sx x.Value.S, .lit (List.map aQ x.Value.L)]
structure cU where
 Event : ByteArray
 Instance : ByteArray
 Handler : ByteArray
 Args : (List aF)
instance : Inhabited cU := ⟨⟨default, default, default, default⟩⟩
def aD (x : cU) : List CV := [Sx x.Event, Sx x.Instance, Sx x.Handler, .lit (List.map aQ x.Args)]
structure aP where
 ID : Int
 Parent : Int
 Kind : Int
 Key : ByteArray
 Attrs : (List bD)
 Actions : (List cU)
 Kids : (List Int)
instance : Inhabited aP := ⟨⟨default, default, default, default, default, default, default⟩⟩
def aE (x : aP) : List CV := [I x.ID, I x.Parent, I x.Kind, Sx x.Key, .lit (List.map aM x.Attrs), .lit (List.map aD x.Actions), .lit (List.map aH x.Kids)]
structure bA where
 Root : Int
 Next : Int
 Nodes : (List aP)
instance : Inhabited bA := ⟨⟨default, default, default⟩⟩
structure bM where
 Prop_ : Int
 Source : Int
 N : Int
 Token : ByteArray
instance : Inhabited bM := ⟨⟨default, default, default, default⟩⟩
def bZ (x : bM) : List CV := [I x.Prop_, I x.Source, I x.N, Sx x.Token]
structure bY where
 Kind : Int
 Class : ByteArray
 States : Int
 UnderKind : Int
 UnderClass : ByteArray
 Decls : (List bM)
instance : Inhabited bY := ⟨⟨default, default, default, default, default, default⟩⟩
def bF (x : bY) : List CV := [I x.Kind, Sx x.Class, I x.States, I x.UnderKind, Sx x.UnderClass, .lit (List.map bZ x.Decls)]
structure bH where
 Rules : (List bY)
instance : Inhabited bH := ⟨⟨default⟩⟩
structure dM where
 Name : ByteArray
 Light : Int
 Dark : Int
 HighLight : Int
 HighDark : Int
instance : Inhabited dM := ⟨⟨default, default, default, default, default⟩⟩
def bQ (x : dM) : List CV := [Sx x.Name, I x.Light, I x.Dark, I x.HighLight, I x.HighDark]
structure bS where
 Tokens : (List dM)
instance : Inhabited bS := ⟨⟨default⟩⟩
structure cY where
 Dark : Bool
 High : Bool
 Scale : Int
instance : Inhabited cY := ⟨⟨default, default, default⟩⟩
structure aR where
 ID : Int
 States : Int
instance : Inhabited aR := ⟨⟨default, default⟩⟩
def bL (x : aR) : List CV := [I x.ID, I x.States]
structure aA where
 x0 : Int
 x1 : Int
 x2 : Int
 x3 : Int
 x4 : Int
 x5 : Int
 x6 : Int
 x7 : Int
 x8 : Int
 x9 : Int
 x10 : Int
 x11 : Int
 x12 : Int
 x13 : Int
 x14 : Int
 x15 : Int
 x16 : Int
 x17 : Int
 x18 : Int
 x19 : Int
 x20 : Int
 x21 : Int
instance : Inhabited aA := ⟨⟨default, default, default, default, default, default, default, default, default, default, default, default, default, default, default, default, default, default, default, default, default, default⟩⟩
def aA.toL (a : aA) : List Int := [a.x0, a.x1, a.x2, a.x3, a.x4, a.x5, a.x6, a.x7, a.x8, a.x9, a.x10, a.x11, a.x12, a.x13, a.x14, a.x15, a.x16, a.x17, a.x18, a.x19, a.x20, a.x21]
def aA.ofL (l : List Int) : aA := ⟨l.getD 0 default, l.getD 1 default, l.getD 2 default, l.getD 3 default, l.getD 4 default, l.getD 5 default, l.getD 6 default, l.getD 7 default, l.getD 8 default, l.getD 9 default, l.getD 10 default, l.getD 11 default, l.getD 12 default, l.getD 13 default, l.getD 14 default, l.getD 15 default, l.getD 16 default, l.getD 17 default, l.getD 18 default, l.getD 19 default, l.getD 20 default, l.getD 21 default⟩
theorem aA.toL_ofL (l : List Int) (h : l.length = 22) : (aA.ofL l).toL = l := by
 refine List.ext_getElem (by simp [aA.toL, h]) fun i h1 h2 => ?_
 have hi : i = 0 ∨ i = 1 ∨ i = 2 ∨ i = 3 ∨ i = 4 ∨ i = 5 ∨ i = 6 ∨ i = 7 ∨ i = 8 ∨ i = 9 ∨ i = 10 ∨ i = 11 ∨ i = 12 ∨ i = 13 ∨ i = 14 ∨ i = 15 ∨ i = 16 ∨ i = 17 ∨ i = 18 ∨ i = 19 ∨ i = 20 ∨ i = 21 := by omega
 rcases hi with rfl | rfl | rfl | rfl | rfl | rfl | rfl | rfl | rfl | rfl | rfl | rfl | rfl | rfl | rfl | rfl | rfl | rfl | rfl | rfl | rfl | rfl <;> simp [aA.toL, aA.ofL, List.getD_eq_getElem?_getD, h2]
def aA.set (a : aA) (k : Nat) (v : Int) : aA := aA.ofL (a.toL.set k v)
def mE (x : aA) : List CV := [I x.x0, I x.x1, I x.x2, I x.x3, I x.x4, I x.x5, I x.x6, I x.x7, I x.x8, I x.x9, I x.x10, I x.x11, I x.x12, I x.x13, I x.x14, I x.x15, I x.x16, I x.x17, I x.x18, I x.x19, I x.x20, I x.x21]
theorem aA.splice_eq (a : aA) (k : Nat) (v : Int) (hk : k < 22) : fQ (mE a) (k * 1) (aH v) = mE (aA.set a k v) := by
 have h := mV (enc := aH) (sz := 1) (xs := a.toL) (k := k) (v := v) hk (fun x => by kernel_rfl)
 have h2 := aA.toL_ofL (a.toL.set k v) (by rw [List.length_set]; rfl)
 rw [← h2] at h
 exact h
structure aU where
 ID : Int
 Style : aA
instance : Inhabited aU := ⟨⟨default, default⟩⟩
def aW (x : aU) : List CV := [I x.ID, I x.Style.x0, I x.Style.x1, I x.Style.x2, I x.Style.x3, I x.Style.x4, I x.Style.x5, I x.Style.x6, I x.Style.x7, I x.Style.x8, I x.Style.x9, I x.Style.x10, I x.Style.x11, I x.Style.x12, I x.Style.x13, I x.Style.x14, I x.Style.x15, I x.Style.x16, I x.Style.x17, I x.Style.x18, I x.Style.x19, I x.Style.x20, I x.Style.x21]
structure aJ where
 Kind : Int
 Key : ByteArray
 Attrs : (List bD)
 Actions : (List cU)
 Kids : (List aJ)
instance : Inhabited aJ := ⟨⟨default, default, default, default, default⟩⟩
mutual
def bE : aJ → List CV
 | ⟨Kind, Key, Attrs, Actions, Kids⟩ => [I Kind, Sx Key, .lit (List.map aM Attrs), .lit (List.map aD Actions), .lit (Db Kids)]
def Db : List aJ → List (List CV)
 | [] => []
 | x :: l => bE x :: Db l
end
theorem Ey : ∀ l, Db l = List.map bE l
 | [] => rfl
 | x :: l => by rw [Db, Ey l]; rfl
theorem iA (x : aJ) : bE x = [I x.Kind, Sx x.Key, .lit (List.map aM x.Attrs), .lit (List.map aD x.Actions), .lit (List.map bE x.Kids)] := by
 cases x; simp only [bE, Ey]
structure aN where
 L : (List Int)
 At : Int
instance : Inhabited aN := ⟨⟨default, default⟩⟩
structure eI where
 nodes : (List (Int × aP))
 class_ : (List (Int × ByteArray))
 states : (List (Int × Int))
instance : Inhabited eI := ⟨⟨default, default, default⟩⟩
structure iF where
 shape : eI
 rules : (List bY)
 order : (List Int)
 th : bS
 m : cY
instance : Inhabited iF := ⟨⟨default, default, default, default, default⟩⟩
structure dH where
 x0 : Int
 x1 : Int
instance : Inhabited dH := ⟨⟨default, default⟩⟩
def dH.toL (a : dH) : List Int := [a.x0, a.x1]
def dH.ofL (l : List Int) : dH := ⟨l.getD 0 default, l.getD 1 default⟩
theorem dH.toL_ofL (l : List Int) (h : l.length = 2) : (dH.ofL l).toL = l := by
 refine List.ext_getElem (by simp [dH.toL, h]) fun i h1 h2 => ?_
 have hi : i = 0 ∨ i = 1 := by omega
 rcases hi with rfl | rfl <;> simp [dH.toL, dH.ofL, List.getD_eq_getElem?_getD, h2]
def dH.set (a : dH) (k : Nat) (v : Int) : dH := dH.ofL (a.toL.set k v)
def Qu (x : dH) : List CV := [I x.x0, I x.x1]
theorem dH.splice_eq (a : dH) (k : Nat) (v : Int) (hk : k < 2) : fQ (Qu a) (k * 1) (aH v) = Qu (dH.set a k v) := by
 have h := mV (enc := aH) (sz := 1) (xs := a.toL) (k := k) (v := v) hk (fun x => by kernel_rfl)
 have h2 := dH.toL_ofL (a.toL.set k v) (by rw [List.length_set]; rfl)
 rw [← h2] at h
 exact h
structure cA where
 inherited : Bool
 low : Int
 high : Int
 start : Int
instance : Inhabited cA := ⟨⟨default, default, default, default⟩⟩
def jD (x : cA) : List CV := [Bo x.inherited, I x.low, I x.high, I x.start]
structure cR where
 x0 : cA
 x1 : cA
 x2 : cA
 x3 : cA
 x4 : cA
 x5 : cA
 x6 : cA
 x7 : cA
 x8 : cA
 x9 : cA
 x10 : cA
 x11 : cA
 x12 : cA
 x13 : cA
 x14 : cA
 x15 : cA
 x16 : cA
 x17 : cA
 x18 : cA
 x19 : cA
 x20 : cA
 x21 : cA
instance : Inhabited cR := ⟨⟨default, default, default, default, default, default, default, default, default, default, default, default, default, default, default, default, default, default, default, default, default, default⟩⟩
def cR.toL (a : cR) : List cA := [a.x0, a.x1, a.x2, a.x3, a.x4, a.x5, a.x6, a.x7, a.x8, a.x9, a.x10, a.x11, a.x12, a.x13, a.x14, a.x15, a.x16, a.x17, a.x18, a.x19, a.x20, a.x21]
def cR.ofL (l : List cA) : cR := ⟨l.getD 0 default, l.getD 1 default, l.getD 2 default, l.getD 3 default, l.getD 4 default, l.getD 5 default, l.getD 6 default, l.getD 7 default, l.getD 8 default, l.getD 9 default, l.getD 10 default, l.getD 11 default, l.getD 12 default, l.getD 13 default, l.getD 14 default, l.getD 15 default, l.getD 16 default, l.getD 17 default, l.getD 18 default, l.getD 19 default, l.getD 20 default, l.getD 21 default⟩
theorem cR.toL_ofL (l : List cA) (h : l.length = 22) : (cR.ofL l).toL = l := by
 refine List.ext_getElem (by simp [cR.toL, h]) fun i h1 h2 => ?_
 have hi : i = 0 ∨ i = 1 ∨ i = 2 ∨ i = 3 ∨ i = 4 ∨ i = 5 ∨ i = 6 ∨ i = 7 ∨ i = 8 ∨ i = 9 ∨ i = 10 ∨ i = 11 ∨ i = 12 ∨ i = 13 ∨ i = 14 ∨ i = 15 ∨ i = 16 ∨ i = 17 ∨ i = 18 ∨ i = 19 ∨ i = 20 ∨ i = 21 := by omega
 rcases hi with rfl | rfl | rfl | rfl | rfl | rfl | rfl | rfl | rfl | rfl | rfl | rfl | rfl | rfl | rfl | rfl | rfl | rfl | rfl | rfl | rfl | rfl <;> simp [cR.toL, cR.ofL, List.getD_eq_getElem?_getD, h2]
def cR.set (a : cR) (k : Nat) (v : cA) : cR := cR.ofL (a.toL.set k v)
def vC (x : cR) : List CV := [Bo x.x0.inherited, I x.x0.low, I x.x0.high, I x.x0.start, Bo x.x1.inherited, I x.x1.low, I x.x1.high, I x.x1.start, Bo x.x2.inherited, I x.x2.low, I x.x2.high, I x.x2.start, Bo x.x3.inherited, I x.x3.low, I x.x3.high, I x.x3.start, Bo x.x4.inherited, I x.x4.low, I x.x4.high, I x.x4.start, Bo x.x5.inherited, I x.x5.low, I x.x5.high, I x.x5.start, Bo x.x6.inherited, I x.x6.low, I x.x6.high, I x.x6.start, Bo x.x7.inherited, I x.x7.low, I x.x7.high, I x.x7.start, Bo x.x8.inherited, I x.x8.low, I x.x8.high, I x.x8.start, Bo x.x9.inherited, I x.x9.low, I x.x9.high, I x.x9.start, Bo x.x10.inherited, I x.x10.low, I x.x10.high, I x.x10.start, Bo x.x11.inherited, I x.x11.low, I x.x11.high, I x.x11.start, Bo x.x12.inherited, I x.x12.low, I x.x12.high, I x.x12.start, Bo x.x13.inherited, I x.x13.low, I x.x13.high, I x.x13.start, Bo x.x14.inherited, I x.x14.low, I x.x14.high, I x.x14.start, Bo x.x15.inherited, I x.x15.low, I x.x15.high, I x.x15.start, Bo x.x16.inherited, I x.x16.low, I x.x16.high, I x.x16.start, Bo x.x17.inherited, I x.x17.low, I x.x17.high, I x.x17.start, Bo x.x18.inherited, I x.x18.low, I x.x18.high, I x.x18.start, Bo x.x19.inherited, I x.x19.low, I x.x19.high, I x.x19.start, Bo x.x20.inherited, I x.x20.low, I x.x20.high, I x.x20.start, Bo x.x21.inherited, I x.x21.low, I x.x21.high, I x.x21.start]
theorem cR.splice_eq (a : cR) (k : Nat) (v : cA) (hk : k < 22) : fQ (vC a) (k * 4) (jD v) = vC (cR.set a k v) := by
 have h := mV (enc := jD) (sz := 4) (xs := a.toL) (k := k) (v := v) hk (fun x => by kernel_rfl)
 have h2 := cR.toL_ofL (a.toL.set k v) (by rw [List.length_set]; rfl)
 rw [← h2] at h
 exact h
structure gE where
 x0 : Int
 x1 : Int
 x2 : Int
 x3 : Int
instance : Inhabited gE := ⟨⟨default, default, default, default⟩⟩
def gE.toL (a : gE) : List Int := [a.x0, a.x1, a.x2, a.x3]
def gE.ofL (l : List Int) : gE := ⟨l.getD 0 default, l.getD 1 default, l.getD 2 default, l.getD 3 default⟩
theorem gE.toL_ofL (l : List Int) (h : l.length = 4) : (gE.ofL l).toL = l := by
 refine List.ext_getElem (by simp [gE.toL, h]) fun i h1 h2 => ?_
 have hi : i = 0 ∨ i = 1 ∨ i = 2 ∨ i = 3 := by omega
 rcases hi with rfl | rfl | rfl | rfl <;> simp [gE.toL, gE.ofL, List.getD_eq_getElem?_getD, h2]
def gE.set (a : gE) (k : Nat) (v : Int) : gE := gE.ofL (a.toL.set k v)
def Rn (x : gE) : List CV := [I x.x0, I x.x1, I x.x2, I x.x3]
theorem gE.splice_eq (a : gE) (k : Nat) (v : Int) (hk : k < 4) : fQ (Rn a) (k * 1) (aH v) = Rn (gE.set a k v) := by
 have h := mV (enc := aH) (sz := 1) (xs := a.toL) (k := k) (v := v) hk (fun x => by kernel_rfl)
 have h2 := gE.toL_ofL (a.toL.set k v) (by rw [List.length_set]; rfl)
 rw [← h2] at h
 exact h
structure cK where
 x0 : ByteArray
 x1 : ByteArray
instance : Inhabited cK := ⟨⟨default, default⟩⟩
def cK.toL (a : cK) : List ByteArray := [a.x0, a.x1]
def cK.ofL (l : List ByteArray) : cK := ⟨l.getD 0 default, l.getD 1 default⟩
theorem cK.toL_ofL (l : List ByteArray) (h : l.length = 2) : (cK.ofL l).toL = l := by
 refine List.ext_getElem (by simp [cK.toL, h]) fun i h1 h2 => ?_
 have hi : i = 0 ∨ i = 1 := by omega
 rcases hi with rfl | rfl <;> simp [cK.toL, cK.ofL, List.getD_eq_getElem?_getD, h2]
def cK.set (a : cK) (k : Nat) (v : ByteArray) : cK := cK.ofL (a.toL.set k v)
def xF (x : cK) : List CV := [Sx x.x0, Sx x.x1]
theorem cK.splice_eq (a : cK) (k : Nat) (v : ByteArray) (hk : k < 2) : fQ (xF a) (k * 1) (eS v) = xF (cK.set a k v) := by
 have h := mV (enc := eS) (sz := 1) (xs := a.toL) (k := k) (v := v) hk (fun x => by kernel_rfl)
 have h2 := cK.toL_ofL (a.toL.set k v) (by rw [List.length_set]; rfl)
 rw [← h2] at h
 exact h
structure aV where
 Kind : Int
 Of : (List aV)
instance : Inhabited aV := ⟨⟨default, default⟩⟩
mutual
def bI : aV → List CV
 | ⟨Kind, Of⟩ => [I Kind, .lit (Co Of)]
def Co : List aV → List (List CV)
 | [] => []
 | x :: l => bI x :: Co l
end
theorem Ef : ∀ l, Co l = List.map bI l
 | [] => rfl
 | x :: l => by rw [Co, Ef l]; rfl
theorem gB (x : aV) : bI x = [I x.Kind, .lit (List.map bI x.Of)] := by
 cases x; simp only [bI, Ef]
structure cE where
 lo : Int
 hi : Int
instance : Inhabited cE := ⟨⟨default, default⟩⟩
def jI (x : cE) : List CV := [U8 x.lo, U8 x.hi]
structure bT where
 x0 : cE
 x1 : cE
 x2 : cE
 x3 : cE
 x4 : cE
 x5 : cE
 x6 : cE
 x7 : cE
 x8 : cE
 x9 : cE
 x10 : cE
 x11 : cE
 x12 : cE
 x13 : cE
 x14 : cE
 x15 : cE
instance : Inhabited bT := ⟨⟨default, default, default, default, default, default, default, default, default, default, default, default, default, default, default, default⟩⟩
def bT.toL (a : bT) : List cE := [a.x0, a.x1, a.x2, a.x3, a.x4, a.x5, a.x6, a.x7, a.x8, a.x9, a.x10, a.x11, a.x12, a.x13, a.x14, a.x15]
def bT.ofL (l : List cE) : bT := ⟨l.getD 0 default, l.getD 1 default, l.getD 2 default, l.getD 3 default, l.getD 4 default, l.getD 5 default, l.getD 6 default, l.getD 7 default, l.getD 8 default, l.getD 9 default, l.getD 10 default, l.getD 11 default, l.getD 12 default, l.getD 13 default, l.getD 14 default, l.getD 15 default⟩
theorem bT.toL_ofL (l : List cE) (h : l.length = 16) : (bT.ofL l).toL = l := by
 refine List.ext_getElem (by simp [bT.toL, h]) fun i h1 h2 => ?_
 have hi : i = 0 ∨ i = 1 ∨ i = 2 ∨ i = 3 ∨ i = 4 ∨ i = 5 ∨ i = 6 ∨ i = 7 ∨ i = 8 ∨ i = 9 ∨ i = 10 ∨ i = 11 ∨ i = 12 ∨ i = 13 ∨ i = 14 ∨ i = 15 := by omega
 rcases hi with rfl | rfl | rfl | rfl | rfl | rfl | rfl | rfl | rfl | rfl | rfl | rfl | rfl | rfl | rfl | rfl <;> simp [bT.toL, bT.ofL, List.getD_eq_getElem?_getD, h2]
def bT.set (a : bT) (k : Nat) (v : cE) : bT := bT.ofL (a.toL.set k v)
def rI (x : bT) : List CV := [U8 x.x0.lo, U8 x.x0.hi, U8 x.x1.lo, U8 x.x1.hi, U8 x.x2.lo, U8 x.x2.hi, U8 x.x3.lo, U8 x.x3.hi, U8 x.x4.lo, U8 x.x4.hi, U8 x.x5.lo, U8 x.x5.hi, U8 x.x6.lo, U8 x.x6.hi, U8 x.x7.lo, U8 x.x7.hi, U8 x.x8.lo, U8 x.x8.hi, U8 x.x9.lo, U8 x.x9.hi, U8 x.x10.lo, U8 x.x10.hi, U8 x.x11.lo, U8 x.x11.hi, U8 x.x12.lo, U8 x.x12.hi, U8 x.x13.lo, U8 x.x13.hi, U8 x.x14.lo, U8 x.x14.hi, U8 x.x15.lo, U8 x.x15.hi]
theorem bT.splice_eq (a : bT) (k : Nat) (v : cE) (hk : k < 16) : fQ (rI a) (k * 2) (jI v) = rI (bT.set a k v) := by
 have h := mV (enc := jI) (sz := 2) (xs := a.toL) (k := k) (v := v) hk (fun x => by kernel_rfl)
 have h2 := bT.toL_ofL (a.toL.set k v) (by rw [List.length_set]; rfl)
 rw [← h2] at h
 exact h
def cW : Nat → Option TI
 | 3 => some ⟨.int .i64, 1, 8, [.int .i64 0]⟩
 | 4 => some ⟨.boo, 1, 1, [.bool false]⟩
 | 5 => some ⟨.int .u8, 1, 1, [.int .u8 0]⟩
 | 9 => some ⟨.str, 1, 16, [.string ⟨#[]⟩]⟩
 | 12 => some ⟨.int .u64, 1, 8, [.int .u64 0]⟩
 | 21 => some ⟨.int .i32, 1, 4, [.int .i32 0]⟩
 | 22 => some ⟨.sl 3, 1, 24, [.slice none 0 0]⟩
 | 23 => some ⟨.oth, 1, 8, [.pointer none]⟩
 | 25 => some ⟨.sl 58, 1, 24, [.slice none 0 0]⟩
 | 27 => some ⟨.st [(3, 0, 1), (3, 1, 1), (25, 2, 1)], 3, 40, [.int .i64 0, .int .i64 0, .slice none 0 0]⟩
 | 29 => some ⟨.sl 63, 1, 24, [.slice none 0 0]⟩
 | 31 => some ⟨.st [(29, 0, 1)], 1, 24, [.slice none 0 0]⟩
 | 33 => some ⟨.sl 85, 1, 24, [.slice none 0 0]⟩
 | 35 => some ⟨.st [(33, 0, 1)], 1, 24, [.slice none 0 0]⟩
 | 38 => some ⟨.st [(4, 0, 1), (4, 1, 1), (3, 2, 1)], 3, 16, [.bool false, .bool false, .int .i64 0]⟩
 | 40 => some ⟨.sl 67, 1, 24, [.slice none 0 0]⟩
 | 43 => some ⟨.oth, 1, 8, [.nilFunc]⟩
 | 44 => some ⟨.sl 54, 1, 24, [.slice none 0 0]⟩
 | 45 => some ⟨.int .i64, 1, 8, [.int .i64 0]⟩
 | 52 => some ⟨.arr 22 3, 22, 176, [.int .i64 0, .int .i64 0, .int .i64 0, .int .i64 0, .int .i64 0, .int .i64 0, .int .i64 0, .int .i64 0, .int .i64 0, .int .i64 0, .int .i64 0, .int .i64 0, .int .i64 0, .int .i64 0, .int .i64 0, .int .i64 0, .int .i64 0, .int .i64 0, .int .i64 0, .int .i64 0, .int .i64 0, .int .i64 0]⟩
 | 54 => some ⟨.st [(3, 0, 1), (52, 1, 22)], 23, 184, [.int .i64 0, .int .i64 0, .int .i64 0, .int .i64 0, .int .i64 0, .int .i64 0, .int .i64 0, .int .i64 0, .int .i64 0, .int .i64 0, .int .i64 0, .int .i64 0, .int .i64 0, .int .i64 0, .int .i64 0, .int .i64 0, .int .i64 0, .int .i64 0, .int .i64 0, .int .i64 0, .int .i64 0, .int .i64 0, .int .i64 0]⟩
 | 55 => some ⟨.sl 172, 1, 24, [.slice none 0 0]⟩
 | 56 => some ⟨.sl 159, 1, 24, [.slice none 0 0]⟩
 | 58 => some ⟨.st [(3, 0, 1), (3, 1, 1), (3, 2, 1), (9, 3, 1), (55, 4, 1), (56, 5, 1), (22, 6, 1)], 7, 112, [.int .i64 0, .int .i64 0, .int .i64 0, .string ⟨#[]⟩, .slice none 0 0, .slice none 0 0, .slice none 0 0]⟩
 | 61 => some ⟨.sl 81, 1, 24, [.slice none 0 0]⟩
 | 63 => some ⟨.st [(3, 0, 1), (9, 1, 1), (3, 2, 1), (3, 3, 1), (9, 4, 1), (61, 5, 1)], 6, 80, [.int .i64 0, .string ⟨#[]⟩, .int .i64 0, .int .i64 0, .string ⟨#[]⟩, .slice none 0 0]⟩
 | 67 => some ⟨.st [(3, 0, 1), (3, 1, 1)], 2, 16, [.int .i64 0, .int .i64 0]⟩
 | 68 => some ⟨.sl 70, 1, 24, [.slice none 0 0]⟩
 | 70 => some ⟨.st [(3, 0, 1), (9, 1, 1), (55, 2, 1), (56, 3, 1), (68, 4, 1)], 5, 96, [.int .i64 0, .string ⟨#[]⟩, .slice none 0 0, .slice none 0 0, .slice none 0 0]⟩
 | 78 => some ⟨.st [(22, 0, 1), (3, 1, 1)], 2, 32, [.slice none 0 0, .int .i64 0]⟩
 | 81 => some ⟨.st [(3, 0, 1), (3, 1, 1), (3, 2, 1), (9, 3, 1)], 4, 40, [.int .i64 0, .int .i64 0, .int .i64 0, .string ⟨#[]⟩]⟩
 | 83 => some ⟨.sl 9, 1, 24, [.slice none 0 0]⟩
 | 85 => some ⟨.st [(9, 0, 1), (3, 1, 1), (3, 2, 1), (3, 3, 1), (3, 4, 1)], 5, 48, [.string ⟨#[]⟩, .int .i64 0, .int .i64 0, .int .i64 0, .int .i64 0]⟩
 | 88 => some ⟨.mp 3 58, 1, 8, [.map none]⟩
 | 89 => some ⟨.mp 3 9, 1, 8, [.map none]⟩
 | 90 => some ⟨.mp 3 3, 1, 8, [.map none]⟩
 | 92 => some ⟨.st [(88, 0, 1), (89, 1, 1), (90, 2, 1)], 3, 24, [.map none, .map none, .map none]⟩
 | 95 => some ⟨.st [(92, 0, 3), (29, 3, 1), (22, 4, 1), (35, 5, 1), (38, 6, 3)], 9, 112, [.map none, .map none, .map none, .slice none 0 0, .slice none 0 0, .slice none 0 0, .bool false, .bool false, .int .i64 0]⟩
 | 97 => some ⟨.arr 2 3, 2, 16, [.int .i64 0, .int .i64 0]⟩
 | 100 => some ⟨.mp 3 52, 1, 8, [.map none]⟩
 | 111 => some ⟨.st [(4, 0, 1), (3, 1, 1), (3, 2, 1), (3, 3, 1)], 4, 32, [.bool false, .int .i64 0, .int .i64 0, .int .i64 0]⟩
 | 112 => some ⟨.arr 22 111, 88, 704, [.bool false, .int .i64 0, .int .i64 0, .int .i64 0, .bool false, .int .i64 0, .int .i64 0, .int .i64 0, .bool false, .int .i64 0, .int .i64 0, .int .i64 0, .bool false, .int .i64 0, .int .i64 0, .int .i64 0, .bool false, .int .i64 0, .int .i64 0, .int .i64 0, .bool false, .int .i64 0, .int .i64 0, .int .i64 0, .bool false, .int .i64 0, .int .i64 0, .int .i64 0, .bool false, .int .i64 0, .int .i64 0, .int .i64 0, .bool false, .int .i64 0, .int .i64 0, .int .i64 0, .bool false, .int .i64 0, .int .i64 0, .int .i64 0, .bool false, .int .i64 0, .int .i64 0, .int .i64 0, .bool false, .int .i64 0, .int .i64 0, .int .i64 0, .bool false, .int .i64 0, .int .i64 0, .int .i64 0, .bool false, .int .i64 0, .int .i64 0, .int .i64 0, .bool false, .int .i64 0, .int .i64 0, .int .i64 0, .bool false, .int .i64 0, .int .i64 0, .int .i64 0, .bool false, .int .i64 0, .int .i64 0, .int .i64 0, .bool false, .int .i64 0, .int .i64 0, .int .i64 0, .bool false, .int .i64 0, .int .i64 0, .int .i64 0, .bool false, .int .i64 0, .int .i64 0, .int .i64 0, .bool false, .int .i64 0, .int .i64 0, .int .i64 0, .bool false, .int .i64 0, .int .i64 0, .int .i64 0]⟩
 | 122 => some ⟨.mp 3 4, 1, 8, [.map none]⟩
 | 126 => some ⟨.mp 9 4, 1, 8, [.map none]⟩
 | 127 => some ⟨.arr 4 3, 4, 32, [.int .i64 0, .int .i64 0, .int .i64 0, .int .i64 0]⟩
 | 130 => some ⟨.oth, 1, 8, [.nilFunc]⟩
 | 133 => some ⟨.arr 2 9, 2, 32, [.string ⟨#[]⟩, .string ⟨#[]⟩]⟩
 | 137 => some ⟨.mp 3 81, 1, 8, [.map none]⟩
 | 150 => some ⟨.sl 152, 1, 24, [.slice none 0 0]⟩
 | 152 => some ⟨.st [(3, 0, 1), (3, 1, 1), (9, 2, 1), (150, 3, 1)], 4, 56, [.int .i64 0, .int .i64 0, .string ⟨#[]⟩, .slice none 0 0]⟩
 | 159 => some ⟨.st [(9, 0, 1), (9, 1, 1), (9, 2, 1), (150, 3, 1)], 4, 72, [.string ⟨#[]⟩, .string ⟨#[]⟩, .string ⟨#[]⟩, .slice none 0 0]⟩
 | 160 => some ⟨.sl 5, 1, 24, [.slice none 0 0]⟩
 | 164 => some ⟨.oth, 1, 8, [.nilFunc]⟩
 | 165 => some ⟨.oth, 1, 8, [.nilFunc]⟩
 | 172 => some ⟨.st [(9, 0, 1), (152, 1, 4)], 5, 72, [.string ⟨#[]⟩, .int .i64 0, .int .i64 0, .string ⟨#[]⟩, .slice none 0 0]⟩
 | 175 => some ⟨.oth, 1, 8, [.pointer none]⟩
 | 177 => some ⟨.sl 21, 1, 24, [.slice none 0 0]⟩
 | 188 => some ⟨.sl 190, 1, 24, [.slice none 0 0]⟩
 | 190 => some ⟨.st [(3, 0, 1), (188, 1, 1)], 2, 32, [.int .i64 0, .slice none 0 0]⟩
 | 204 => some ⟨.arr 256 5, 256, 256, [.int .u8 0, .int .u8 0, .int .u8 0, .int .u8 0, .int .u8 0, .int .u8 0, .int .u8 0, .int .u8 0, .int .u8 0, .int .u8 0, .int .u8 0, .int .u8 0, .int .u8 0, .int .u8 0, .int .u8 0, .int .u8 0, .int .u8 0, .int .u8 0, .int .u8 0, .int .u8 0, .int .u8 0, .int .u8 0, .int .u8 0, .int .u8 0, .int .u8 0, .int .u8 0, .int .u8 0, .int .u8 0, .int .u8 0, .int .u8 0, .int .u8 0, .int .u8 0, .int .u8 0, .int .u8 0, .int .u8 0, .int .u8 0, .int .u8 0, .int .u8 0, .int .u8 0, .int .u8 0, .int .u8 0, .int .u8 0, .int .u8 0, .int .u8 0, .int .u8 0, .int .u8 0, .int .u8 0, .int .u8 0, .int .u8 0, .int .u8 0, .int .u8 0, .int .u8 0, .int .u8 0, .int .u8 0, .int .u8 0, .int .u8 0, .int .u8 0, .int .u8 0, .int .u8 0, .int .u8 0, .int .u8 0, .int .u8 0, .int .u8 0, .int .u8 0, .int .u8 0, .int .u8 0, .int .u8 0, .int .u8 0, .int .u8 0, .int .u8 0, .int .u8 0, .int .u8 0, .int .u8 0, .int .u8 0, .int .u8 0, .int .u8 0, .int .u8 0, .int .u8 0, .int .u8 0, .int .u8 0, .int .u8 0, .int .u8 0, .int .u8 0, .int .u8 0, .int .u8 0, .int .u8 0, .int .u8 0, .int .u8 0, .int .u8 0, .int .u8 0, .int .u8 0, .int .u8 0, .int .u8 0, .int .u8 0, .int .u8 0, .int .u8 0, .int .u8 0, .int .u8 0, .int .u8 0, .int .u8 0, .int .u8 0, .int .u8 0, .int .u8 0, .int .u8 0, .int .u8 0, .int .u8 0, .int .u8 0, .int .u8 0, .int .u8 0, .int .u8 0, .int .u8 0, .int .u8 0, .int .u8 0, .int .u8 0, .int .u8 0, .int .u8 0, .int .u8 0, .int .u8 0, .int .u8 0, .int .u8 0, .int .u8 0, .int .u8 0, .int .u8 0, .int .u8 0, .int .u8 0, .int .u8 0, .int .u8 0, .int .u8 0, .int .u8 0, .int .u8 0, .int .u8 0, .int .u8 0, .int .u8 0, .int .u8 0, .int .u8 0, .int .u8 0, .int .u8 0, .int .u8 0, .int .u8 0, .int .u8 0, .int .u8 0, .int .u8 0, .int .u8 0, .int .u8 0, .int .u8 0, .int .u8 0, .int .u8 0, .int .u8 0, .int .u8 0, .int .u8 0, .int .u8 0, .int .u8 0, .int .u8 0, .int .u8 0, .int .u8 0, .int .u8 0, .int .u8 0, .int .u8 0, .int .u8 0, .int .u8 0, .int .u8 0, .int .u8 0, .int .u8 0, .int .u8 0, .int .u8 0, .int .u8 0, .int .u8 0, .int .u8 0, .int .u8 0, .int .u8 0, .int .u8 0, .int .u8 0, .int .u8 0, .int .u8 0, .int .u8 0, .int .u8 0, .int .u8 0, .int .u8 0, .int .u8 0, .int .u8 0, .int .u8 0, .int .u8 0, .int .u8 0, .int .u8 0, .int .u8 0, .int .u8 0, .int .u8 0, .int .u8 0, .int .u8 0, .int .u8 0, .int .u8 0, .int .u8 0, .int .u8 0, .int .u8 0, .int .u8 0, .int .u8 0, .int .u8 0, .int .u8 0, .int .u8 0, .int .u8 0, .int .u8 0, .int .u8 0, .int .u8 0, .int .u8 0, .int .u8 0, .int .u8 0, .int .u8 0, .int .u8 0, .int .u8 0, .int .u8 0, .int .u8 0, .int .u8 0, .int .u8 0, .int .u8 0, .int .u8 0, .int .u8 0, .int .u8 0, .int .u8 0, .int .u8 0, .int .u8 0, .int .u8 0, .int .u8 0, .int .u8 0, .int .u8 0, .int .u8 0, .int .u8 0, .int .u8 0, .int .u8 0, .int .u8 0, .int .u8 0, .int .u8 0, .int .u8 0, .int .u8 0, .int .u8 0, .int .u8 0, .int .u8 0, .int .u8 0, .int .u8 0, .int .u8 0, .int .u8 0, .int .u8 0, .int .u8 0, .int .u8 0, .int .u8 0, .int .u8 0, .int .u8 0, .int .u8 0, .int .u8 0, .int .u8 0, .int .u8 0, .int .u8 0, .int .u8 0, .int .u8 0, .int .u8 0, .int .u8 0, .int .u8 0]⟩
 | 206 => some ⟨.st [(5, 0, 1), (5, 1, 1)], 2, 2, [.int .u8 0, .int .u8 0]⟩
 | 207 => some ⟨.arr 16 206, 32, 32, [.int .u8 0, .int .u8 0, .int .u8 0, .int .u8 0, .int .u8 0, .int .u8 0, .int .u8 0, .int .u8 0, .int .u8 0, .int .u8 0, .int .u8 0, .int .u8 0, .int .u8 0, .int .u8 0, .int .u8 0, .int .u8 0, .int .u8 0, .int .u8 0, .int .u8 0, .int .u8 0, .int .u8 0, .int .u8 0, .int .u8 0, .int .u8 0, .int .u8 0, .int .u8 0, .int .u8 0, .int .u8 0, .int .u8 0, .int .u8 0, .int .u8 0, .int .u8 0]⟩
 | 208 => some ⟨.int .u64, 1, 8, [.int .u64 0]⟩
 | _ => none
theorem ti3 : eN Tryz.prog 3 = cW 3 := by kernel_rfl
theorem ti4 : eN Tryz.prog 4 = cW 4 := by kernel_rfl
theorem ti5 : eN Tryz.prog 5 = cW 5 := by kernel_rfl
theorem ti9 : eN Tryz.prog 9 = cW 9 := by kernel_rfl
theorem ti12 : eN Tryz.prog 12 = cW 12 := by kernel_rfl
theorem ti21 : eN Tryz.prog 21 = cW 21 := by kernel_rfl
theorem ti22 : eN Tryz.prog 22 = cW 22 := by kernel_rfl
theorem ti23 : eN Tryz.prog 23 = cW 23 := by kernel_rfl
theorem ti25 : eN Tryz.prog 25 = cW 25 := by kernel_rfl
theorem ti27 : eN Tryz.prog 27 = cW 27 := by kernel_rfl
theorem ti29 : eN Tryz.prog 29 = cW 29 := by kernel_rfl
theorem ti31 : eN Tryz.prog 31 = cW 31 := by kernel_rfl
theorem ti33 : eN Tryz.prog 33 = cW 33 := by kernel_rfl
theorem ti35 : eN Tryz.prog 35 = cW 35 := by kernel_rfl
theorem ti38 : eN Tryz.prog 38 = cW 38 := by kernel_rfl
theorem ti40 : eN Tryz.prog 40 = cW 40 := by kernel_rfl
theorem ti43 : eN Tryz.prog 43 = cW 43 := by kernel_rfl
theorem ti44 : eN Tryz.prog 44 = cW 44 := by kernel_rfl
theorem ti45 : eN Tryz.prog 45 = cW 45 := by kernel_rfl
theorem ti52 : eN Tryz.prog 52 = cW 52 := by kernel_rfl
theorem ti54 : eN Tryz.prog 54 = cW 54 := by kernel_rfl
theorem ti55 : eN Tryz.prog 55 = cW 55 := by kernel_rfl
theorem ti56 : eN Tryz.prog 56 = cW 56 := by kernel_rfl
theorem ti58 : eN Tryz.prog 58 = cW 58 := by kernel_rfl
theorem ti61 : eN Tryz.prog 61 = cW 61 := by kernel_rfl
theorem ti63 : eN Tryz.prog 63 = cW 63 := by kernel_rfl
theorem ti67 : eN Tryz.prog 67 = cW 67 := by kernel_rfl
theorem ti68 : eN Tryz.prog 68 = cW 68 := by kernel_rfl
theorem ti70 : eN Tryz.prog 70 = cW 70 := by kernel_rfl
theorem ti78 : eN Tryz.prog 78 = cW 78 := by kernel_rfl
theorem ti81 : eN Tryz.prog 81 = cW 81 := by kernel_rfl
theorem ti83 : eN Tryz.prog 83 = cW 83 := by kernel_rfl
theorem ti85 : eN Tryz.prog 85 = cW 85 := by kernel_rfl
theorem ti88 : eN Tryz.prog 88 = cW 88 := by kernel_rfl
theorem ti89 : eN Tryz.prog 89 = cW 89 := by kernel_rfl
theorem ti90 : eN Tryz.prog 90 = cW 90 := by kernel_rfl
theorem ti92 : eN Tryz.prog 92 = cW 92 := by kernel_rfl
theorem ti95 : eN Tryz.prog 95 = cW 95 := by kernel_rfl
theorem ti97 : eN Tryz.prog 97 = cW 97 := by kernel_rfl
theorem ti100 : eN Tryz.prog 100 = cW 100 := by kernel_rfl
theorem ti111 : eN Tryz.prog 111 = cW 111 := by kernel_rfl
theorem ti112 : eN Tryz.prog 112 = cW 112 := by kernel_rfl
theorem ti122 : eN Tryz.prog 122 = cW 122 := by kernel_rfl
theorem ti126 : eN Tryz.prog 126 = cW 126 := by kernel_rfl
theorem ti127 : eN Tryz.prog 127 = cW 127 := by kernel_rfl
theorem ti130 : eN Tryz.prog 130 = cW 130 := by kernel_rfl
theorem ti133 : eN Tryz.prog 133 = cW 133 := by kernel_rfl
theorem ti137 : eN Tryz.prog 137 = cW 137 := by kernel_rfl
theorem ti150 : eN Tryz.prog 150 = cW 150 := by kernel_rfl
theorem ti152 : eN Tryz.prog 152 = cW 152 := by kernel_rfl
theorem ti159 : eN Tryz.prog 159 = cW 159 := by kernel_rfl
theorem ti160 : eN Tryz.prog 160 = cW 160 := by kernel_rfl
theorem ti164 : eN Tryz.prog 164 = cW 164 := by kernel_rfl
theorem ti165 : eN Tryz.prog 165 = cW 165 := by kernel_rfl
theorem ti172 : eN Tryz.prog 172 = cW 172 := by kernel_rfl
theorem ti175 : eN Tryz.prog 175 = cW 175 := by kernel_rfl
theorem ti177 : eN Tryz.prog 177 = cW 177 := by kernel_rfl
theorem ti188 : eN Tryz.prog 188 = cW 188 := by kernel_rfl
theorem ti190 : eN Tryz.prog 190 = cW 190 := by kernel_rfl
theorem ti204 : eN Tryz.prog 204 = cW 204 := by kernel_rfl
theorem ti206 : eN Tryz.prog 206 = cW 206 := by kernel_rfl
theorem ti207 : eN Tryz.prog 207 = cW 207 := by kernel_rfl
theorem ti208 : eN Tryz.prog 208 = cW 208 := by kernel_rfl
theorem Yj (T : TypeId) (i : TI) (h : cW T = some i) : i.ok Tryz.prog T := by
 unfold cW at h
 split at h
 ·exact bP (ti3.trans h)
 ·exact bP (ti4.trans h)
 ·exact bP (ti5.trans h)
 ·exact bP (ti9.trans h)
 ·exact bP (ti12.trans h)
 ·exact bP (ti21.trans h)
 ·exact bP (ti22.trans h)
 ·exact bP (ti23.trans h)
 ·exact bP (ti25.trans h)
 ·exact bP (ti27.trans h)
 ·exact bP (ti29.trans h)
 ·exact bP (ti31.trans h)
 ·exact bP (ti33.trans h)
 ·exact bP (ti35.trans h)
 ·exact bP (ti38.trans h)
 ·exact bP (ti40.trans h)
 ·exact bP (ti43.trans h)
 ·exact bP (ti44.trans h)
 ·exact bP (ti45.trans h)
 ·exact bP (ti52.trans h)
 ·exact bP (ti54.trans h)
 ·exact bP (ti55.trans h)
 ·exact bP (ti56.trans h)
 ·exact bP (ti58.trans h)
 ·exact bP (ti61.trans h)
 ·exact bP (ti63.trans h)
 ·exact bP (ti67.trans h)
 ·exact bP (ti68.trans h)
 ·exact bP (ti70.trans h)
 ·exact bP (ti78.trans h)
 ·exact bP (ti81.trans h)
 ·exact bP (ti83.trans h)
 ·exact bP (ti85.trans h)
 ·exact bP (ti88.trans h)
 ·exact bP (ti89.trans h)
 ·exact bP (ti90.trans h)
 ·exact bP (ti92.trans h)
 ·exact bP (ti95.trans h)
 ·exact bP (ti97.trans h)
 ·exact bP (ti100.trans h)
 ·exact bP (ti111.trans h)
 ·exact bP (ti112.trans h)
 ·exact bP (ti122.trans h)
 ·exact bP (ti126.trans h)
 ·exact bP (ti127.trans h)
 ·exact bP (ti130.trans h)
 ·exact bP (ti133.trans h)
 ·exact bP (ti137.trans h)
 ·exact bP (ti150.trans h)
 ·exact bP (ti152.trans h)
 ·exact bP (ti159.trans h)
 ·exact bP (ti160.trans h)
 ·exact bP (ti164.trans h)
 ·exact bP (ti165.trans h)
 ·exact bP (ti172.trans h)
 ·exact bP (ti175.trans h)
 ·exact bP (ti177.trans h)
 ·exact bP (ti188.trans h)
 ·exact bP (ti190.trans h)
 ·exact bP (ti204.trans h)
 ·exact bP (ti206.trans h)
 ·exact bP (ti207.trans h)
 ·exact bP (ti208.trans h)
 ·cases h
def aY : List cA := [⟨true, 0, 16777215, 0⟩, ⟨false, (-1), 16777215, (-1)⟩, ⟨true, 1, 1000, 16⟩, ⟨true, 0, 7, 0⟩, ⟨true, 0, 1, 0⟩, ⟨false, 0, 4, 1⟩, ⟨false, 0, 4, 3⟩, ⟨false, 0, 3, 0⟩, ⟨true, 0, 2, 0⟩, ⟨false, 0, 1048576, 0⟩, ⟨false, 0, 1000, 0⟩, ⟨false, 0, 1000, 1⟩, ⟨false, (-1), 1048576, (-1)⟩, ⟨false, 0, 1048576, 0⟩, ⟨false, 0, 1048576, 1048576⟩, ⟨false, 0, 1048576, 0⟩, ⟨false, 0, 1048576, 1048576⟩, ⟨false, 0, 1048576, 0⟩, ⟨false, 0, 1048576, 0⟩, ⟨false, 0, 1048576, 0⟩, ⟨false, 0, 1048576, 0⟩, ⟨true, 0, 1, 0⟩]
def gY : List Int := (Pinned.utf8FirstZ.map Int.ofNat)
def dE : List cE := [⟨128, 191⟩, ⟨160, 191⟩, ⟨128, 159⟩, ⟨144, 191⟩, ⟨128, 143⟩, ⟨0, 0⟩, ⟨0, 0⟩, ⟨0, 0⟩, ⟨0, 0⟩, ⟨0, 0⟩, ⟨0, 0⟩, ⟨0, 0⟩, ⟨0, 0⟩, ⟨0, 0⟩, ⟨0, 0⟩, ⟨0, 0⟩]
def Ro : Nat → Option (List CV)
 | 0 => some (List.flatten (List.map jD aY))
 | 1 => some (List.flatten (List.map Ul gY))
 | 2 => some (List.flatten (List.map jI dE))
 | _ => none
noncomputable def E : nF := ⟨Tryz.prog, cW, Yj, Ro, by kernel_rfl⟩
theorem fok9 : cJ E 9 := ⟨Tryz.f9, Tryz.func9, by kernel_rfl, rfl⟩
theorem fok10 : cJ E 10 := ⟨Tryz.f10, Tryz.func10, by kernel_rfl, rfl⟩
theorem fok11 : cJ E 11 := ⟨Tryz.f11, Tryz.func11, by kernel_rfl, rfl⟩
theorem fok12 : cJ E 12 := ⟨Tryz.f12, Tryz.func12, by kernel_rfl, rfl⟩
theorem fok13 : cJ E 13 := ⟨Tryz.f13, Tryz.func13, by kernel_rfl, rfl⟩
theorem fok14 : cJ E 14 := ⟨Tryz.f14, Tryz.func14, by kernel_rfl, rfl⟩
theorem cS : cJ E 15 := ⟨Tryz.f15, Tryz.func15, by kernel_rfl, rfl⟩
theorem Se : cJ E 16 := ⟨Tryz.f16, Tryz.func16, by kernel_rfl, rfl⟩
theorem Wn : cJ E 17 := ⟨Tryz.f17, Tryz.func17, by kernel_rfl, rfl⟩
theorem fok19 : cJ E 19 := ⟨Tryz.f19, Tryz.func19, by kernel_rfl, rfl⟩
theorem fok20 : cJ E 20 := ⟨Tryz.f20, Tryz.func20, by kernel_rfl, rfl⟩
theorem fok21 : cJ E 21 := ⟨Tryz.f21, Tryz.func21, by kernel_rfl, rfl⟩
theorem aBk : cJ E 26 := ⟨Tryz.f26, Tryz.func26, by kernel_rfl, rfl⟩
theorem fok27 : cJ E 27 := ⟨Tryz.f27, Tryz.func27, by kernel_rfl, rfl⟩
theorem fok28 : cJ E 28 := ⟨Tryz.f28, Tryz.func28, by kernel_rfl, rfl⟩
theorem fok30 : cJ E 30 := ⟨Tryz.f30, Tryz.func30, by kernel_rfl, rfl⟩
theorem Yd : cJ E 32 := ⟨Tryz.f32, Tryz.func32, by kernel_rfl, rfl⟩
theorem fok33 : cJ E 33 := ⟨Tryz.f33, Tryz.func33, by kernel_rfl, rfl⟩
theorem fok34 : cJ E 34 := ⟨Tryz.f34, Tryz.func34, by kernel_rfl, rfl⟩
theorem fok35 : cJ E 35 := ⟨Tryz.f35, Tryz.func35, by kernel_rfl, rfl⟩
theorem Yn : cJ E 36 := ⟨Tryz.f36, Tryz.func36, by kernel_rfl, rfl⟩
theorem fok37 : cJ E 37 := ⟨Tryz.f37, Tryz.func37, by kernel_rfl, rfl⟩
theorem fok38 : cJ E 38 := ⟨Tryz.f38, Tryz.func38, by kernel_rfl, rfl⟩
theorem aBn : cJ E 39 := ⟨Tryz.f39, Tryz.func39, by kernel_rfl, rfl⟩
theorem fok40 : cJ E 40 := ⟨Tryz.f40, Tryz.func40, by kernel_rfl, rfl⟩
theorem fok41 : cJ E 41 := ⟨Tryz.f41, Tryz.func41, by kernel_rfl, rfl⟩
theorem fok42 : cJ E 42 := ⟨Tryz.f42, Tryz.func42, by kernel_rfl, rfl⟩
theorem fok49 : cJ E 49 := ⟨Tryz.f49, Tryz.func49, by kernel_rfl, rfl⟩
theorem Uw : cJ E 50 := ⟨Tryz.f50, Tryz.func50, by kernel_rfl, rfl⟩
theorem fok51 : cJ E 51 := ⟨Tryz.f51, Tryz.func51, by kernel_rfl, rfl⟩
theorem aBo : cJ E 57 := ⟨Tryz.f57, Tryz.func57, by kernel_rfl, rfl⟩
theorem fok58 : cJ E 58 := ⟨Tryz.f58, Tryz.func58, by kernel_rfl, rfl⟩
theorem fok59 : cJ E 59 := ⟨Tryz.f59, Tryz.func59, by kernel_rfl, rfl⟩
theorem fok60 : cJ E 60 := ⟨Tryz.f60, Tryz.func60, by kernel_rfl, rfl⟩
theorem fok62 : cJ E 62 := ⟨Tryz.f62, Tryz.func62, by kernel_rfl, rfl⟩
theorem fok65 : cJ E 65 := ⟨Tryz.f65, Tryz.func65, by kernel_rfl, rfl⟩
theorem Ea : cJ E 66 := ⟨Tryz.f66, Tryz.func66, by kernel_rfl, rfl⟩
theorem fok67 : cJ E 67 := ⟨Tryz.f67, Tryz.func67, by kernel_rfl, rfl⟩
theorem fok68 : cJ E 68 := ⟨Tryz.f68, Tryz.func68, by kernel_rfl, rfl⟩
theorem fok69 : cJ E 69 := ⟨Tryz.f69, Tryz.func69, by kernel_rfl, rfl⟩
theorem fok70 : cJ E 70 := ⟨Tryz.f70, Tryz.func70, by kernel_rfl, rfl⟩
theorem fok71 : cJ E 71 := ⟨Tryz.f71, Tryz.func71, by kernel_rfl, rfl⟩
theorem fok72 : cJ E 72 := ⟨Tryz.f72, Tryz.func72, by kernel_rfl, rfl⟩
theorem fok73 : cJ E 73 := ⟨Tryz.f73, Tryz.func73, by kernel_rfl, rfl⟩
theorem Ye : cJ E 74 := ⟨Tryz.f74, Tryz.func74, by kernel_rfl, rfl⟩
theorem fok75 : cJ E 75 := ⟨Tryz.f75, Tryz.func75, by kernel_rfl, rfl⟩
theorem fok76 : cJ E 76 := ⟨Tryz.f76, Tryz.func76, by kernel_rfl, rfl⟩
theorem fok77 : cJ E 77 := ⟨Tryz.f77, Tryz.func77, by kernel_rfl, rfl⟩
theorem fok86 : cJ E 86 := ⟨Tryz.f86, Tryz.func86, by kernel_rfl, rfl⟩
theorem fok91 : cJ E 91 := ⟨Tryz.f91, Tryz.func91, by kernel_rfl, rfl⟩
theorem fok93 : cJ E 93 := ⟨Tryz.f93, Tryz.func93, by kernel_rfl, rfl⟩
theorem aBj : cJ E 94 := ⟨Tryz.f94, Tryz.func94, by kernel_rfl, rfl⟩
theorem fok95 : cJ E 95 := ⟨Tryz.f95, Tryz.func95, by kernel_rfl, rfl⟩
theorem fok96 : cJ E 96 := ⟨Tryz.f96, Tryz.func96, by kernel_rfl, rfl⟩
theorem aBl : cJ E 97 := ⟨Tryz.f97, Tryz.func97, by kernel_rfl, rfl⟩
theorem fok98 : cJ E 98 := ⟨Tryz.f98, Tryz.func98, by kernel_rfl, rfl⟩
theorem fok99 : cJ E 99 := ⟨Tryz.f99, Tryz.func99, by kernel_rfl, rfl⟩
theorem fok100 : cJ E 100 := ⟨Tryz.f100, Tryz.func100, by kernel_rfl, rfl⟩
theorem fok101 : cJ E 101 := ⟨Tryz.f101, Tryz.func101, by kernel_rfl, rfl⟩
theorem Vo : cJ E 102 := ⟨Tryz.f102, Tryz.func102, by kernel_rfl, rfl⟩
theorem Uv : cJ E 104 := ⟨Tryz.f104, Tryz.func104, by kernel_rfl, rfl⟩
theorem fok105 : cJ E 105 := ⟨Tryz.f105, Tryz.func105, by kernel_rfl, rfl⟩
theorem fok106 : cJ E 106 := ⟨Tryz.f106, Tryz.func106, by kernel_rfl, rfl⟩
theorem fok107 : cJ E 107 := ⟨Tryz.f107, Tryz.func107, by kernel_rfl, rfl⟩
theorem Oq : cJ E 108 := ⟨Tryz.f108, Tryz.func108, by kernel_rfl, rfl⟩
theorem Yr : cJ E 114 := ⟨Tryz.f114, Tryz.func114, by kernel_rfl, rfl⟩
theorem Yi : cJ E 115 := ⟨Tryz.f115, Tryz.func115, by kernel_rfl, rfl⟩
theorem En : cJ E 116 := ⟨Tryz.f116, Tryz.func116, by kernel_rfl, rfl⟩
theorem Ki : cJ E 117 := ⟨Tryz.f117, Tryz.func117, by kernel_rfl, rfl⟩
theorem Aj : cJ E 118 := ⟨Tryz.f118, Tryz.func118, by kernel_rfl, rfl⟩
theorem fok119 : cJ E 119 := ⟨Tryz.f119, Tryz.func119, by kernel_rfl, rfl⟩
theorem fok120 : cJ E 120 := ⟨Tryz.f120, Tryz.func120, by kernel_rfl, rfl⟩
theorem Vz : cJ E 121 := ⟨Tryz.f121, Tryz.func121, by kernel_rfl, rfl⟩
theorem Yl : cJ E 122 := ⟨Tryz.f122, Tryz.func122, by kernel_rfl, rfl⟩
theorem fok123 : cJ E 123 := ⟨Tryz.f123, Tryz.func123, by kernel_rfl, rfl⟩
theorem Xy : cJ E 124 := ⟨Tryz.f124, Tryz.func124, by kernel_rfl, rfl⟩
theorem fok126 : cJ E 126 := ⟨Tryz.f126, Tryz.func126, by kernel_rfl, rfl⟩
theorem Vl : cJ E 127 := ⟨Tryz.f127, Tryz.func127, by kernel_rfl, rfl⟩
theorem fok129 : cJ E 129 := ⟨Tryz.f129, Tryz.func129, by kernel_rfl, rfl⟩
theorem fok130 : cJ E 130 := ⟨Tryz.f130, Tryz.func130, by kernel_rfl, rfl⟩
theorem fok131 : cJ E 131 := ⟨Tryz.f131, Tryz.func131, by kernel_rfl, rfl⟩
theorem fok132 : cJ E 132 := ⟨Tryz.f132, Tryz.func132, by kernel_rfl, rfl⟩
theorem Wr : cJ E 133 := ⟨Tryz.f133, Tryz.func133, by kernel_rfl, rfl⟩
theorem fok134 : cJ E 134 := ⟨Tryz.f134, Tryz.func134, by kernel_rfl, rfl⟩
theorem fok135 : cJ E 135 := ⟨Tryz.f135, Tryz.func135, by kernel_rfl, rfl⟩
theorem fok137 : cJ E 137 := ⟨Tryz.f137, Tryz.func137, by kernel_rfl, rfl⟩
theorem fok138 : cJ E 138 := ⟨Tryz.f138, Tryz.func138, by kernel_rfl, rfl⟩
theorem Xh : cJ E 139 := ⟨Tryz.f139, Tryz.func139, by kernel_rfl, rfl⟩
theorem fok140 : cJ E 140 := ⟨Tryz.f140, Tryz.func140, by kernel_rfl, rfl⟩
theorem fok141 : cJ E 141 := ⟨Tryz.f141, Tryz.func141, by kernel_rfl, rfl⟩
theorem fok142 : cJ E 142 := ⟨Tryz.f142, Tryz.func142, by kernel_rfl, rfl⟩
theorem Ym : cJ E 143 := ⟨Tryz.f143, Tryz.func143, by kernel_rfl, rfl⟩
theorem fok144 : cJ E 144 := ⟨Tryz.f144, Tryz.func144, by kernel_rfl, rfl⟩
theorem fok145 : cJ E 145 := ⟨Tryz.f145, Tryz.func145, by kernel_rfl, rfl⟩
theorem Vx : cJ E 146 := ⟨Tryz.f146, Tryz.func146, by kernel_rfl, rfl⟩
theorem We : cJ E 147 := ⟨Tryz.f147, Tryz.func147, by kernel_rfl, rfl⟩
theorem Ve : cJ E 148 := ⟨Tryz.f148, Tryz.func148, by kernel_rfl, rfl⟩
theorem fok149 : cJ E 149 := ⟨Tryz.f149, Tryz.func149, by kernel_rfl, rfl⟩
theorem fok150 : cJ E 150 := ⟨Tryz.f150, Tryz.func150, by kernel_rfl, rfl⟩
theorem fok151 : cJ E 151 := ⟨Tryz.f151, Tryz.func151, by kernel_rfl, rfl⟩
theorem fok152 : cJ E 152 := ⟨Tryz.f152, Tryz.func152, by kernel_rfl, rfl⟩
theorem Pb : cJ E 153 := ⟨Tryz.f153, Tryz.func153, by kernel_rfl, rfl⟩
theorem Xq : cJ E 155 := ⟨Tryz.f155, Tryz.func155, by kernel_rfl, rfl⟩
end Go.Proofs.YtojkihhnioeggaaGreatDoor.S
