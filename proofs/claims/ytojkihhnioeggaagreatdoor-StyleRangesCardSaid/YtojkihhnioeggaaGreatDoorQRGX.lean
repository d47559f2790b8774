import Derived.Test.YtojkihhnioeggaaGreatDoorQRBE
import Derived.Test.YtojkihhnioeggaaGreatDoorChecked
import GoSem.PinnedTables
set_option linter.unusedVariables false
namespace Go.Proofs.YtojkihhnioeggaaGreatDoor.S
open Go Go.Bm
structure aD where
 Kind : Int
 N : Int
 S : ByteArray
 L : (List aD)
instance : Inhabited aD := ⟨⟨default, default, default, default⟩⟩
mutual
def aL : aD → List CV
 | ⟨Kind, N, S, L⟩ => [I Kind, I N, Sx S, .lit (yY L)]
def yY : List aD → List (List CV)
 | [] => []
 | x :: l => aL x :: yY l
end
theorem Be : ∀ l, yY l = List.map aL l
 | [] => rfl
 | x :: l => by rw [yY, Be l]; rfl
theorem dO (x : aD) : aL x = [I x.Kind, I x.N, Sx x.S, .lit (List.map aL x.L)] := by
 cases x; simp only [aL, Be]
structure aZ where
 Name : ByteArray
 Value : aD
instance : Inhabited aZ := ⟨⟨default, default⟩⟩
def aQ (x : aZ) : List CV := [Sx x.Name, I x.Value.Kind, I x.Value.N, Sx x.Value.S, .lit (List.map aL x.Value.L)]
structure cN where
 Event : ByteArray
 Instance : ByteArray
 Handler : ByteArray
 Args : (List aD)
instance : Inhabited cN := ⟨⟨default, default, default, default⟩⟩
def aF (x : cN) : List CV := [Sx x.Event, Sx x.Instance, Sx x.Handler, .lit (List.map aL x.Args)]
structure aP where
 ID : Int
 Parent : Int
 Kind : Int
 Key : ByteArray
 Attrs : (List aZ)
 Actions : (List cN)
 Kids : (List Int)
instance : Inhabited aP := ⟨⟨default, default, default, default, default, default, default⟩⟩
def aM (x : aP) : List CV := [I x.ID, I x.Parent, I x.Kind, Sx x.Key, .lit (List.map aQ x.Attrs), .lit (List.map aF x.Actions), .lit (List.map aO x.Kids)]
structure bA where
 Root : Int
 Next : Int
 Nodes : (List aP)
instance : Inhabited bA := ⟨⟨default, default, default⟩⟩
structure bJ where
 Prop_ : Int
 Source : Int
 N : Int
 Token : ByteArray
instance : Inhabited bJ := ⟨⟨default, default, default, default⟩⟩
def bU (x : bJ) : List CV := [I x.Prop_, I x.Source, I x.N, Sx x.Token]
structure bT where
 Kind : Int
 Class : ByteArray
 States : Int
 UnderKind : Int
 UnderClass : ByteArray
 Decls : (List bJ)
instance : Inhabited bT := ⟨⟨default, default, default, default, default, default⟩⟩
def bG (x : bT) : List CV := [I x.Kind, Sx x.Class, I x.States, I x.UnderKind, Sx x.UnderClass, .lit (List.map bU x.Decls)]
structure bE where
 Rules : (List bT)
instance : Inhabited bE := ⟨⟨default⟩⟩
structure dI where
 Name : ByteArray
 Light : Int
 Dark : Int
 HighLight : Int
 HighDark : Int
instance : Inhabited dI := ⟨⟨default, default, default, default, default⟩⟩
def cI (x : dI) : List CV := [Sx x.Name, I x.Light, I x.Dark, I x.HighLight, I x.HighDark]
structure bM where
 Tokens : (List dI)
instance : Inhabited bM := ⟨⟨default⟩⟩
structure cQ where
 Dark : Bool
 High : Bool
 Scale : Int
instance : Inhabited cQ := ⟨⟨default, default, default⟩⟩
structure aT where
 ID : Int
 States : Int
instance : Inhabited aT := ⟨⟨default, default⟩⟩
def cO (x : aT) : List CV := [I x.ID, I x.States]
structure aA where
 x0 : Int
 x1 : Int
 x2 : Int
 x3 : Int
 x4 : Int
 x5 : Int
 x6 : Int
 x7 : Int
 x8 : Int
 x9 : Int
 x10 : Int
 x11 : Int
 x12 : Int
 x13 : Int
 x14 : Int
 x15 : Int
 x16 : Int
 x17 : Int
 x18 : Int
 x19 : Int
 x20 : Int
 x21 : Int
instance : Inhabited aA := ⟨⟨default, default, default, default, default, default, default, default, default, default, default, default, default, default, default, default, default, default, default, default, default, default⟩⟩
def aA.toL (a : aA) : List Int := [a.x0, a.x1, a.x2, a.x3, a.x4, a.x5, a.x6, a.x7, a.x8, a.x9, a.x10, a.x11, a.x12, a.x13, a.x14, a.x15, a.x16, a.x17, a.x18, a.x19, a.x20, a.x21]
def aA.ofL (l : List Int) : aA := ⟨l.getD 0 default, l.getD 1 default, l.getD 2 default, l.getD 3 default, l.getD 4 default, l.getD 5 default, l.getD 6 default, l.getD 7 default, l.getD 8 default, l.getD 9 default, l.getD 10 default, l.getD 11 default, l.getD 12 default, l.getD 13 default, l.getD 14 default, l.getD 15 default, l.getD 16 default, l.getD 17 default, l.getD 18 default, l.getD 19 default, l.getD 20 default, l.getD 21 default⟩
theorem aA.toL_ofL (l : List Int) (h : l.length = 22) : (aA.ofL l).toL = l := by
 refine List.ext_getElem (by simp [aA.toL, h]) fun i h1 h2 => ?_
 have hi : i = 0 ∨ i = 1 ∨ i = 2 ∨ i = 3 ∨ i = 4 ∨ i = 5 ∨ i = 6 ∨ i = 7 ∨ i = 8 ∨ i = 9 ∨ i = 10 ∨ i = 11 ∨ i = 12 ∨ i = 13 ∨ i = 14 ∨ i = 15 ∨ i = 16 ∨ i = 17 ∨ i = 18 ∨ i = 19 ∨ i = 20 ∨ i = 21 := by omega
 rcases hi with rfl | rfl | rfl | rfl | rfl | rfl | rfl | rfl | rfl | rfl | rfl | rfl | rfl | rfl | rfl | rfl | rfl | rfl | rfl | rfl | rfl | rfl <;> simp [aA.toL, aA.ofL, List.getD_eq_getElem?_getD, h2]
def aA.set (a : aA) (k : Nat) (v : Int) : aA := aA.ofL (a.toL.set k v)
def lY (x : aA) : List CV := [I x.x0, I x.x1, I x.x2, I x.x3, I x.x4, I x.x5, I x.x6, I x.x7, I x.x8, I x.x9, I x.x10, I x.x11, I x.x12, I x.x13, I x.x14, I x.x15, I x.x16, I x.x17, I x.x18, I x.x19, I x.x20, I x.x21]
theorem aA.splice_eq (a : aA) (k : Nat) (v : Int) (hk : k < 22) : fM (lY a) (k * 1) (aO v) = lY (aA.set a k v) := by
 have h := mP (enc := aO) (sz := 1) (xs := a.toL) (k := k) (v := v) hk (fun x => by kernel_rfl)
 have h2 := aA.toL_ofL (a.toL.set k v) (by rw [List.length_set]; rfl)
 rw [← h2] at h
 exact h
structure bC where
 ID : Int
 Style : aA
instance : Inhabited bC := ⟨⟨default, default⟩⟩
def cV (x : bC) : List CV := [I x.ID, I x.Style.x0, I x.Style.x1, I x.Style.x2, I x.Style.x3, I x.Style.x4, I x.Style.x5, I x.Style.x6, I x.Style.x7, I x.Style.x8, I x.Style.x9, I x.Style.x10, I x.Style.x11, I x.Style.x12, I x.Style.x13, I x.Style.x14, I x.Style.x15, I x.Style.x16, I x.Style.x17, I x.Style.x18, I x.Style.x19, I x.Style.x20, I x.Style.x21]
structure aG where
 Kind : Int
 Key : ByteArray
 Attrs : (List aZ)
 Actions : (List cN)
 Kids : (List aG)
instance : Inhabited aG := ⟨⟨default, default, default, default, default⟩⟩
mutual
def bB : aG → List CV
 | ⟨Kind, Key, Attrs, Actions, Kids⟩ => [I Kind, Sx Key, .lit (List.map aQ Attrs), .lit (List.map aF Actions), .lit (Cl Kids)]
def Cl : List aG → List (List CV)
 | [] => []
 | x :: l => bB x :: Cl l
end
theorem Ee : ∀ l, Cl l = List.map bB l
 | [] => rfl
 | x :: l => by rw [Cl, Ee l]; rfl
theorem gW (x : aG) : bB x = [I x.Kind, Sx x.Key, .lit (List.map aQ x.Attrs), .lit (List.map aF x.Actions), .lit (List.map bB x.Kids)] := by
 cases x; simp only [bB, Ee]
structure aK where
 L : (List Int)
 At : Int
instance : Inhabited aK := ⟨⟨default, default⟩⟩
structure iY where
 nodes : (List (Int × aP))
 class_ : (List (Int × ByteArray))
 states : (List (Int × Int))
instance : Inhabited iY := ⟨⟨default, default, default⟩⟩
structure hZ where
 shape : iY
 rules : (List bT)
 order : (List Int)
 th : bM
 m : cQ
instance : Inhabited hZ := ⟨⟨default, default, default, default, default⟩⟩
structure dD where
 x0 : Int
 x1 : Int
instance : Inhabited dD := ⟨⟨default, default⟩⟩
def dD.toL (a : dD) : List Int := [a.x0, a.x1]
def dD.ofL (l : List Int) : dD := ⟨l.getD 0 default, l.getD 1 default⟩
theorem dD.toL_ofL (l : List Int) (h : l.length = 2) : (dD.ofL l).toL = l := by
 refine List.ext_getElem (by simp [dD.toL, h]) fun i h1 h2 => ?_
 have hi : i = 0 ∨ i = 1 := by omega
 rcases hi with rfl | rfl <;> simp [dD.toL, dD.ofL, List.getD_eq_getElem?_getD, h2]
def dD.set (a : dD) (k : Nat) (v : Int) : dD := dD.ofL (a.toL.set k v)
def Pu (x : dD) : List CV := [I x.x0, I x.x1]
theorem dD.splice_eq (a : dD) (k : Nat) (v : Int) (hk : k < 2) : fM (Pu a) (k * 1) (aO v) = Pu (dD.set a k v) := by
 have h := mP (enc := aO) (sz := 1) (xs := a.toL) (k := k) (v := v) hk (fun x => by kernel_rfl)
 have h2 := dD.toL_ofL (a.toL.set k v) (by rw [List.length_set]; rfl)
 rw [← h2] at h
 exact h
structure bR where
 inherited : Bool
 low : Int
 high : Int
 start : Int
instance : Inhabited bR := ⟨⟨default, default, default, default⟩⟩
def jA (x : bR) : List CV := [Bo x.inherited, I x.low, I x.high, I x.start]
structure cK where
 x0 : bR
 x1 : bR
 x2 : bR
 x3 : bR
 x4 : bR
 x5 : bR
 x6 : bR
 x7 : bR
 x8 : bR
 x9 : bR
 x10 : bR
 x11 : bR
 x12 : bR
 x13 : bR
 x14 : bR
 x15 : bR
 x16 : bR
 x17 : bR
 x18 : bR
 x19 : bR
 x20 : bR
 x21 : bR
instance : Inhabited cK := ⟨⟨default, default, default, default, default, default, default, default, default, default, default, default, default, default, default, default, default, default, default, default, default, default⟩⟩
def cK.toL (a : cK) : List bR := [a.x0, a.x1, a.x2, a.x3, a.x4, a.x5, a.x6, a.x7, a.x8, a.x9, a.x10, a.x11, a.x12, a.x13, a.x14, a.x15, a.x16, a.x17, a.x18, a.x19, a.x20, a.x21]
def cK.ofL (l : List bR) : cK := ⟨l.getD 0 default, l.getD 1 default, l.getD 2 default, l.getD 3 default, l.getD 4 default, l.getD 5 default, l.getD 6 default, l.getD 7 default, l.getD 8 default, l.getD 9 default, l.getD 10 default, l.getD 11 default, l.getD 12 default, l.getD 13 default, l.getD 14 default, l.getD 15 default, l.getD 16 default, l.getD 17 default, l.getD 18 default, l.getD 19 default, l.getD 20 default, l.getD 21 default⟩
theorem cK.toL_ofL (l : List bR) (h : l.length = 22) : (cK.ofL l).toL = l := by
 refine List.ext_getElem (by simp [cK.toL, h]) fun i h1 h2 => ?_
 have hi : i = 0 ∨ i = 1 ∨ i = 2 ∨ i = 3 ∨ i = 4 ∨ i = 5 ∨ i = 6 ∨ i = 7 ∨ i = 8 ∨ i = 9 ∨ i = 10 ∨ i = 11 ∨ i = 12 ∨ i = 13 ∨ i = 14 ∨ i = 15 ∨ i = 16 ∨ i = 17 ∨ i = 18 ∨ i = 19 ∨ i = 20 ∨ i = 21 := by omega
 rcases hi with rfl | rfl | rfl | rfl | rfl | rfl | rfl | rfl | rfl | rfl | rfl | rfl | rfl | rfl | rfl | rfl | rfl | rfl | rfl | rfl | rfl | rfl <;> simp [cK.toL, cK.ofL, List.getD_eq_getElem?_getD, h2]
def cK.set (a : cK) (k : Nat) (v : bR) : cK := cK.ofL (a.toL.set k v)
def uO (x : cK) : List CV := [Bo x.x0.inherited, I x.x0.low, I x.x0.high, I x.x0.start, Bo x.x1.inherited, I x.x1.low, I x.x1.high, I x.x1.start, Bo x.x2.inherited, I x.x2.low, I x.x2.high, I x.x2.start, Bo x.x3.inherited, I x.x3.low, I x.x3.high, I x.x3.start, Bo x.x4.inherited, I x.x4.low, I x.x4.high, I x.x4.start, Bo x.x5.inherited, I x.x5.low, I x.x5.high, I x.x5.start, Bo x.x6.inherited, I x.x6.low, I x.x6.high, I x.x6.start, Bo x.x7.inherited, I x.x7.low, I x.x7.high, I x.x7.start, Bo x.x8.inherited, I x.x8.low, I x.x8.high, I x.x8.start, Bo x.x9.inherited, I x.x9.low, I x.x9.high, I x.x9.start, Bo x.x10.inherited, I x.x10.low, I x.x10.high, I x.x10.start, Bo x.x11.inherited, I x.x11.low, I x.x11.high, I x.x11.start, Bo x.x12.inherited, I x.x12.low, I x.x12.high, I x.x12.start, Bo x.x13.inherited, I x.x13.low, I x.x13.high, I x.x13.start, Bo x.x14.inherited, I x.x14.low, I x.x14.high, I x.x14.start, Bo x.x15.inherited, I x.x15.low, I x.x15.high, I x.x15.start, Bo x.x16.inherited, I x.x16.low, I x.x16.high, I x.x16.start, Bo x.x17.inherited, I x.x17.low, I x.x17.high, I x.x17.start, Bo x.x18.inherited, I x.x18.low, I x.x18.high, I x.x18.start, Bo x.x19.inherited, I x.x19.low, I x.x19.high, I x.x19.start, Bo x.x20.inherited, I x.x20.low, I x.x20.high, I x.x20.start, Bo x.x21.inherited, I x.x21.low, I x.x21.high, I x.x21.start]
theorem cK.splice_eq (a : cK) (k : Nat) (v : bR) (hk : k < 22) : fM (uO a) (k * 4) (jA v) = uO (cK.set a k v) := by
 have h := mP (enc := jA) (sz := 4) (xs := a.toL) (k := k) (v := v) hk (fun x => by kernel_rfl)
 have h2 := cK.toL_ofL (a.toL.set k v) (by rw [List.length_set]; rfl)
 rw [← h2] at h
 exact h
structure fX where
 x0 : Int
 x1 : Int
 x2 : Int
 x3 : Int
instance : Inhabited fX := ⟨⟨default, default, default, default⟩⟩
def fX.toL (a : fX) : List Int := [a.x0, a.x1, a.x2, a.x3]
def fX.ofL (l : List Int) : fX := ⟨l.getD 0 default, l.getD 1 default, l.getD 2 default, l.getD 3 default⟩
theorem fX.toL_ofL (l : List Int) (h : l.length = 4) : (fX.ofL l).toL = l := by
 refine List.ext_getElem (by simp [fX.toL, h]) fun i h1 h2 => ?_
 have hi : i = 0 ∨ i = 1 ∨ i = 2 ∨ i = 3 := by omega
 rcases hi with rfl | rfl | rfl | rfl <;> simp [fX.toL, fX.ofL, List.getD_eq_getElem?_getD, h2]
def fX.set (a : fX) (k : Nat) (v : Int) : fX := fX.ofL (a.toL.set k v)
def Qm (x : fX) : List CV := [I x.x0, I x.x1, I x.x2, I x.x3]
theorem fX.splice_eq (a : fX) (k : Nat) (v : Int) (hk : k < 4) : fM (Qm a) (k * 1) (aO v) = Qm (fX.set a k v) := by
 have h := mP (enc := aO) (sz := 1) (xs := a.toL) (k := k) (v := v) hk (fun x => by kernel_rfl)
 have h2 := fX.toL_ofL (a.toL.set k v) (by rw [List.length_set]; rfl)
 rw [← h2] at h
 exact h
structure cB where
 x0 : ByteArray
 x1 : ByteArray
instance : Inhabited cB := ⟨⟨default, default⟩⟩
def cB.toL (a : cB) : List ByteArray := [a.x0, a.x1]
def cB.ofL (l : List ByteArray) : cB := ⟨l.getD 0 default, l.getD 1 default⟩
theorem cB.toL_ofL (l : List ByteArray) (h : l.length = 2) : (cB.ofL l).toL = l := by
 refine List.ext_getElem (by simp [cB.toL, h]) fun i h1 h2 => ?_
 have hi : i = 0 ∨ i = 1 := by omega
 rcases hi with rfl | rfl <;> simp [cB.toL, cB.ofL, List.getD_eq_getElem?_getD, h2]
def cB.set (a : cB) (k : Nat) (v : ByteArray) : cB := cB.ofL (a.toL.set k v)
def wM (x : cB) : List CV := [Sx x.x0, Sx x.x1]
theorem cB.splice_eq (a : cB) (k : Nat) (v : ByteArray) (hk : k < 2) : fM (wM a) (k * 1) (eS v) = wM (cB.set a k v) := by
 have h := mP (enc := eS) (sz := 1) (xs := a.toL) (k := k) (v := v) hk (fun x => by kernel_rfl)
 have h2 := cB.toL_ofL (a.toL.set k v) (by rw [List.length_set]; rfl)
 rw [← h2] at h
 exact h
structure aU where
 Kind : Int
 Of : (List aU)
instance : Inhabited aU := ⟨⟨default, default⟩⟩
mutual
def bF : aU → List CV
 | ⟨Kind, Of⟩ => [I Kind, .lit (Bz Of)]
def Bz : List aU → List (List CV)
 | [] => []
 | x :: l => bF x :: Bz l
end
theorem Dn : ∀ l, Bz l = List.map bF l
 | [] => rfl
 | x :: l => by rw [Bz, Dn l]; rfl
theorem fU (x : aU) : bF x = [I x.Kind, .lit (List.map bF x.Of)] := by
 cases x; simp only [bF, Dn]
structure bX where
 lo : Int
 hi : Int
instance : Inhabited bX := ⟨⟨default, default⟩⟩
def jD (x : bX) : List CV := [U8 x.lo, U8 x.hi]
structure bO where
 x0 : bX
 x1 : bX
 x2 : bX
 x3 : bX
 x4 : bX
 x5 : bX
 x6 : bX
 x7 : bX
 x8 : bX
 x9 : bX
 x10 : bX
 x11 : bX
 x12 : bX
 x13 : bX
 x14 : bX
 x15 : bX
instance : Inhabited bO := ⟨⟨default, default, default, default, default, default, default, default, default, default, default, default, default, default, default, default⟩⟩
def bO.toL (a : bO) : List bX := [a.x0, a.x1, a.x2, a.x3, a.x4, a.x5, a.x6, a.x7, a.x8, a.x9, a.x10, a.x11, a.x12, a.x13, a.x14, a.x15]
def bO.ofL (l : List bX) : bO := ⟨l.getD 0 default, l.getD 1 default, l.getD 2 default, l.getD 3 default, l.getD 4 default, l.getD 5 default, l.getD 6 default, l.getD 7 default, l.getD 8 default, l.getD 9 default, l.getD 10 default, l.getD 11 default, l.getD 12 default, l.getD 13 default, l.getD 14 default, l.getD 15 default⟩
theorem bO.toL_ofL (l : List bX) (h : l.length = 16) : (bO.ofL l).toL = l := by
 refine List.ext_getElem (by simp [bO.toL, h]) fun i h1 h2 => ?_
 have hi : i = 0 ∨ i = 1 ∨ i = 2 ∨ i = 3 ∨ i = 4 ∨ i = 5 ∨ i = 6 ∨ i = 7 ∨ i = 8 ∨ i = 9 ∨ i = 10 ∨ i = 11 ∨ i = 12 ∨ i = 13 ∨ i = 14 ∨ i = 15 := by omega
 rcases hi with rfl | rfl | rfl | rfl | rfl | rfl | rfl | rfl | rfl | rfl | rfl | rfl | rfl | rfl | rfl | rfl <;> simp [bO.toL, bO.ofL, List.getD_eq_getElem?_getD, h2]
def bO.set (a : bO) (k : Nat) (v : bX) : bO := bO.ofL (a.toL.set k v)
def rB (x : bO) : List CV := [U8 x.x0.lo, U8 x.x0.hi, U8 x.x1.lo, U8 x.x1.hi, U8 x.x2.lo, U8 x.x2.hi, U8 x.x3.lo, U8 x.x3.hi, U8 x.x4.lo, U8 x.x4.hi, U8 x.x5.lo, U8 x.x5.hi, U8 x.x6.lo, U8 x.x6.hi, U8 x.x7.lo, U8 x.x7.hi, U8 x.x8.lo, U8 x.x8.hi, U8 x.x9.lo, U8 x.x9.hi, U8 x.x10.lo, U8 x.x10.hi, U8 x.x11.lo, U8 x.x11.hi, U8 x.x12.lo, U8 x.x12.hi, U8 x.x13.lo, U8 x.x13.hi, U8 x.x14.lo, U8 x.x14.hi, U8 x.x15.lo, U8 x.x15.hi]
theorem bO.splice_eq (a : bO) (k : Nat) (v : bX) (hk : k < 16) : fM (rB a) (k * 2) (jD v) = rB (bO.set a k v) := by
 have h := mP (enc := jD) (sz := 2) (xs := a.toL) (k := k) (v := v) hk (fun x => by kernel_rfl)
 have h2 := bO.toL_ofL (a.toL.set k v) (by rw [List.length_set]; rfl)
 rw [← h2] at h
 exact h
def cR : Nat → Option TI
 | 3 => some ⟨.int .i64, 1, 8, [.int .i64 0]⟩
 | 4 => some ⟨.boo, 1, 1, [.bool false]⟩
 | 5 => some ⟨.int .u8, 1, 1, [.int .u8 0]⟩
 | 9 => some ⟨.str, 1, 16, [.string ⟨#[]⟩]⟩
 | 12 => some ⟨.int .u64, 1, 8, [.int .u64 0]⟩
 | 21 => some ⟨.int .i32, 1, 4, [.int .i32 0]⟩
 | 22 => some ⟨.sl 3, 1, 24, [.slice none 0 0]⟩
 | 23 => some ⟨.oth, 1, 8, [.pointer none]⟩
 | 25 => some ⟨.sl 58, 1, 24, [.slice none 0 0]⟩
 | 27 => some ⟨.st [(3, 0, 1), (3, 1, 1), (25, 2, 1)], 3, 40, [.int .i64 0, .int .i64 0, .slice none 0 0]⟩
 | 29 => some ⟨.sl 63, 1, 24, [.slice none 0 0]⟩
 | 31 => some ⟨.st [(29, 0, 1)], 1, 24, [.slice none 0 0]⟩
 | 33 => some ⟨.sl 85, 1, 24, [.slice none 0 0]⟩
 | 35 => some ⟨.st [(33, 0, 1)], 1, 24, [.slice none 0 0]⟩
 | 38 => some ⟨.st [(4, 0, 1), (4, 1, 1), (3, 2, 1)], 3, 16, [.bool false, .bool false, .int .i64 0]⟩
 | 40 => some ⟨.sl 67, 1, 24, [.slice none 0 0]⟩
 | 43 => some ⟨.oth, 1, 8, [.nilFunc]⟩
 | 44 => some ⟨.sl 54, 1, 24, [.slice none 0 0]⟩
 | 45 => some ⟨.int .i64, 1, 8, [.int .i64 0]⟩
 | 52 => some ⟨.arr 22 3, 22, 176, [.int .i64 0, .int .i64 0, .int .i64 0, .int .i64 0, .int .i64 0, .int .i64 0, .int .i64 0, .int .i64 0, .int .i64 0, .int .i64 0, .int .i64 0, .int .i64 0, .int .i64 0, .int .i64 0, .int .i64 0, .int .i64 0, .int .i64 0, .int .i64 0, .int .i64 0, .int .i64 0, .int .i64 0, .int .i64 0]⟩
 | 54 => some ⟨.st [(3, 0, 1), (52, 1, 22)], 23, 184, [.int .i64 0, .int .i64 0, .int .i64 0, .int .i64 0, .int .i64 0, .int .i64 0, .int .i64 0, .int .i64 0, .int .i64 0, .int .i64 0, .int .i64 0, .int .i64 0, .int .i64 0, .int .i64 0, .int .i64 0, .int .i64 0, .int .i64 0, .int .i64 0, .int .i64 0, .int .i64 0, .int .i64 0, .int .i64 0, .int .i64 0]⟩
 | 55 => some ⟨.sl 172, 1, 24, [.slice none 0 0]⟩
 | 56 => some ⟨.sl 159, 1, 24, [.slice none 0 0]⟩
 | 58 => some ⟨.st [(3, 0, 1), (3, 1, 1), (3, 2, 1), (9, 3, 1), (55, 4, 1), (56, 5, 1), (22, 6, 1)], 7, 112, [.int .i64 0, .int .i64 0, .int .i64 0, .string ⟨#[]⟩, .slice none 0 0, .slice none 0 0, .slice none 0 0]⟩
 | 61 => some ⟨.sl 81, 1, 24, [.slice none 0 0]⟩
 | 63 => some ⟨.st [(3, 0, 1), (9, 1, 1), (3, 2, 1), (3, 3, 1), (9, 4, 1), (61, 5, 1)], 6, 80, [.int .i64 0, .string ⟨#[]⟩, .int .i64 0, .int .i64 0, .string ⟨#[]⟩, .slice none 0 0]⟩
 | 67 => some ⟨.st [(3, 0, 1), (3, 1, 1)], 2, 16, [.int .i64 0, .int .i64 0]⟩
 | 68 => some ⟨.sl 70, 1, 24, [.slice none 0 0]⟩
 | 70 => some ⟨.st [(3, 0, 1), (9, 1, 1), (55, 2, 1), (56, 3, 1), (68, 4, 1)], 5, 96, [.int .i64 0, .string ⟨#[]⟩, .slice none 0 0, .slice none 0 0, .slice none 0 0]⟩
 | 78 => some ⟨.st [(22, 0, 1), (3, 1, 1)], 2, 32, [.slice none 0 0, .int .i64 0]⟩
 | 81 => some ⟨.st [(3, 0, 1), (3, 1, 1), (3, 2, 1), (9, 3, 1)], 4, 40, [.int .i64 0, .int .i64 0, .int .i64 0, .string ⟨#[]⟩]⟩
 | 83 => some ⟨.sl 9, 1, 24, [.slice none 0 0]⟩
 | 85 => some ⟨.st [(9, 0, 1), (3, 1, 1), (3, 2, 1), (3, 3, 1), (3, 4, 1)], 5, 48, [.string ⟨#[]⟩, .int .i64 0, .int .i64 0, .int .i64 0, .int .i64 0]⟩
 | 88 => some ⟨.mp 3 58, 1, 8, [.map none]⟩
 | 89 => some ⟨.mp 3 9, 1, 8, [.map none]⟩
 | 90 => some ⟨.mp 3 3, 1, 8, [.map none]⟩
 | 92 => some ⟨.st [(88, 0, 1), (89, 1, 1), (90, 2, 1)], 3, 24, [.map none, .map none, .map none]⟩
 | 95 => some ⟨.st [(92, 0, 3), (29, 3, 1), (22, 4, 1), (35, 5, 1), (38, 6, 3)], 9, 112, [.map none, .map none, .map none, .slice none 0 0, .slice none 0 0, .slice none 0 0, .bool false, .bool false, .int .i64 0]⟩
 | 97 => some ⟨.arr 2 3, 2, 16, [.int .i64 0, .int .i64 0]⟩
 | 100 => some ⟨.mp 3 52, 1, 8, [.map none]⟩
 | 111 => some ⟨.st [(4, 0, 1), (3, 1, 1), (3, 2, 1), (3, 3, 1)], 4, 32, [.bool false, .int .i64 0, .int .i64 0, .int .i64 0]⟩
 | 112 => some ⟨.arr 22 111, 88, 704, [.bool false, .int .i64 0, .int .i64 0, .int .i64 0, .bool false, .int .i64 0, .int .i64 0, .int .i64 0, .bool false, .int .i64 0, .int .i64 0, .int .i64 0, .bool false, .int .i64 0, .int .i64 0, .int .i64 0, .bool false, .int .i64 0, .int .i64 0, .int .i64 0, .bool false, .int .i64 0, .int .i64 0, .int .i64 0, .bool false, .int .i64 0, .int .i64 0, .int .i64 0, .bool false, .int .i64 0, .int .i64 0, .int .i64 0, .bool false, .int .i64 0, .int .i64 0, .int .i64 0, .bool false, .int .i64 0, .int .i64 0, .int .i64 0, .bool false, .int .i64 0, .int .i64 0, .int .i64 0, .bool false, .int .i64 0, .int .i64 0, .int .i64 0, .bool false, .int .i64 0, .int .i64 0, .int .i64 0, .bool false, .int .i64 0, .int .i64 0, .int .i64 0, .bool false, .int .i64 0, .int .i64 0, .int .i64 0, .bool false, .int .i64 0, .int .i64 0, .int .i64 0, .bool false, .int .i64 0, .int .i64 0, .int .i64 0, .bool false, .int .i64 0, .int .i64 0, .int .i64 0, .bool false, .int .i64 0, .int .i64 0, .int .i64 0, .bool false, .int .i64 0, .int .i64 0, .int .i64 0, .bool false, .int .i64 0, .int .i64 0, .int .i64 0, .bool false, .int .i64 0, .int .i64 0, .int .i64 0]⟩
 | 122 => some ⟨.mp 3 4, 1, 8, [.map none]⟩
 | 126 => some ⟨.mp 9 4, 1, 8, [.map none]⟩
 | 127 => some ⟨.arr 4 3, 4, 32, [.int .i64 0, .int .i64 0, .int .i64 0, .int .i64 0]⟩
 | 130 => some ⟨.oth, 1, 8, [.nilFunc]⟩
 | 133 => some ⟨.arr 2 9, 2, 32, [.string ⟨#[]⟩, .string ⟨#[]⟩]⟩
 | 137 => some ⟨.mp 3 81, 1, 8, [.map none]⟩
 | 150 => some ⟨.sl 152, 1, 24, [.slice none 0 0]⟩
 | 152 => some ⟨.st [(3, 0, 1), (3, 1, 1), (9, 2, 1), (150, 3, 1)], 4, 56, [.int .i64 0, .int .i64 0, .string ⟨#[]⟩, .slice none 0 0]⟩
 | 159 => some ⟨.st [(9, 0, 1), (9, 1, 1), (9, 2, 1), (150, 3, 1)], 4, 72, [.string ⟨#[]⟩, .string ⟨#[]⟩, .string ⟨#[]⟩, .slice none 0 0]⟩
 | 160 => some ⟨.sl 5, 1, 24, [.slice none 0 0]⟩
 | 164 => some ⟨.oth, 1, 8, [.nilFunc]⟩
 | 165 => some ⟨.oth, 1, 8, [.nilFunc]⟩
 | 172 => some ⟨.st [(9, 0, 1), (152, 1, 4)], 5, 72, [.string ⟨#[]⟩, .int .i64 0, .int .i64 0, .string ⟨#[]⟩, .slice none 0 0]⟩
 | 175 => some ⟨.oth, 1, 8, [.pointer none]⟩
 | 177 => some ⟨.sl 21, 1, 24, [.slice none 0 0]⟩
 | 188 => some ⟨.sl 190, 1, 24, [.slice none 0 0]⟩
 | 190 => some ⟨.st [(3, 0, 1), (188, 1, 1)], 2, 32, [.int .i64 0, .slice none 0 0]⟩
 | 204 => some ⟨.arr 256 5, 256, 256, [.int .u8 0, .int .u8 0, .int .u8 0, .int .u8 0, .int .u8 0, .int .u8 0, .int .u8 0, .int .u8 0, .int .u8 0, .int .u8 0, .int .u8 0, .int .u8 0, .int .u8 0, .int .u8 0, .int .u8 0, .int .u8 0, .int .u8 0, .int .u8 0, .int .u8 0, .int .u8 0, .int .u8 0, .int .u8 0, .int .u8 0, .int .u8 0, .int .u8 0, .int .u8 0, .int .u8 0, .int .u8 0, .int .u8 0, .int .u8 0, .int .u8 0, .int .u8 0, .int .u8 0, .int .u8 0, .int .u8 0, .int .u8 0, .int .u8 0, .int .u8 0, .int .u8 0, .int .u8 0, .int .u8 0, .int .u8 0, .int .u8 0, .int .u8 0, .int .u8 0, .int .u8 0, .int .u8 0, .int .u8 0, .int .u8 0, .int .u8 0, .int .u8 0, .int .u8 0, .int .u8 0, .int .u8 0, .int .u8 0, .int .u8 0, .int .u8 0, .int .u8 0, .int .u8 0, .int .u8 0, .int .u8 0, .int .u8 0, .int .u8 0, .int .u8 0, .int .u8 0, .int .u8 0, .int .u8 0, .int .u8 0, .int .u8 0, .int .u8 0, .int .u8 0, .int .u8 0, .int .u8 0, .int .u8 0, .int .u8 0, .int .u8 0, .int .u8 0, .int .u8 0, .int .u8 0, .int .u8 0, .int .u8 0, .int .u8 0, .int .u8 0, .int .u8 0, .int .u8 0, .int .u8 0, .int .u8 0, .int .u8 0, .int .u8 0, .int .u8 0, .int .u8 0, .int .u8 0, .int .u8 0, .int .u8 0, .int .u8 0, .int .u8 0, .int .u8 0, .int .u8 0, .int .u8 0, .int .u8 0, .int .u8 0, .int .u8 0, .int .u8 0, .int .u8 0, .int .u8 0, .int .u8 0, .int .u8 0, .int .u8 0, .int .u8 0, .int .u8 0, .int .u8 0, .int .u8 0, .int .u8 0, .int .u8 0, .int .u8 0, .int .u8 0, .int .u8 0, .int .u8 0, .int .u8 0, .int .u8 0, .int .u8 0, .int .u8 0, .int .u8 0, .int .u8 0, .int .u8 0, .int .u8 0, .int .u8 0, .int .u8 0, .int .u8 0, .int .u8 0, .int .u8 0, .int .u8 0, .int .u8 0, .int .u8 0, .int .u8 0, .int .u8 0, .int .u8 0, .int .u8 0, .int .u8 0, .int .u8 0, .int .u8 0, .int .u8 0, .int .u8 0, .int .u8 0, .int .u8 0, .int .u8 0, .int .u8 0, .int .u8 0, .int .u8 0, .int .u8 0, .int .u8 0, .int .u8 0, .int .u8 0, .int .u8 0, .int .u8 0, .int .u8 0, .int .u8 0, .int .u8 0, .int .u8 0, .int .u8 0, .int .u8 0, .int .u8 0, .int .u8 0, .int .u8 0, .int .u8 0, .int .u8 0, .int .u8 0, .int .u8 0, .int .u8 0, .int .u8 0, .int .u8 0, .int .u8 0, .int .u8 0, .int .u8 0, .int .u8 0, .int .u8 0, .int .u8 0, .int .u8 0, .int .u8 0, .int .u8 0, .int .u8 0, .int .u8 0, .int .u8 0, .int .u8 0, .int .u8 0, .int .u8 0, .int .u8 0, .int .u8 0, .int .u8 0, .int .u8 0, .int .u8 0, .int .u8 0, .int .u8 0, .int .u8 0, .int .u8 0, .int .u8 0, .int .u8 0, .int .u8 0, .int .u8 0, .int .u8 0, .int .u8 0, .int .u8 0, .int .u8 0, .int .u8 0, .int .u8 0, .int .u8 0, .int .u8 0, .int .u8 0, .int .u8 0, .int .u8 0, .int .u8 0, .int .u8 0, .int .u8 0, .int .u8 0, .int .u8 0, .int .u8 0, .int .u8 0, .int .u8 0, .int .u8 0, .int .u8 0, .int .u8 0, .int .u8 0, .int .u8 0, .int .u8 0, .int .u8 0, .int .u8 0, .int .u8 0, .int .u8 0, .int .u8 0, .int .u8 0, .int .u8 0, .int .u8 0, .int .u8 0, .int .u8 0, .int .u8 0, .int .u8 0, .int .u8 0, .int .u8 0, .int .u8 0, .int .u8 0, .int .u8 0, .int .u8 0, .int .u8 0, .int .u8 0, .int .u8 0, .int .u8 0, .int .u8 0, .int .u8 0, .int .u8 0, .int .u8 0, .int .u8 0, .int .u8 0, .int .u8 0, .int .u8 0, .int .u8 0, .int .u8 0]⟩
 | 206 => some ⟨.st [(5, 0, 1), (5, 1, 1)], 2, 2, [.int .u8 0, .int .u8 0]⟩
 | 207 => some ⟨.arr 16 206, 32, 32, [.int .u8 0, .int .u8 0, .int .u8 0, .int .u8 0, .int .u8 0, .int .u8 0, .int .u8 0, .int .u8 0, .int .u8 0, .int .u8 0, .int .u8 0, .int .u8 0, .int .u8 0, .int .u8 0, .int .u8 0, .int .u8 0, .int .u8 0, .int .u8 0, .int .u8 0, .int .u8 0, .int .u8 0, .int .u8 0, .int .u8 0, .int .u8 0, .int .u8 0, .int .u8 0, .int .u8 0, .int .u8 0, .int .u8 0, .int .u8 0, .int .u8 0, .int .u8 0]⟩
 | 208 => some ⟨.int .u64, 1, 8, [.int .u64 0]⟩
 | _ => none
theorem ti3 : eH Tryz.prog 3 = cR 3 := by kernel_rfl
theorem ti4 : eH Tryz.prog 4 = cR 4 := by kernel_rfl
theorem ti5 : eH Tryz.prog 5 = cR 5 := by kernel_rfl
theorem ti9 : eH Tryz.prog 9 = cR 9 := by kernel_rfl
theorem ti12 : eH Tryz.prog 12 = cR 12 := by kernel_rfl
theorem ti21 : eH Tryz.prog 21 = cR 21 := by kernel_rfl
theorem ti22 : eH Tryz.prog 22 = cR 22 := by kernel_rfl
theorem ti23 : eH Tryz.prog 23 = cR 23 := by kernel_rfl
theorem ti25 : eH Tryz.prog 25 = cR 25 := by kernel_rfl
theorem ti27 : eH Tryz.prog 27 = cR 27 := by kernel_rfl
theorem ti29 : eH Tryz.prog 29 = cR 29 := by kernel_rfl
theorem ti31 : eH Tryz.prog 31 = cR 31 := by kernel_rfl
theorem ti33 : eH Tryz.prog 33 = cR 33 := by kernel_rfl
theorem ti35 : eH Tryz.prog 35 = cR 35 := by kernel_rfl
theorem ti38 : eH Tryz.prog 38 = cR 38 := by kernel_rfl
theorem ti40 : eH Tryz.prog 40 = cR 40 := by kernel_rfl
theorem ti43 : eH Tryz.prog 43 = cR 43 := by kernel_rfl
theorem ti44 : eH Tryz.prog 44 = cR 44 := by kernel_rfl
theorem ti45 : eH Tryz.prog 45 = cR 45 := by kernel_rfl
theorem ti52 : eH Tryz.prog 52 = cR 52 := by kernel_rfl
theorem ti54 : eH Tryz.prog 54 = cR 54 := by kernel_rfl
theorem ti55 : eH Tryz.prog 55 = cR 55 := by kernel_rfl
theorem ti56 : eH Tryz.prog 56 = cR 56 := by kernel_rfl
theorem ti58 : eH Tryz.prog 58 = cR 58 := by kernel_rfl
theorem ti61 : eH Tryz.prog 61 = cR 61 := by kernel_rfl
theorem ti63 : eH Tryz.prog 63 = cR 63 := by kernel_rfl
theorem ti67 : eH Tryz.prog 67 = cR 67 := by kernel_rfl
theorem ti68 : eH Tryz.prog 68 = cR 68 := by kernel_rfl
theorem ti70 : eH Tryz.prog 70 = cR 70 := by kernel_rfl
theorem ti78 : eH Tryz.prog 78 = cR 78 := by kernel_rfl
theorem ti81 : eH Tryz.prog 81 = cR 81 := by kernel_rfl
theorem ti83 : eH Tryz.prog 83 = cR 83 := by kernel_rfl
theorem ti85 : eH Tryz.prog 85 = cR 85 := by kernel_rfl
theorem ti88 : eH Tryz.prog 88 = cR 88 := by kernel_rfl
theorem ti89 : eH Tryz.prog 89 = cR 89 := by kernel_rfl
theorem ti90 : eH Tryz.prog 90 = cR 90 := by kernel_rfl
theorem ti92 : eH Tryz.prog 92 = cR 92 := by kernel_rfl
theorem ti95 : eH Tryz.prog 95 = cR 95 := by kernel_rfl
theorem ti97 : eH Tryz.prog 97 = cR 97 := by kernel_rfl
theorem ti100 : eH Tryz.prog 100 = cR 100 := by kernel_rfl
theorem ti111 : eH Tryz.prog 111 = cR 111 := by kernel_rfl
theorem ti112 : eH Tryz.prog 112 = cR 112 := by kernel_rfl
theorem ti122 : eH Tryz.prog 122 = cR 122 := by kernel_rfl
theorem ti126 : eH Tryz.prog 126 = cR 126 := by kernel_rfl
theorem ti127 : eH Tryz.prog 127 = cR 127 := by kernel_rfl
theorem ti130 : eH Tryz.prog 130 = cR 130 := by kernel_rfl
theorem ti133 : eH Tryz.prog 133 = cR 133 := by kernel_rfl
theorem ti137 : eH Tryz.prog 137 = cR 137 := by kernel_rfl
theorem ti150 : eH Tryz.prog 150 = cR 150 := by kernel_rfl
theorem ti152 : eH Tryz.prog 152 = cR 152 := by kernel_rfl
theorem ti159 : eH Tryz.prog 159 = cR 159 := by kernel_rfl
theorem ti160 : eH Tryz.prog 160 = cR 160 := by kernel_rfl
theorem ti164 : eH Tryz.prog 164 = cR 164 := by kernel_rfl
theorem ti165 : eH Tryz.prog 165 = cR 165 := by kernel_rfl
theorem ti172 : eH Tryz.prog 172 = cR 172 := by kernel_rfl
theorem ti175 : eH Tryz.prog 175 = cR 175 := by kernel_rfl
theorem ti177 : eH Tryz.prog 177 = cR 177 := by kernel_rfl
theorem ti188 : eH Tryz.prog 188 = cR 188 := by kernel_rfl
theorem ti190 : eH Tryz.prog 190 = cR 190 := by kernel_rfl
theorem ti204 : eH Tryz.prog 204 = cR 204 := by kernel_rfl
theorem ti206 : eH Tryz.prog 206 = cR 206 := by kernel_rfl
theorem ti207 : eH Tryz.prog 207 = cR 207 := by kernel_rfl
theorem ti208 : eH Tryz.prog 208 = cR 208 := by kernel_rfl
theorem Xh (T : TypeId) (i : TI) (h : cR T = some i) : i.ok Tryz.prog T := by
 unfold cR at h
 split at h
 ·exact bL (ti3.trans h)
 ·exact bL (ti4.trans h)
 ·exact bL (ti5.trans h)
 ·exact bL (ti9.trans h)
 ·exact bL (ti12.trans h)
 ·exact bL (ti21.trans h)
 ·exact bL (ti22.trans h)
 ·exact bL (ti23.trans h)
 ·exact bL (ti25.trans h)
 ·exact bL (ti27.trans h)
 ·exact bL (ti29.trans h)
 ·exact bL (ti31.trans h)
 ·exact bL (ti33.trans h)
 ·exact bL (ti35.trans h)
 ·exact bL (ti38.trans h)
 ·exact bL (ti40.trans h)
 ·exact bL (ti43.trans h)
 ·exact bL (ti44.trans h)
 ·exact bL (ti45.trans h)
 ·exact bL (ti52.trans h)
 ·exact bL (ti54.trans h)
 ·exact bL (ti55.trans h)
 ·exact bL (ti56.trans h)
 ·exact bL (ti58.trans h)
 ·exact bL (ti61.trans h)
 ·exact bL (ti63.trans h)
 ·exact bL (ti67.trans h)
 ·exact bL (ti68.trans h)
 ·exact bL (ti70.trans h)
 ·exact bL (ti78.trans h)
 ·exact bL (ti81.trans h)
 ·exact bL (ti83.trans h)
 ·exact bL (ti85.trans h)
 ·exact bL (ti88.trans h)
 ·exact bL (ti89.trans h)
 ·exact bL (ti90.trans h)
 ·exact bL (ti92.trans h)
 ·exact bL (ti95.trans h)
 ·exact bL (ti97.trans h)
 ·exact bL (ti100.trans h)
 ·exact bL (ti111.trans h)
 ·exact bL (ti112.trans h)
 ·exact bL (ti122.trans h)
 ·exact bL (ti126.trans h)
 ·exact bL (ti127.trans h)
 ·exact bL (ti130.trans h)
 ·exact bL (ti133.trans h)
 ·exact bL (ti137.trans h)
 ·exact bL (ti150.trans h)
 ·exact bL (ti152.trans h)
 ·exact bL (ti159.trans h)
 ·exact bL (ti160.trans h)
 ·exact bL (ti164.trans h)
 ·exact bL (ti165.trans h)
 ·exact bL (ti172.trans h)
 ·exact bL (ti175.trans h)
 ·exact bL (ti177.trans h)
 ·exact bL (ti188.trans h)
 ·exact bL (ti190.trans h)
 ·exact bL (ti204.trans h)
 ·exact bL (ti206.trans h)
 ·exact bL (ti207.trans h)
 ·exact bL (ti208.trans h)
 ·cases h
def aW : List bR := [⟨true, 0, 16777215, 0⟩, ⟨false, (-1), 16777215, (-1)⟩, ⟨true, 1, 1000, 16⟩, ⟨true, 0, 7, 0⟩, ⟨true, 0, 1, 0⟩, ⟨false, 0, 4, 1⟩, ⟨false, 0, 4, 3⟩, ⟨false, 0, 3, 0⟩, ⟨true, 0, 2, 0⟩, ⟨false, 0, 1048576, 0⟩, ⟨false, 0, 1000, 0⟩, ⟨false, 0, 1000, 1⟩, ⟨false, (-1), 1048576, (-1)⟩, ⟨false, 0, 1048576, 0⟩, ⟨false, 0, 1048576, 1048576⟩, ⟨false, 0, 1048576, 0⟩, ⟨false, 0, 1048576, 1048576⟩, ⟨false, 0, 1048576, 0⟩, ⟨false, 0, 1048576, 0⟩, ⟨false, 0, 1048576, 0⟩, ⟨false, 0, 1048576, 0⟩, ⟨true, 0, 1, 0⟩]
def gR : List Int := (Pinned.utf8FirstZ.map Int.ofNat)
def dA : List bX := [⟨128, 191⟩, ⟨160, 191⟩, ⟨128, 159⟩, ⟨144, 191⟩, ⟨128, 143⟩, ⟨0, 0⟩, ⟨0, 0⟩, ⟨0, 0⟩, ⟨0, 0⟩, ⟨0, 0⟩, ⟨0, 0⟩, ⟨0, 0⟩, ⟨0, 0⟩, ⟨0, 0⟩, ⟨0, 0⟩, ⟨0, 0⟩]
def Qn : Nat → Option (List CV)
 | 0 => some (List.flatten (List.map jA aW))
 | 1 => some (List.flatten (List.map Tj gR))
 | 2 => some (List.flatten (List.map jD dA))
 | _ => none
noncomputable def E : oU := ⟨Tryz.prog, cR, Xh, Qn, by kernel_rfl⟩
theorem fok9 : cD E 9 := ⟨Tryz.f9, Tryz.func9, by kernel_rfl, rfl⟩
theorem fok10 : cD E 10 := ⟨Tryz.f10, Tryz.func10, by kernel_rfl, rfl⟩
theorem fok11 : cD E 11 := ⟨Tryz.f11, Tryz.func11, by kernel_rfl, rfl⟩
theorem fok12 : cD E 12 := ⟨Tryz.f12, Tryz.func12, by kernel_rfl, rfl⟩
theorem fok13 : cD E 13 := ⟨Tryz.f13, Tryz.func13, by kernel_rfl, rfl⟩
theorem fok14 : cD E 14 := ⟨Tryz.f14, Tryz.func14, by kernel_rfl, rfl⟩
theorem cL : cD E 15 := ⟨Tryz.f15, Tryz.func15, by kernel_rfl, rfl⟩
theorem Rc : cD E 16 := ⟨Tryz.f16, Tryz.func16, by kernel_rfl, rfl⟩
theorem fok17 : cD E 17 := ⟨Tryz.f17, Tryz.func17, by kernel_rfl, rfl⟩
theorem fok20 : cD E 20 := ⟨Tryz.f20, Tryz.func20, by kernel_rfl, rfl⟩
theorem Xj : cD E 21 := ⟨Tryz.f21, Tryz.func21, by kernel_rfl, rfl⟩
theorem fok26 : cD E 26 := ⟨Tryz.f26, Tryz.func26, by kernel_rfl, rfl⟩
theorem fok27 : cD E 27 := ⟨Tryz.f27, Tryz.func27, by kernel_rfl, rfl⟩
theorem fok28 : cD E 28 := ⟨Tryz.f28, Tryz.func28, by kernel_rfl, rfl⟩
theorem Xa : cD E 32 := ⟨Tryz.f32, Tryz.func32, by kernel_rfl, rfl⟩
theorem fok33 : cD E 33 := ⟨Tryz.f33, Tryz.func33, by kernel_rfl, rfl⟩
theorem fok34 : cD E 34 := ⟨Tryz.f34, Tryz.func34, by kernel_rfl, rfl⟩
theorem fok35 : cD E 35 := ⟨Tryz.f35, Tryz.func35, by kernel_rfl, rfl⟩
theorem fok36 : cD E 36 := ⟨Tryz.f36, Tryz.func36, by kernel_rfl, rfl⟩
theorem fok37 : cD E 37 := ⟨Tryz.f37, Tryz.func37, by kernel_rfl, rfl⟩
theorem fok38 : cD E 38 := ⟨Tryz.f38, Tryz.func38, by kernel_rfl, rfl⟩
theorem aAl : cD E 39 := ⟨Tryz.f39, Tryz.func39, by kernel_rfl, rfl⟩
theorem fok40 : cD E 40 := ⟨Tryz.f40, Tryz.func40, by kernel_rfl, rfl⟩
theorem fok41 : cD E 41 := ⟨Tryz.f41, Tryz.func41, by kernel_rfl, rfl⟩
theorem fok42 : cD E 42 := ⟨Tryz.f42, Tryz.func42, by kernel_rfl, rfl⟩
theorem fok49 : cD E 49 := ⟨Tryz.f49, Tryz.func49, by kernel_rfl, rfl⟩
theorem Tu : cD E 50 := ⟨Tryz.f50, Tryz.func50, by kernel_rfl, rfl⟩
theorem fok51 : cD E 51 := ⟨Tryz.f51, Tryz.func51, by kernel_rfl, rfl⟩
theorem aAm : cD E 57 := ⟨Tryz.f57, Tryz.func57, by kernel_rfl, rfl⟩
theorem fok58 : cD E 58 := ⟨Tryz.f58, Tryz.func58, by kernel_rfl, rfl⟩
theorem fok59 : cD E 59 := ⟨Tryz.f59, Tryz.func59, by kernel_rfl, rfl⟩
theorem fok60 : cD E 60 := ⟨Tryz.f60, Tryz.func60, by kernel_rfl, rfl⟩
theorem fok65 : cD E 65 := ⟨Tryz.f65, Tryz.func65, by kernel_rfl, rfl⟩
theorem Di : cD E 66 := ⟨Tryz.f66, Tryz.func66, by kernel_rfl, rfl⟩
theorem fok67 : cD E 67 := ⟨Tryz.f67, Tryz.func67, by kernel_rfl, rfl⟩
theorem fok68 : cD E 68 := ⟨Tryz.f68, Tryz.func68, by kernel_rfl, rfl⟩
theorem fok69 : cD E 69 := ⟨Tryz.f69, Tryz.func69, by kernel_rfl, rfl⟩
theorem fok70 : cD E 70 := ⟨Tryz.f70, Tryz.func70, by kernel_rfl, rfl⟩
theorem fok71 : cD E 71 := ⟨Tryz.f71, Tryz.func71, by kernel_rfl, rfl⟩
theorem fok72 : cD E 72 := ⟨Tryz.f72, Tryz.func72, by kernel_rfl, rfl⟩
theorem fok73 : cD E 73 := ⟨Tryz.f73, Tryz.func73, by kernel_rfl, rfl⟩
theorem Xb : cD E 74 := ⟨Tryz.f74, Tryz.func74, by kernel_rfl, rfl⟩
theorem fok75 : cD E 75 := ⟨Tryz.f75, Tryz.func75, by kernel_rfl, rfl⟩
theorem fok76 : cD E 76 := ⟨Tryz.f76, Tryz.func76, by kernel_rfl, rfl⟩
theorem fok77 : cD E 77 := ⟨Tryz.f77, Tryz.func77, by kernel_rfl, rfl⟩
theorem fok86 : cD E 86 := ⟨Tryz.f86, Tryz.func86, by kernel_rfl, rfl⟩
theorem fok91 : cD E 91 := ⟨Tryz.f91, Tryz.func91, by kernel_rfl, rfl⟩
theorem fok93 : cD E 93 := ⟨Tryz.f93, Tryz.func93, by kernel_rfl, rfl⟩
theorem aAi : cD E 94 := ⟨Tryz.f94, Tryz.func94, by kernel_rfl, rfl⟩
theorem fok95 : cD E 95 := ⟨Tryz.f95, Tryz.func95, by kernel_rfl, rfl⟩
theorem fok96 : cD E 96 := ⟨Tryz.f96, Tryz.func96, by kernel_rfl, rfl⟩
theorem aAj : cD E 97 := ⟨Tryz.f97, Tryz.func97, by kernel_rfl, rfl⟩
theorem fok98 : cD E 98 := ⟨Tryz.f98, Tryz.func98, by kernel_rfl, rfl⟩
theorem fok101 : cD E 101 := ⟨Tryz.f101, Tryz.func101, by kernel_rfl, rfl⟩
theorem Up : cD E 102 := ⟨Tryz.f102, Tryz.func102, by kernel_rfl, rfl⟩
theorem Tt : cD E 104 := ⟨Tryz.f104, Tryz.func104, by kernel_rfl, rfl⟩
theorem fok105 : cD E 105 := ⟨Tryz.f105, Tryz.func105, by kernel_rfl, rfl⟩
theorem fok106 : cD E 106 := ⟨Tryz.f106, Tryz.func106, by kernel_rfl, rfl⟩
theorem fok107 : cD E 107 := ⟨Tryz.f107, Tryz.func107, by kernel_rfl, rfl⟩
theorem Nt : cD E 108 := ⟨Tryz.f108, Tryz.func108, by kernel_rfl, rfl⟩
theorem Xq : cD E 114 := ⟨Tryz.f114, Tryz.func114, by kernel_rfl, rfl⟩
theorem Xg : cD E 115 := ⟨Tryz.f115, Tryz.func115, by kernel_rfl, rfl⟩
theorem Dv : cD E 116 := ⟨Tryz.f116, Tryz.func116, by kernel_rfl, rfl⟩
theorem Jn : cD E 117 := ⟨Tryz.f117, Tryz.func117, by kernel_rfl, rfl⟩
theorem zR : cD E 118 := ⟨Tryz.f118, Tryz.func118, by kernel_rfl, rfl⟩
theorem fok119 : cD E 119 := ⟨Tryz.f119, Tryz.func119, by kernel_rfl, rfl⟩
theorem fok120 : cD E 120 := ⟨Tryz.f120, Tryz.func120, by kernel_rfl, rfl⟩
theorem Va : cD E 121 := ⟨Tryz.f121, Tryz.func121, by kernel_rfl, rfl⟩
theorem Xk : cD E 122 := ⟨Tryz.f122, Tryz.func122, by kernel_rfl, rfl⟩
theorem fok123 : cD E 123 := ⟨Tryz.f123, Tryz.func123, by kernel_rfl, rfl⟩
theorem Ww : cD E 124 := ⟨Tryz.f124, Tryz.func124, by kernel_rfl, rfl⟩
theorem fok126 : cD E 126 := ⟨Tryz.f126, Tryz.func126, by kernel_rfl, rfl⟩
theorem Um : cD E 127 := ⟨Tryz.f127, Tryz.func127, by kernel_rfl, rfl⟩
theorem fok129 : cD E 129 := ⟨Tryz.f129, Tryz.func129, by kernel_rfl, rfl⟩
theorem fok130 : cD E 130 := ⟨Tryz.f130, Tryz.func130, by kernel_rfl, rfl⟩
theorem fok131 : cD E 131 := ⟨Tryz.f131, Tryz.func131, by kernel_rfl, rfl⟩
theorem fok132 : cD E 132 := ⟨Tryz.f132, Tryz.func132, by kernel_rfl, rfl⟩
theorem Vq : cD E 133 := ⟨Tryz.f133, Tryz.func133, by kernel_rfl, rfl⟩
theorem fok134 : cD E 134 := ⟨Tryz.f134, Tryz.func134, by kernel_rfl, rfl⟩
theorem fok135 : cD E 135 := ⟨Tryz.f135, Tryz.func135, by kernel_rfl, rfl⟩
theorem fok137 : cD E 137 := ⟨Tryz.f137, Tryz.func137, by kernel_rfl, rfl⟩
theorem fok138 : cD E 138 := ⟨Tryz.f138, Tryz.func138, by kernel_rfl, rfl⟩
theorem Wf : cD E 139 := ⟨Tryz.f139, Tryz.func139, by kernel_rfl, rfl⟩
theorem fok140 : cD E 140 := ⟨Tryz.f140, Tryz.func140, by kernel_rfl, rfl⟩
theorem fok141 : cD E 141 := ⟨Tryz.f141, Tryz.func141, by kernel_rfl, rfl⟩
theorem fok142 : cD E 142 := ⟨Tryz.f142, Tryz.func142, by kernel_rfl, rfl⟩
theorem Xl : cD E 143 := ⟨Tryz.f143, Tryz.func143, by kernel_rfl, rfl⟩
theorem fok144 : cD E 144 := ⟨Tryz.f144, Tryz.func144, by kernel_rfl, rfl⟩
theorem fok145 : cD E 145 := ⟨Tryz.f145, Tryz.func145, by kernel_rfl, rfl⟩
theorem Uy : cD E 146 := ⟨Tryz.f146, Tryz.func146, by kernel_rfl, rfl⟩
theorem Ve : cD E 147 := ⟨Tryz.f147, Tryz.func147, by kernel_rfl, rfl⟩
theorem Ud : cD E 148 := ⟨Tryz.f148, Tryz.func148, by kernel_rfl, rfl⟩
theorem fok149 : cD E 149 := ⟨Tryz.f149, Tryz.func149, by kernel_rfl, rfl⟩
theorem fok150 : cD E 150 := ⟨Tryz.f150, Tryz.func150, by kernel_rfl, rfl⟩
theorem fok151 : cD E 151 := ⟨Tryz.f151, Tryz.func151, by kernel_rfl, rfl⟩
theorem fok152 : cD E 152 := ⟨Tryz.f152, Tryz.func152, by kernel_rfl, rfl⟩
theorem Ob : cD E 153 := ⟨Tryz.f153, Tryz.func153, by kernel_rfl, rfl⟩
theorem Wp : cD E 155 := ⟨Tryz.f155, Tryz.func155, by kernel_rfl, rfl⟩
end Go.Proofs.YtojkihhnioeggaaGreatDoor.S
