import Derived.Test.YtojkihhnioeggaaGreatDoorQGJ11
set_option linter.unusedVariables false
set_option linter.unusedSimpArgs false
set_option maxRecDepth 100000
set_option maxHeartbeats 4000000
namespace Go.Proofs.YtojkihhnioeggaaGreatDoor.S
open Go Go.Bm
def gK (p0 : (List aY)) (p1 : ByteArray) (j1 : Unit → Option (aF × Bool)) : Nat → Int → Option (aF × Bool)
 | 0, _ => none
 | n + 1, v4 => (if (decide (v4 < (List.length p0 : Int))) = true then (idx p0 v4).bind fun (e5 : aY) => (if (dA e5.Name p1) = true then (idx p0 v4).bind fun (e6 : aY) => some (e6.Value, true) else gK p0 p1 j1 n (IntKind.wrap .i64 (v4 + 1))) else j1 ())
def rW  (n : Nat) (p0 : (List aY)) (p1 : ByteArray) : Option (aF × Bool) := (aX (fun (_ : Unit) => some ((aF.mk 0 0 (⟨#[]⟩ : ByteArray) ([] : List aF)), false)) (fun (j1 : Unit → Option (aF × Bool)) => gK p0 p1 j1 n 0))
theorem Dy  (n : Nat) (p0 : (List aY)) (p1 : ByteArray) (r : (aF × Bool)) (h : rW n p0 p1 = some r) : cJ E 92 0 [.c (.lit (List.map aM p0)), .c (Sx p1)] [] (.tup [.agg [I r.1.Kind, I r.1.N, Sx r.1.S, .lit (List.map aN r.1.L)], .c (Bo r.2)]) [] := by
 refine fZ Tryz.func92 rfl ?_
 unfold rW at h
 refine za [0, 1, 4] ?_
 refine aT h (fun A j => ∀ u, j u = some r → A (mk [(4, .c (.ptr 0 0))] [(0, .blk 152 [I 0, I 0, Sx (⟨#[]⟩ : ByteArray), bX])] 1)) (fun u h => ?_) (fun j1 Aj1 hj1 h => ?_)
 refine za [4, 5] ?_
 cases h
 exact aH zr
 refine za [0, 1, 4, 6] ?_
 refine aG ?_
 refine aZ (fun n s => ∃ v4, gK p0 p1 j1 n v4 = some r ∧ s = mk [(0, .c (.lit (List.map aM p0))), (1, .c (Sx p1)), (4, .c (.ptr 0 0)), (6, .c (I v4))] [(0, .blk 152 [I 0, I 0, Sx (⟨#[]⟩ : ByteArray), bX])] 1) n _ (zv [(0, 0)] [0, 1, 4, 6] 1) ⟨_, h, rfl⟩ (fun s ⟨v4, h, _⟩ => nomatch h) ?_
 rintro n s ⟨v4, h, rfl⟩
 rw [gK] at h
 refine aI ?_
 refine zx fun _ => ?_
 refine zk 2 ?_
 refine zl aM p0 ?_
 refine zk 1 ?_
 refine ze [0, 1, 4, 6, 10] ?_
 refine zi h (fun h => ?_) fun h => ?_
 refine aC ?_
 refine aI ?_
 refine aG ?_
 refine zx fun _ => ?_
 refine zk 2 ?_
 obtain ⟨e5, he, h⟩ := aB h
 refine zd aM he ?_
 clear he
 refine zk 4 ?_
 refine ze [0, 1, 4, 6, 19] ?_
 refine zi h (fun h => ?_) fun h => ?_
 refine zx fun _ => ?_
 refine zk 2 ?_
 obtain ⟨e6, he, h⟩ := aB h
 refine zd aM he ?_
 clear he
 refine zk 4 ?_
 refine ze [4, 5] ?_
 cases h
 exact aH zr
 refine aC ?_
 refine aU ?_
 refine zb ?_
 exact dW (zv [(0, 0)] [0, 1, 4, 6] 1) (⟨_, h, rfl⟩)
 exact aJ (zv [(0, 0)] [4] 1) (bC (hj1 _ h))
def lM  (n : Nat) (p0 : (List aY)) (p1 : ByteArray) : Option Bool := (qK n p0 p1).bind fun (y1 : (aF × Bool)) => some ((y1.1.Kind == 2) && (y1.1.N == 1))
theorem xH  (n : Nat) (p0 : (List aY)) (p1 : ByteArray) (r : Bool) (h : lM n p0 p1 = some r) : cJ E 55 0 [.c (.lit (List.map aM p0)), .c (Sx p1)] [] (.c (Bo r)) [] := by
 refine fZ Tryz.func55 rfl ?_
 unfold lM at h
 refine za [0, 1] ?_
 refine zx fun _ => ?_
 refine zk 2 ?_
 obtain ⟨y1, he, h⟩ := aB h
 refine zc Vg (xA n _ _ y1 he) ?_
 clear he
 refine zk 6 ?_
 refine ze [5] ?_
 refine zx fun _ => ?_
 refine zk 4 ?_
 refine zE (.c (.ptr 7 1)) ?_
 refine zE (.c (I y1.1.N)) ?_
 refine zE (.c (Bo (y1.1.N == 1))) ?_
 refine zP (.bool ((y1.1.Kind == 2) && (y1.1.N == 1))) ?_
 refine zk 1 ?_
 refine jY [4] (L2 := [(4, .c (Bo ((y1.1.Kind == 2) && (y1.1.N == 1))))]) (G2 := [(7, .blk 152 [I y1.1.Kind, I y1.1.N, Sx y1.1.S, .lit (List.map aN y1.1.L)])]) 19 ?_
 cases h
 exact aH zr
def eI (p0 : bD) (j2 : List aP → Option (List aP)) : Nat → List aP → Int → Option (List aP)
 | 0, _, _ => none
 | n + 1, v13, v14 => (if (decide (v14 < (List.length p0.Nodes : Int))) = true then (aX (fun (v24 : List aP) => eI p0 j2 n v24 (IntKind.wrap .i64 (v14 + 1))) (fun (j15 : List aP → Option (List aP)) => (idx p0.Nodes v14).bind fun (e16 : aR) => (aX (fun (v19 : Int) => (aX (fun (v22 : Int) => (if (v22 != 0) = true then (oK 16 v13 [(aP.mk e16.ID v22)]).bind fun (l23 : List aP) => j15 l23 else j15 v13)) (fun (j20 : Int → Option (List aP)) => (lM n e16.Attrs (⟨#[99, 104, 101, 99, 107, 101, 100]⟩ : ByteArray)).bind fun (y21 : Bool) => (if y21 = true then j20 (IntKind.wrap .i64 (v19 + 16)) else j20 v19)))) (fun (j17 : Int → Option (List aP)) => (lM n e16.Attrs (⟨#[100, 105, 115, 97, 98, 108, 101, 100]⟩ : ByteArray)).bind fun (y18 : Bool) => (if y18 = true then j17 (IntKind.wrap .i64 (0 + 8)) else j17 0))))) else j2 v13)
def gF  (n : Nat) (p0 : bD) : Option (List aP) := (lL n p0).bind fun (y1 : Int) => (if (y1 != 0) = true then some ([] : List aP) else (aX (fun (v27 : List aP) => some v27) (fun (j2 : List aP → Option (List aP)) => eI p0 j2 n ([] : List aP) 0)))
theorem oZ  (n : Nat) (p0 : bD) (r : (List aP)) (h : gF n p0 = some r) : cJ E 24 0 [.agg [I p0.Root, I p0.Next, .lit (List.map aE p0.Nodes)]] [] (.c (.lit (List.map bA r))) [] := by
 refine fZ Tryz.func24 rfl ?_
 unfold gF at h
 refine za [1] ?_
 refine aI ?_
 refine zx fun _ => ?_
 refine zk 1 ?_
 obtain ⟨y1, he, h⟩ := aB h
 refine zc Sq (qB n _ y1 he) ?_
 clear he
 refine zk 1 ?_
 refine ze [1, 9] ?_
 refine zi h (fun h => ?_) fun h => ?_
 refine za [2] ?_
 cases h
 exact aH zr
 refine aC ?_
 refine za [1, 3] ?_
 refine aT h (fun A j => ∀ v27, j v27 = some r → A (mk [(3, .c (.app 0 (List.map bA v27)))] [(0, .tok 67 2 (List.length v27))] 1)) (fun v27 h => ?_) (fun j2 Aj2 hj2 h => ?_)
 refine za [2] ?_
 cases h
 exact aH zr
 refine zx fun _ => ?_
 refine zk 2 ?_
 refine zl aE p0.Nodes ?_
 refine zk 1 ?_
 refine ze [3, 11, 12, 13] ?_
 refine aG ?_
 refine aZ (fun n s => ∃ v13 v14, eI p0 j2 n v13 v14 = some r ∧ s = mk [(3, .c (.app 0 (List.map bA v13))), (11, .c (.lit (List.map aE p0.Nodes))), (12, .c (I (List.length p0.Nodes : Int))), (13, .c (I v14))] [(0, .tok 67 2 (List.length v13))] 1) n _ (dX.trans (kO (L2 := [(3, .c (.app 10 (List.map bA ([] : List aP)))), (11, .c (.lit (List.map aE p0.Nodes))), (12, .c (I (List.length p0.Nodes : Int))), (13, .c (I 0))]) (G2 := [(0, .blk 27 [I p0.Root, I p0.Next, .lit (List.map aE p0.Nodes)]), (10, .tok 67 2 (List.length ([] : List aP)))]) (lim2 := 11) 3 67 2 (by kernel_rfl) (by kernel_rfl) (by kernel_rfl) (by kernel_rfl)) (zv [(10, 0)] [3, 11, 12, 13] 1)) ⟨_, _, h, rfl⟩ (fun s ⟨v13, v14, h, _⟩ => nomatch h) ?_
 rintro n s ⟨v13, v14, h, rfl⟩
 rw [eI] at h
 refine za [3, 11, 12, 13, 14] ?_
 refine aI ?_
 refine zi h (fun h => ?_) fun h => ?_
 refine aC ?_
 refine aT h (fun A j => ∀ v24, j v24 = some r → A (mk [(3, .c (.app 0 (List.map bA v24))), (11, .c (.lit (List.map aE p0.Nodes))), (12, .c (I (List.length p0.Nodes : Int))), (13, .c (I v14))] [(0, .tok 67 2 (List.length v24))] 1)) (fun v24 h => ?_) (fun j15 Aj15 hj15 h => ?_)
 refine aU ?_
 refine zb ?_
 exact dW (zv [(0, 0)] [3, 11, 12, 13] 1) (⟨_, _, h, rfl⟩)
 refine aG ?_
 refine zx fun _ => ?_
 obtain ⟨e16, he, h⟩ := aB h
 refine zd aE he ?_
 clear he
 refine zk 3 ?_
 refine ze [3, 5, 11, 12, 13] ?_
 refine za [3, 5, 6, 11, 12, 13] ?_
 refine aT h (fun A j => ∀ v19, j v19 = some r → A (mk [(3, .c (.app 0 (List.map bA v13))), (11, .c (.lit (List.map aE p0.Nodes))), (12, .c (I (List.length p0.Nodes : Int))), (13, .c (I v14)), (5, .c (.ptr 1 0)), (6, .c (I v19))] [(0, .tok 67 2 (List.length v13)), (1, .blk 58 [I e16.ID, I e16.Parent, I e16.Kind, Sx e16.Key, .lit (List.map aM e16.Attrs), .lit (List.map aD e16.Actions), .lit (List.map aL e16.Kids)])] 2)) (fun v19 h => ?_) (fun j17 Aj17 hj17 h => ?_)
 refine aT h (fun A j => ∀ v22, j v22 = some r → A (mk [(3, .c (.app 0 (List.map bA v13))), (11, .c (.lit (List.map aE p0.Nodes))), (12, .c (I (List.length p0.Nodes : Int))), (13, .c (I v14)), (5, .c (.ptr 1 0)), (6, .c (I v22))] [(0, .tok 67 2 (List.length v13)), (1, .blk 58 [I e16.ID, I e16.Parent, I e16.Kind, Sx e16.Key, .lit (List.map aM e16.Attrs), .lit (List.map aD e16.Actions), .lit (List.map aL e16.Kids)])] 2)) (fun v22 h => ?_) (fun j20 Aj20 hj20 h => ?_)
 refine za [3, 5, 6, 11, 12, 13, 28] ?_
 refine zi h (fun h => ?_) fun h => ?_
 refine aU ?_
 refine zy fun _ => ?_
 refine zk 6 ?_
 obtain ⟨l23, he, h⟩ := aB h
 refine bU (enc := bA) (l := v13) (els := [(aP.mk e16.ID v22)]) (r := l23) (old := some 0) (e := 67) (sz := 2) (bytes := 16) (k := (List.length v13)) (nm := 10) he (by kernel_rfl) (by kernel_rfl) (fun x => by kernel_rfl) (by kernel_rfl) (by kernel_rfl) rfl rfl rfl ?_
 clear he
 refine zk 1 ?_
 refine bL ?_
 exact dW (zv [(10, 0)] [3, 11, 12, 13] 1) (hj15 _ h)
 exact aJ (zv [(0, 0)] [3, 11, 12, 13] 1) (aC (hj15 _ h))
 refine zx fun _ => ?_
 refine zk 2 ?_
 obtain ⟨y21, he, h⟩ := aB h
 refine zc Vm (xH n _ _ y21 he) ?_
 clear he
 refine ze [3, 5, 6, 11, 12, 13, 24] ?_
 refine zi h (fun h => ?_) fun h => ?_
 refine aU ?_
 refine zb ?_
 exact dW (zv [(0, 0), (1, 1)] [3, 11, 12, 13, 5, 6] 2) (hj20 _ h)
 exact aJ (zv [(0, 0), (1, 1)] [3, 11, 12, 13, 5, 6] 2) (aC (hj20 _ h))
 refine zx fun _ => ?_
 refine zk 2 ?_
 obtain ⟨y18, he, h⟩ := aB h
 refine zc Vm (xH n _ _ y18 he) ?_
 clear he
 refine ze [3, 5, 6, 11, 12, 13, 19] ?_
 refine zi h (fun h => ?_) fun h => ?_
 refine aU ?_
 refine zb ?_
 exact dW (zv [(0, 0), (4, 1)] [3, 11, 12, 13, 5, 6] 2) (hj17 _ h)
 exact aJ (zv [(0, 0), (4, 1)] [3, 11, 12, 13, 5, 6] 2) (aC (hj17 _ h))
 exact aJ (zv [(0, 0)] [3] 1) (bC (hj2 _ h))
def lK  (n : Nat) (p0 : (List aY)) (p1 : ByteArray) : Option Bool := (rW n p0 p1).bind fun (y1 : (aF × Bool)) => some ((y1.1.Kind == 2) && (y1.1.N == 1))
theorem vC  (n : Nat) (p0 : (List aY)) (p1 : ByteArray) (r : Bool) (h : lK n p0 p1 = some r) : cJ E 56 0 [.c (.lit (List.map aM p0)), .c (Sx p1)] [] (.c (Bo r)) [] := by
 refine fZ Tryz.func56 rfl ?_
 unfold lK at h
 refine za [0, 1] ?_
 refine zx fun _ => ?_
 refine zk 2 ?_
 obtain ⟨y1, he, h⟩ := aB h
 refine zc fok92 (Dy n _ _ y1 he) ?_
 clear he
 refine zk 6 ?_
 refine ze [5] ?_
 refine zx fun _ => ?_
 refine zk 4 ?_
 refine zE (.c (.ptr 7 1)) ?_
 refine zE (.c (I y1.1.N)) ?_
 refine zE (.c (Bo (y1.1.N == 1))) ?_
 refine zP (.bool ((y1.1.Kind == 2) && (y1.1.N == 1))) ?_
 refine zk 1 ?_
 refine jY [4] (L2 := [(4, .c (Bo ((y1.1.Kind == 2) && (y1.1.N == 1))))]) (G2 := [(7, .blk 152 [I y1.1.Kind, I y1.1.N, Sx y1.1.S, .lit (List.map aN y1.1.L)])]) 19 ?_
 cases h
 exact aH zr
def eE (p0 : bD) (j2 : List aP → Option (List aP)) : Nat → List aP → Int → Option (List aP)
 | 0, _, _ => none
 | n + 1, v15, v16 => (if (decide (v16 < (List.length p0.Nodes : Int))) = true then (aX (fun (v28 : List aP) => eE p0 j2 n v28 (IntKind.wrap .i64 (v16 + 1))) (fun (j17 : List aP → Option (List aP)) => (aX (fun (v21 : Int) => (aX (fun (v25 : Int) => (if (v25 != 0) = true then (idx p0.Nodes v16).bind fun (e26 : aR) => (oK 16 v15 [(aP.mk e26.ID v25)]).bind fun (l27 : List aP) => j17 l27 else j17 v15)) (fun (j22 : Int → Option (List aP)) => (idx p0.Nodes v16).bind fun (e23 : aR) => (lK n e23.Attrs (⟨#[99, 104, 101, 99, 107, 101, 100]⟩ : ByteArray)).bind fun (y24 : Bool) => (if y24 = true then j22 (IntKind.wrap .i64 (v21 + 16)) else j22 v21)))) (fun (j18 : Int → Option (List aP)) => (idx p0.Nodes v16).bind fun (e19 : aR) => (lK n e19.Attrs (⟨#[100, 105, 115, 97, 98, 108, 101, 100]⟩ : ByteArray)).bind fun (y20 : Bool) => (if y20 = true then j18 (IntKind.wrap .i64 (0 + 8)) else j18 0))))) else j2 v15)
def jI  (n : Nat) (p0 : bD) : Option (List aP) := (nI n p0).bind fun (y1 : Int) => (if (y1 != 0) = true then some ([] : List aP) else (aX (fun (v31 : List aP) => some v31) (fun (j2 : List aP → Option (List aP)) => eE p0 j2 n ([] : List aP) 0)))
theorem vZ  (n : Nat) (p0 : bD) (r : (List aP)) (h : jI n p0 = some r) : cJ E 25 0 [.agg [I p0.Root, I p0.Next, .lit (List.map aE p0.Nodes)]] [] (.c (.lit (List.map bA r))) [] := by
 refine fZ Tryz.func25 rfl ?_
 unfold jI at h
 refine za [1] ?_
 refine aI ?_
 refine zx fun _ => ?_
 refine zk 1 ?_
 obtain ⟨y1, he, h⟩ := aB h
 refine zc Yp (Bp n _ y1 he) ?_
 clear he
 refine zk 1 ?_
 refine ze [1, 8] ?_
 refine zi h (fun h => ?_) fun h => ?_
 refine za [2] ?_
 cases h
 exact aH zr
 refine aC ?_
 refine za [1, 3] ?_
 refine aT h (fun A j => ∀ v31, j v31 = some r → A (mk [(3, .c (.app 0 (List.map bA v31)))] [(0, .tok 67 2 (List.length v31))] 1)) (fun v31 h => ?_) (fun j2 Aj2 hj2 h => ?_)
 refine za [2] ?_
 cases h
 exact aH zr
 refine za [1, 3, 4] ?_
 refine aG ?_
 refine aZ (fun n s => ∃ v15 v16, eE p0 j2 n v15 v16 = some r ∧ s = mk [(1, .c (.ptr 0 0)), (3, .c (.app 1 (List.map bA v15))), (4, .c (I v16))] [(0, .blk 27 [I p0.Root, I p0.Next, .lit (List.map aE p0.Nodes)]), (1, .tok 67 2 (List.length v15))] 2) n _ (dX.trans (kO (L2 := [(1, .c (.ptr 0 0)), (3, .c (.app 7 (List.map bA ([] : List aP)))), (4, .c (I 0))]) (G2 := [(0, .blk 27 [I p0.Root, I p0.Next, .lit (List.map aE p0.Nodes)]), (7, .tok 67 2 (List.length ([] : List aP)))]) (lim2 := 8) 3 67 2 (by kernel_rfl) (by kernel_rfl) (by kernel_rfl) (by kernel_rfl)) (zv [(0, 0), (7, 1)] [1, 3, 4] 2)) ⟨_, _, h, rfl⟩ (fun s ⟨v15, v16, h, _⟩ => nomatch h) ?_
 rintro n s ⟨v15, v16, h, rfl⟩
 rw [eE] at h
 refine aI ?_
 refine zx fun _ => ?_
 refine zk 3 ?_
 refine zl aE p0.Nodes ?_
 refine zk 1 ?_
 refine ze [1, 3, 4, 13] ?_
 refine zi h (fun h => ?_) fun h => ?_
 refine aC ?_
 refine aT h (fun A j => ∀ v28, j v28 = some r → A (mk [(1, .c (.ptr 0 0)), (3, .c (.app 1 (List.map bA v28))), (4, .c (I v16))] [(0, .blk 27 [I p0.Root, I p0.Next, .lit (List.map aE p0.Nodes)]), (1, .tok 67 2 (List.length v28))] 2)) (fun v28 h => ?_) (fun j17 Aj17 hj17 h => ?_)
 refine aU ?_
 refine zb ?_
 exact dW (zv [(0, 0), (1, 1)] [1, 3, 4] 2) (⟨_, _, h, rfl⟩)
 refine aG ?_
 refine za [1, 3, 4, 5] ?_
 refine aT h (fun A j => ∀ v21, j v21 = some r → A (mk [(1, .c (.ptr 0 0)), (3, .c (.app 1 (List.map bA v15))), (4, .c (I v16)), (5, .c (I v21))] [(0, .blk 27 [I p0.Root, I p0.Next, .lit (List.map aE p0.Nodes)]), (1, .tok 67 2 (List.length v15))] 2)) (fun v21 h => ?_) (fun j18 Aj18 hj18 h => ?_)
 refine aT h (fun A j => ∀ v25, j v25 = some r → A (mk [(1, .c (.ptr 0 0)), (3, .c (.app 1 (List.map bA v15))), (4, .c (I v16)), (5, .c (I v25))] [(0, .blk 27 [I p0.Root, I p0.Next, .lit (List.map aE p0.Nodes)]), (1, .tok 67 2 (List.length v15))] 2)) (fun v25 h => ?_) (fun j22 Aj22 hj22 h => ?_)
 refine za [1, 3, 4, 5, 35] ?_
 refine zi h (fun h => ?_) fun h => ?_
 refine aU ?_
 refine zy fun _ => ?_
 refine zk 4 ?_
 obtain ⟨e26, he, h⟩ := aB h
 refine zd aE he ?_
 clear he
 refine zk 5 ?_
 obtain ⟨l27, he, h⟩ := aB h
 refine bU (enc := bA) (l := v15) (els := [(aP.mk e26.ID v25)]) (r := l27) (old := some 1) (e := 67) (sz := 2) (bytes := 16) (k := (List.length v15)) (nm := 14) he (by kernel_rfl) (by kernel_rfl) (fun x => by kernel_rfl) (by kernel_rfl) (by kernel_rfl) rfl rfl rfl ?_
 clear he
 refine zk 1 ?_
 refine bL ?_
 exact dW (zv [(0, 0), (14, 1)] [1, 3, 4] 2) (hj17 _ h)
 exact aJ (zv [(0, 0), (1, 1)] [1, 3, 4] 2) (aC (hj17 _ h))
 refine zx fun _ => ?_
 refine zk 3 ?_
 obtain ⟨e23, he, h⟩ := aB h
 refine zd aE he ?_
 clear he
 refine zk 2 ?_
 obtain ⟨y24, he, h⟩ := aB h
 refine zc Vk (vC n _ _ y24 he) ?_
 clear he
 refine ze [1, 3, 4, 5, 31] ?_
 refine zi h (fun h => ?_) fun h => ?_
 refine aU ?_
 refine zb ?_
 exact dW (zv [(0, 0), (1, 1)] [1, 3, 4, 5] 2) (hj22 _ h)
 exact aJ (zv [(0, 0), (1, 1)] [1, 3, 4, 5] 2) (aC (hj22 _ h))
 refine zx fun _ => ?_
 refine zk 3 ?_
 obtain ⟨e19, he, h⟩ := aB h
 refine zd aE he ?_
 clear he
 refine zk 2 ?_
 obtain ⟨y20, he, h⟩ := aB h
 refine zc Vk (vC n _ _ y20 he) ?_
 clear he
 refine ze [1, 3, 4, 5, 22] ?_
 refine zi h (fun h => ?_) fun h => ?_
 refine aU ?_
 refine zb ?_
 exact dW (zv [(0, 0), (1, 1)] [1, 3, 4, 5] 2) (hj18 _ h)
 exact aJ (zv [(0, 0), (1, 1)] [1, 3, 4, 5] 2) (aC (hj18 _ h))
 exact aJ (zv [(1, 0)] [3] 1) (bC (hj2 _ h))
def dE (y3 : (List aP)) (y4 : (List aP)) (j7 : Unit → Option Bool) : Nat → Int → Option Bool
 | 0, _ => none
 | n + 1, v10 => (if (decide (v10 < (List.length y3 : Int))) = true then (idx y3 v10).bind fun (e11 : aP) => (idx y4 v10).bind fun (e12 : aP) => (if (!(([e11.ID, e11.States] : List Int) == [e12.ID, e12.States])) = true then some false else dE y3 y4 j7 n (IntKind.wrap .i64 (v10 + 1))) else j7 ())
def gA  (n : Nat) (p0 : (List Int)) : Option Bool := (tE n p0).bind fun (y1 : aS) => (uB n y1 3).bind fun (y2 : (bD × aS)) => (gF n y2.1).bind fun (y3 : (List aP)) => (jI n y2.1).bind fun (y4 : (List aP)) => (gd [(!((List.length y3 : Int) != (List.length y4 : Int)))] (gF n (bD.mk 0 0 ([] : List aR)))).bind fun (y5 : (List aP)) => (gd [(!(((List.length y3 : Int) != (List.length y4 : Int)) || ((List.length y5 : Int) != 0)))] (lL n y2.1)).bind fun (y6 : Int) => (if ((((List.length y3 : Int) != (List.length y4 : Int)) || ((List.length y5 : Int) != 0)) || (y6 != 0)) = true then some false else (aX (fun (_ : Unit) => (nH n).bind fun (y14 : Bool) => some y14) (fun (j7 : Unit → Option Bool) => dE y3 y4 j7 n 0)))
theorem tU  (n : Nat) (p0 : (List Int)) (r : Bool) (h : gA n p0 = some r) : cJ E 6 0 [.c (.lit (List.map aL p0))] [] (.c (Bo r)) [] := by
 refine fZ Tryz.func6 rfl ?_
 unfold gA at h
 refine za [0] ?_
 refine zx fun _ => ?_
 refine zk 1 ?_
 obtain ⟨y1, he, h⟩ := aB h
 refine tC (F := 9) (As := [.c (.lit (List.map aL p0))]) (Bs := [.c (.lit (List.map aL p0))]) (σ := [(0, 2)]) (k := 0) (kn := 0) (nm := 2) (Gc := []) (Gf := [(0, .blk 78 [.lit (List.map aL y1.L), I y1.At])]) (r := .c (.ptr 0 0)) (v := .c (.ptr 2 0)) (by kernel_rfl) fok9 ⟨.inl (by kernel_rfl), trivial⟩ (Je n _ y1 he) (by kernel_rfl) (by kernel_rfl) (by kernel_rfl) (by kernel_rfl) (by kernel_rfl) (by kernel_rfl) rfl rfl rfl ?_
 clear he
 obtain ⟨y2, he, h⟩ := aB h
 refine zo [(0, 2)] Yt (Ic n _ _ y2 he) ?_
 clear he
 refine zk 2 ?_
 refine ze [3] ?_
 refine xN [[], [0], [], [2, 1, 0], [1, 3, 0, 2], [3, 4, 0, 1, 2]] fun _ => ?_
 refine zk 1 ?_
 obtain ⟨y3, he, h⟩ := aB h
 refine zc Vy (oZ n _ y3 he) ?_
 clear he
 refine zk 1 ?_
 obtain ⟨y4, he, h⟩ := aB h
 refine zc Ys (vZ n _ y4 he) ?_
 clear he
 refine zk 2 ?_
 refine jY [3, 4, 5] (L2 := [(3, .c (.ptr 4 0)), (4, .c (.lit (List.map bA y3))), (5, .c (.lit (List.map bA y4)))]) (G2 := [(2, .blk 78 [.lit (List.map aL y2.2.L), I y2.2.At]), (4, .blk 27 [I y2.1.Root, I y2.1.Next, .lit (List.map aE y2.1.Nodes)])]) 12 ?_
 refine aI ?_
 refine zx fun _ => ?_
 refine zk 1 ?_
 refine zl bA y3 ?_
 refine zk 1 ?_
 refine zl bA y4 ?_
 refine zk 2 ?_
 refine zE (.agg [I 0, I 0, bX]) ?_
 obtain ⟨y5, he, h⟩ := aB h
 refine Ks [(!((List.length y3 : Int) != (List.length y4 : Int)))] Vy (fun hg => oZ n _ y5 (bT he hg)) ?_
 clear he
 refine jA (e := [(!((List.length y3 : Int) != (List.length y4 : Int)))]) [(21, .c (.lit (List.map bA y5)), some 1)] (v := .c (I (List.length y5 : Int))) (foot := []) (by kernel_rfl) (by kernel_rfl) (by kernel_rfl) (fun hg => jN (enc := bA) (l := y5) (by kernel_rfl)) rfl rfl ?_
 refine zE (.c (Bo ((List.length y5 : Int) != 0))) ?_
 refine zP (.bool (((List.length y3 : Int) != (List.length y4 : Int)) || ((List.length y5 : Int) != 0))) ?_
 refine zk 1 ?_
 refine zE (.agg [I y2.1.Root, I y2.1.Next, .lit (List.map aE y2.1.Nodes)]) ?_
 obtain ⟨y6, he, h⟩ := aB h
 refine Ks [(!(((List.length y3 : Int) != (List.length y4 : Int)) || ((List.length y5 : Int) != 0)))] Sq (fun hg => qB n _ y6 (bT he hg)) ?_
 clear he
 refine zE (.c (Bo (y6 != 0))) ?_
 refine zP (.bool ((((List.length y3 : Int) != (List.length y4 : Int)) || ((List.length y5 : Int) != 0)) || (y6 != 0))) ?_
 refine jY [4, 5, 29] (L2 := [(4, .c (.lit (List.map bA y3))), (5, .c (.lit (List.map bA y4))), (29, .c (Bo ((((List.length y3 : Int) != (List.length y4 : Int)) || ((List.length y5 : Int) != 0)) || (y6 != 0))))]) (G2 := [(2, .blk 78 [.lit (List.map aL y2.2.L), I y2.2.At]), (4, .blk 27 [I y2.1.Root, I y2.1.Next, .lit (List.map aE y2.1.Nodes)])]) 28 ?_
 refine zi h (fun h => ?_) fun h => ?_
 refine za [2] ?_
 cases h
 exact aH zr
 refine aC ?_
 refine aT h (fun A j => ∀ u, j u = some r → A (mk [] [] 0)) (fun u h => ?_) (fun j7 Aj7 hj7 h => ?_)
 refine zx fun _ => ?_
 obtain ⟨y14, he, h⟩ := aB h
 refine zc fok20 (Bf n  y14 he) ?_
 clear he
 refine zk 1 ?_
 refine ze [2] ?_
 cases h
 exact aH zr
 refine za [4, 5, 6] ?_
 refine aG ?_
 refine aZ (fun n s => ∃ v10, dE y3 y4 j7 n v10 = some r ∧ s = mk [(4, .c (.lit (List.map bA y3))), (5, .c (.lit (List.map bA y4))), (6, .c (I v10))] [] 0) n _ (zv [] [4, 5, 6] 0) ⟨_, h, rfl⟩ (fun s ⟨v10, h, _⟩ => nomatch h) ?_
 rintro n s ⟨v10, h, rfl⟩
 rw [dE] at h
 refine aI ?_
 refine zx fun _ => ?_
 refine zk 2 ?_
 refine zl bA y3 ?_
 refine zk 1 ?_
 refine ze [4, 5, 6, 33] ?_
 refine zi h (fun h => ?_) fun h => ?_
 refine aC ?_
 refine aI ?_
 refine aG ?_
 refine xN [[], [], [0, 1], [2, 0, 1], [], [], [4, 5], [6, 4, 5], [3, 7, 2, 0, 1, 6, 4, 5]] fun _ => ?_
 refine zk 2 ?_
 obtain ⟨e11, he, h⟩ := aB h
 refine zd bA he ?_
 clear he
 refine zk 3 ?_
 obtain ⟨e12, he, h⟩ := aB h
 refine zd bA he ?_
 clear he
 refine zk 1 ?_
 refine zw (v := .c (Bo (!(([e11.ID, e11.States] : List Int) == [e12.ID, e12.States])))) [] (Tm (w := false) (xs := [e11.ID, e11.States]) (ys := [e12.ID, e12.States]) (T := 67) (r := (!(([e11.ID, e11.States] : List Int) == [e12.ID, e12.States]))) (by kernel_rfl) rfl (by kernel_rfl) (by kernel_rfl) (by kernel_rfl) rfl rfl rfl) ?_
 refine ze [4, 5, 6, 44] ?_
 refine zi h (fun h => ?_) fun h => ?_
 refine za [2] ?_
 cases h
 exact aH zr
 refine aC ?_
 refine aU ?_
 refine zb ?_
 exact dW (zv [] [4, 5, 6] 0) (⟨_, h, rfl⟩)
 exact aJ (zv [] [] 0) (bC (hj7 _ h))
end Go.Proofs.YtojkihhnioeggaaGreatDoor.S
