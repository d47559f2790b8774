import Derived.Test.YtojkihhnioeggaaGreatDoorQMGVs
set_option linter.unusedVariables false
set_option linter.unusedSimpArgs false
set_option maxRecDepth 100000
set_option maxHeartbeats 4000000
namespace Go.Proofs.YtojkihhnioeggaaGreatDoor.S
open Go Go.Bm
def uR  (n : Nat) (p0 : (List Int)) : Option aP := (aV (fun (v3 : List Int) => some (aP.mk v3 0)) (fun (j1 : List Int → Option aP) => (if (decide ((List.length p0 : Int) > 4000)) = true then (Pb p0 0 4000).bind fun (l2 : List Int) => j1 l2 else j1 p0)))
theorem Iw  (n : Nat) (p0 : (List Int)) (r : aP) (h : uR n p0 = some r) : cN E 9 0 [.c (.lit (List.map aJ p0))] [] (.c (.ptr 0 0)) [(0, .blk 78 [.lit (List.map aJ r.L), I r.At])] := by
 refine fW Tryz.func9 rfl ?_
 unfold uR at h
 refine za [0] ?_
 refine aQ h (fun A j => ∀ v3, j v3 = some r → A (mk [(0, .c (.lit (List.map aJ v3)))] [] 0)) (fun v3 h => ?_) (fun j1 Aj1 hj1 h => ?_)
 refine za [2] ?_
 have h := Option.some.inj h
 subst h
 refine aI (sD rfl [(2, 0)] [2] (L2 := [(2, .c (.ptr 0 0))]) (G2 := [(0, .blk 78 [.lit (List.map aJ v3), I 0])]) (lim2 := 1) (by kernel_rfl)) ?_
 exact aG (Bn (.inl rfl) (by kernel_rfl) (by kernel_rfl))
 refine zx fun _ => ?_
 refine zk 1 ?_
 refine zl aJ p0 ?_
 refine zk 1 ?_
 refine ze [0, 5] ?_
 refine zi h (fun h => ?_) fun h => ?_
 refine aT ?_
 refine zy fun _ => ?_
 refine zk 1 ?_
 obtain ⟨l2, he, h⟩ := aB h
 refine zw (v := .c (.lit (List.map aJ l2))) [] (Gd (enc := aJ) (l := p0) (p := 0) (q := 4000) (sz := 1) he (by kernel_rfl) (fun x => by kernel_rfl)) ?_
 clear he
 refine zk 1 ?_
 refine bL ?_
 exact dI (zv [] [0] 0) (hj1 _ h)
 exact aI (zv [] [0] 0) (aC (hj1 _ h))
def cH  (n : Nat) (p0 : aP) (p1 : Int) : Option (Int × aP) := (if ((decide (p0.At ≥ (List.length p0.L : Int))) || (decide (p1 < 1))) = true then some (0, p0) else (idx p0.L p0.At).bind fun (e1 : Int) => (nz p1).bind fun (d2 : Int) => (aV (fun (v4 : Int) => some (v4, (aP.mk p0.L (IntKind.wrap .i64 (p0.At + 1))))) (fun (j3 : Int → Option (Int × aP)) => (if (decide ((Int.tmod e1 p1) < 0)) = true then j3 (IntKind.wrap .i64 ((Int.tmod e1 p1) + p1)) else j3 (Int.tmod e1 p1)))))
theorem bH  (n : Nat) (p0 : aP) (p1 : Int) (r : (Int × aP)) (h : cH n p0 p1 = some r) : cN E 15 1 [.c (.ptr 0 0), .c (I p1)] [(0, .blk 78 [.lit (List.map aJ p0.L), I p0.At])] (.c (I r.1)) [(0, .blk 78 [.lit (List.map aJ r.2.L), I r.2.At])] := by
 refine fW Tryz.func15 rfl ?_
 unfold cH at h
 refine za [0, 1] ?_
 refine aK ?_
 refine wP [[], [0], [1, 0], [2, 1, 0], [], [4], [5, 4], [6, 5, 4], [7, 6, 5, 4], [3, 8, 2, 1, 0, 7, 6, 5, 4], [9, 3, 8, 2, 1, 0, 7, 6, 5, 4], [10, 9, 3, 8, 2, 1, 0, 7, 6, 5, 4], [11, 10, 9, 3, 8, 2, 1, 0, 7, 6, 5, 4], [10, 12, 9, 3, 8, 2, 1, 0, 7, 6, 5, 4, 11]] fun _ => ?_
 refine zk 8 ?_
 refine zl aJ p0.L ?_
 refine zk 2 ?_
 refine zE (.c (I p1)) ?_
 refine zE (.c (Bo (decide (p1 < 1)))) ?_
 refine zP (.bool ((decide (p0.At ≥ (List.length p0.L : Int))) || (decide (p1 < 1)))) ?_
 refine ze [0, 1, 19] ?_
 refine zi h (fun h => ?_) fun h => ?_
 refine za [4] ?_
 cases h
 exact aG zr
 refine aC ?_
 refine wP [[], [0], [1, 0], [2, 1, 0], [], [4], [5, 4], [6, 5, 4], [3, 7, 2, 1, 0, 6, 5, 4], [8, 3, 7, 2, 1, 0, 6, 5, 4], [], [9, 10, 8, 3, 7, 2, 1, 0, 6, 5, 4], [11, 0, 1, 2, 3, 4, 5, 6, 7, 8, 9, 10]] fun _ => ?_
 refine zk 8 ?_
 obtain ⟨e1, he, h⟩ := aB h
 refine zd aJ he ?_
 clear he
 refine zk 2 ?_
 obtain ⟨d2, he, h⟩ := aB h
 refine cF (v := .c (I (Int.tmod e1 p1))) (foot := []) (Sr (k := .i64) (x := e1) (y := p1) he (by kernel_rfl)) (by kernel_rfl) rfl rfl ?_
 clear he
 refine zk 1 ?_
 refine jV [0, 1, 5] (L2 := [(0, .c (.ptr 0 0)), (1, .c (I p1)), (5, .c (I (Int.tmod e1 p1)))]) (G2 := [(0, .blk 78 [.lit (List.map aJ p0.L), I p0.At])]) 29 ?_
 refine za [1, 5] ?_
 refine aQ h (fun A j => ∀ v4, j v4 = some r → A (mk [(5, .c (I v4))] [(0, .blk 78 [.lit (List.map aJ p0.L), I (IntKind.wrap .i64 (p0.At + 1))])] 1)) (fun v4 h => ?_) (fun j3 Aj3 hj3 h => ?_)
 refine za [4] ?_
 cases h
 exact aG zr
 refine za [1, 5, 40] ?_
 refine zi h (fun h => ?_) fun h => ?_
 refine aT ?_
 refine zb ?_
 exact dI (zv [(0, 0)] [5] 1) (hj3 _ h)
 exact aI (zv [(0, 0)] [5] 1) (aC (hj3 _ h))
def nK  (n : Nat) (p0 : ByteArray) : Option aH := some (aH.mk 3 0 p0 ([] : List aH))
theorem mV  (n : Nat) (p0 : ByteArray) (r : aH) (h : nK n p0 = some r) : cN E 116 0 [.c (Sx p0)] [] (.agg [I r.Kind, I r.N, Sx r.S, .lit (List.map aO r.L)]) [] := by
 refine fW Tryz.func116 rfl ?_
 unfold nK at h
 refine za [0, 2] ?_
 refine za [2] ?_
 cases h
 exact aG zr
def pI  (n : Nat) (p0 : Int) : Option aH := some (aH.mk 2 p0 (⟨#[]⟩ : ByteArray) ([] : List aH))
theorem pD  (n : Nat) (p0 : Int) (r : aH) (h : pI n p0 = some r) : cN E 117 0 [.c (I p0)] [] (.agg [I r.Kind, I r.N, Sx r.S, .lit (List.map aO r.L)]) [] := by
 refine fW Tryz.func117 rfl ?_
 unfold pI at h
 refine za [0, 2] ?_
 refine za [2] ?_
 cases h
 exact aG zr
def nB  (n : Nat) (p0 : aP) : Option (ByteArray × aP) := (cH n p0 (List.length [(⟨#[97]⟩ : ByteArray), (⟨#[98]⟩ : ByteArray), (⟨#[99]⟩ : ByteArray), (⟨#[100]⟩ : ByteArray), (⟨#[120]⟩ : ByteArray), (⟨#[121]⟩ : ByteArray), (⟨#[105, 116, 101, 109]⟩ : ByteArray), (⟨#[110, 45, 49]⟩ : ByteArray)] : Int)).bind fun (y1 : (Int × aP)) => (idx [(⟨#[97]⟩ : ByteArray), (⟨#[98]⟩ : ByteArray), (⟨#[99]⟩ : ByteArray), (⟨#[100]⟩ : ByteArray), (⟨#[120]⟩ : ByteArray), (⟨#[121]⟩ : ByteArray), (⟨#[105, 116, 101, 109]⟩ : ByteArray), (⟨#[110, 45, 49]⟩ : ByteArray)] y1.1).bind fun (e2 : ByteArray) => some (e2, y1.2)
theorem uJ  (n : Nat) (p0 : aP) (r : (ByteArray × aP)) (h : nB n p0 = some r) : cN E 32 1 [.c (.ptr 0 0)] [(0, .blk 78 [.lit (List.map aJ p0.L), I p0.At])] (.c (Sx r.1)) [(0, .blk 78 [.lit (List.map aJ r.2.L), I r.2.At])] := by
 refine fW Tryz.func32 rfl ?_
 unfold nB at h
 refine za [0] ?_
 refine za [0, 3] ?_
 refine zx fun _ => ?_
 refine zk 3 ?_
 refine zl eS [(⟨#[97]⟩ : ByteArray), (⟨#[98]⟩ : ByteArray), (⟨#[99]⟩ : ByteArray), (⟨#[100]⟩ : ByteArray), (⟨#[120]⟩ : ByteArray), (⟨#[121]⟩ : ByteArray), (⟨#[105, 116, 101, 109]⟩ : ByteArray), (⟨#[110, 45, 49]⟩ : ByteArray)] ?_
 obtain ⟨y1, he, h⟩ := aB h
 refine zo [(0, 0)] cL (bH n _ _ y1 he) ?_
 clear he
 obtain ⟨e2, he, h⟩ := aB h
 refine zd eS he ?_
 clear he
 refine zk 2 ?_
 refine ze [2] ?_
 cases h
 exact aG zr
def mE  (n : Nat) (p0 : aP) (p1 : Int) (p2 : Int) : Option (Int × aP) := (cH n p0 (IntKind.wrap .i64 ((IntKind.wrap .i64 (p2 - p1)) + 1))).bind fun (y1 : (Int × aP)) => some ((IntKind.wrap .i64 (p1 + y1.1)), y1.2)
theorem oS  (n : Nat) (p0 : aP) (p1 : Int) (p2 : Int) (r : (Int × aP)) (h : mE n p0 p1 p2 = some r) : cN E 16 1 [.c (.ptr 0 0), .c (I p1), .c (I p2)] [(0, .blk 78 [.lit (List.map aJ p0.L), I p0.At])] (.c (I r.1)) [(0, .blk 78 [.lit (List.map aJ r.2.L), I r.2.At])] := by
 refine fW Tryz.func16 rfl ?_
 unfold mE at h
 refine za [0, 1, 2] ?_
 refine zx fun _ => ?_
 refine zk 6 ?_
 obtain ⟨y1, he, h⟩ := aB h
 refine zo [(0, 0)] cL (bH n _ _ y1 he) ?_
 clear he
 refine zk 2 ?_
 refine ze [6] ?_
 cases h
 exact aG zr
def jH  (n : Nat) (p0 : Int) : Option aH := some (aH.mk 1 p0 (⟨#[]⟩ : ByteArray) ([] : List aH))
theorem jE  (n : Nat) (p0 : Int) (r : aH) (h : jH n p0 = some r) : cN E 118 0 [.c (I p0)] [] (.agg [I r.Kind, I r.N, Sx r.S, .lit (List.map aO r.L)]) [] := by
 refine fW Tryz.func118 rfl ?_
 unfold jH at h
 refine za [0, 2] ?_
 refine za [2] ?_
 cases h
 exact aG zr
def nR  (n : Nat)  : Option (List Int) := some [97, 98, 102, 105, 88, 49, 50, 32, 32, 46, 44, 45, 39, 34, 40, 41, 91, 93, 60, 33, 58, 95, 37, 43, 47, 9, 10, 13, 11, 133, 160, 173, 183, 769, 1488, 1489, 1470, 1456, 1536, 1575, 1576, 1587, 1600, 1611, 1633, 1642, 1548, 1564, 1777, 2307, 2309, 2364, 4352, 4449, 4520, 44032, 44033, 8201, 8203, 8204, 8205, 8206, 8207, 8217, 8232, 8233, 8234, 8235, 8236, 8237, 8238, 8288, 8294, 8295, 8296, 8297, 9728, 12288, 12289, 12300, 12301, 12450, 19968, 65039, 127462, 127463, 127995, 128104, 1114111]
theorem zL  (n : Nat)  (r : (List Int)) (h : nR n  = some r) : cN E 140 0 [] [] (.c (.lit (List.map nH r))) [] := by
 refine fW Tryz.func140 rfl ?_
 unfold nR at h
 refine za [] ?_
 refine za [0] ?_
 cases h
 exact aG zr
def pX  (n : Nat) (p0 : aP) (p1 : Int) : Option (Bool × aP) := (cH n p0 p1).bind fun (y1 : (Int × aP)) => some ((y1.1 == (IntKind.wrap .i64 (p1 - 1))), y1.2)
theorem Fc  (n : Nat) (p0 : aP) (p1 : Int) (r : (Bool × aP)) (h : pX n p0 p1 = some r) : cN E 141 1 [.c (.ptr 0 0), .c (I p1)] [(0, .blk 78 [.lit (List.map aJ p0.L), I p0.At])] (.c (Bo r.1)) [(0, .blk 78 [.lit (List.map aJ r.2.L), I r.2.At])] := by
 refine fW Tryz.func141 rfl ?_
 unfold pX at h
 refine za [0, 1] ?_
 refine zx fun _ => ?_
 refine zk 2 ?_
 obtain ⟨y1, he, h⟩ := aB h
 refine zo [(0, 0)] cL (bH n _ _ y1 he) ?_
 clear he
 refine zk 4 ?_
 refine ze [4] ?_
 cases h
 exact aG zr
def yB  (n : Nat) (p0 : aP) : Option (Int × aP) := (if (decide (p0.At ≥ (List.length p0.L : Int))) = true then some (0, p0) else (idx p0.L (IntKind.wrap .i64 ((IntKind.wrap .i64 (p0.At + 1)) - 1))).bind fun (e1 : Int) => some (e1, (aP.mk p0.L (IntKind.wrap .i64 (p0.At + 1)))))
theorem Lu  (n : Nat) (p0 : aP) (r : (Int × aP)) (h : yB n p0 = some r) : cN E 142 1 [.c (.ptr 0 0)] [(0, .blk 78 [.lit (List.map aJ p0.L), I p0.At])] (.c (I r.1)) [(0, .blk 78 [.lit (List.map aJ r.2.L), I r.2.At])] := by
 refine fW Tryz.func142 rfl ?_
 unfold yB at h
 refine za [0] ?_
 refine aK ?_
 refine wP [[], [0], [1, 0], [2, 1, 0], [], [4], [5, 4], [6, 5, 4], [7, 6, 5, 4], [3, 8, 2, 1, 0, 7, 6, 5, 4]] fun _ => ?_
 refine zk 8 ?_
 refine zl aJ p0.L ?_
 refine zk 1 ?_
 refine ze [0, 12] ?_
 refine zi h (fun h => ?_) fun h => ?_
 refine za [2] ?_
 cases h
 exact aG zr
 refine aC ?_
 refine za [0] ?_
 refine wP [[], [0], [1, 0], [2, 1, 0], [], [4], [5, 4], [6, 5, 4], [7, 6, 5, 4], [3, 8, 2, 1, 0, 7, 6, 5, 4], [9, 3, 8, 2, 1, 0, 7, 6, 5, 4], [10, 0, 1, 2, 3, 4, 5, 6, 7, 8, 9]] fun _ => ?_
 refine zk 9 ?_
 obtain ⟨e1, he, h⟩ := aB h
 refine zd aJ he ?_
 clear he
 refine zk 2 ?_
 refine ze [2] ?_
 cases h
 exact aG zr
def rV  (n : Nat) (p0 : aP) : Option (Int × aP) := (nR n).bind fun (y1 : (List Int)) => (pX n p0 40).bind fun (y2 : (Bool × aP)) => (if y2.1 = true then (yB n y2.2).bind fun (y3 : (Int × aP)) => some ((IntKind.wrap .i32 y3.1), y3.2) else (cH n y2.2 (List.length y1 : Int)).bind fun (y4 : (Int × aP)) => (idx y1 y4.1).bind fun (e5 : Int) => some (e5, y4.2))
theorem zT  (n : Nat) (p0 : aP) (r : (Int × aP)) (h : rV n p0 = some r) : cN E 133 1 [.c (.ptr 0 0)] [(0, .blk 78 [.lit (List.map aJ p0.L), I p0.At])] (.c (I32 r.1)) [(0, .blk 78 [.lit (List.map aJ r.2.L), I r.2.At])] := by
 refine fW Tryz.func133 rfl ?_
 unfold rV at h
 refine za [0] ?_
 refine zx fun _ => ?_
 obtain ⟨y1, he, h⟩ := aB h
 refine zc Za (zL n  y1 he) ?_
 clear he
 refine zk 1 ?_
 refine ze [0, 3] ?_
 refine aK ?_
 refine zx fun _ => ?_
 refine zk 1 ?_
 obtain ⟨y2, he, h⟩ := aB h
 refine zo [(0, 0)] Zl (Fc n _ _ y2 he) ?_
 clear he
 refine ze [0, 3, 6] ?_
 refine zi h (fun h => ?_) fun h => ?_
 refine zx fun _ => ?_
 refine zk 1 ?_
 obtain ⟨y3, he, h⟩ := aB h
 refine zo [(0, 0)] Ys (Lu n _ y3 he) ?_
 clear he
 refine zk 2 ?_
 refine ze [2] ?_
 cases h
 exact aG zr
 refine aC ?_
 refine zx fun _ => ?_
 refine zk 3 ?_
 refine zl nH y1 ?_
 obtain ⟨y4, he, h⟩ := aB h
 refine zo [(0, 0)] cL (bH n _ _ y4 he) ?_
 clear he
 obtain ⟨e5, he, h⟩ := aB h
 refine zd nH he ?_
 clear he
 refine zk 2 ?_
 refine jV [2] (L2 := [(2, .c (I32 e5))]) (G2 := [(0, .blk 78 [.lit (List.map aJ y4.2.L), I y4.2.At])]) 14 ?_
 cases h
 exact aG zr
def kV (y1 : (Int × aP)) (y2 : (Int × aP)) (v16 : List Int) (j19 : List Int → List Int → Int → Option ((List Int) × aP)) : Nat → List Int → Int → List Int → Int → Option ((List Int) × aP)
 | 0, _, _, _, _ => none
 | n + 1, v29, v30, v31, v32 => (if (decide (v30 < y1.1)) = true then (aV (fun (v39 : List Int) (v40 : List Int) (v41 : Int) => kV y1 y2 v16 j19 n v39 (IntKind.wrap .i64 (v30 + 1)) v40 v41) (fun (j33 : List Int → List Int → Int → Option ((List Int) × aP)) => (if (decide (y2.1 > 0)) = true then (cH n (aP.mk v31 v32) 5).bind fun (y34 : (Int × aP)) => (idx v16 y34.1).bind fun (e35 : Int) => (pE 4 v29 [e35]).bind fun (l36 : List Int) => j33 l36 y34.2.L y34.2.At else (rV n (aP.mk v31 v32)).bind fun (y37 : (Int × aP)) => (pE 4 v29 [y37.1]).bind fun (l38 : List Int) => j33 l38 y37.2.L y37.2.At))) else j19 v29 v31 v32)
def kS (j3 : List Int → List Int → Int → Option ((List Int) × aP)) (y1 : (Int × aP)) (y2 : (Int × aP)) : Nat → List Int → Int → List Int → Int → Option ((List Int) × aP)
 | 0, _, _, _, _ => none
 | n + 1, v6, v7, v8, v9 => (if (decide (v7 < 5)) = true then (rV n (aP.mk v8 v9)).bind fun (y10 : (Int × aP)) => (pE 4 v6 [y10.1]).bind fun (l11 : List Int) => kS j3 y1 y2 n l11 (IntKind.wrap .i64 (v7 + 1)) y10.2.L y10.2.At else j3 v6 v8 v9)
def tZ  (n : Nat) (p0 : aP) (p1 : Int) : Option ((List Int) × aP) := (cH n p0 (IntKind.wrap .i64 (p1 + 1))).bind fun (y1 : (Int × aP)) => (cH n y1.2 3).bind fun (y2 : (Int × aP)) => (aV (fun (v16 : List Int) (v17 : List Int) (v18 : Int) => (aV (fun (v46 : List Int) (v47 : List Int) (v48 : Int) => some (v46, (aP.mk v47 v48))) (fun (j19 : List Int → List Int → Int → Option ((List Int) × aP)) => kV y1 y2 v16 j19 n ([] : List Int) 0 v17 v18))) (fun (j3 : List Int → List Int → Int → Option ((List Int) × aP)) => kS j3 y1 y2 n ([] : List Int) 0 y2.2.L y2.2.At))
theorem Ki  (n : Nat) (p0 : aP) (p1 : Int) (r : ((List Int) × aP)) (h : tZ n p0 p1 = some r) : cN E 120 1 [.c (.ptr 0 0), .c (I p1)] [(0, .blk 78 [.lit (List.map aJ p0.L), I p0.At])] (.c (.lit (List.map nH r.1))) [(0, .blk 78 [.lit (List.map aJ r.2.L), I r.2.At])] := by
 refine fW Tryz.func120 rfl ?_
 unfold tZ at h
 refine za [0, 1] ?_
 refine zx fun _ => ?_
 refine zk 3 ?_
 obtain ⟨y1, he, h⟩ := aB h
 refine zo [(0, 0)] cL (bH n _ _ y1 he) ?_
 clear he
 refine zk 1 ?_
 refine ze [0, 5] ?_
 refine za [0, 5, 6] ?_
 refine zx fun _ => ?_
 refine zk 1 ?_
 obtain ⟨y2, he, h⟩ := aB h
 refine zo [(0, 0)] cL (bH n _ _ y2 he) ?_
 clear he
 refine zk 1 ?_
 refine ze [0, 5, 6, 7] ?_
 refine za [0, 5, 6, 7, 8] ?_
 refine aQ h (fun A j => ∀ v16 v17 v18, j v16 v17 v18 = some r → A (mk [(0, .c (.ptr 0 0)), (5, .c (I y1.1)), (6, .c (bY)), (7, .c (I y2.1)), (8, .c (.app 1 (List.map nH v16)))] [(0, .blk 78 [.lit (List.map aJ v17), I v18]), (1, .tok 21 1 (List.length v16))] 2)) (fun v16 v17 v18 h => ?_) (fun j3 Aj3 hj3 h => ?_)
 refine aQ h (fun A j => ∀ v46 v47 v48, j v46 v47 v48 = some r → A (mk [(6, .c (.app 1 (List.map nH v46)))] [(0, .blk 78 [.lit (List.map aJ v47), I v48]), (1, .tok 21 1 (List.length v46))] 2)) (fun v46 v47 v48 h => ?_) (fun j19 Aj19 hj19 h => ?_)
 refine za [4] ?_
 cases h
 exact aG zr
 refine za [0, 5, 6, 7, 8, 10] ?_
 refine aF ?_
 refine bA (fun n s => ∃ v29 v30 v31 v32, kV y1 y2 v16 j19 n v29 v30 v31 v32 = some r ∧ s = mk [(0, .c (.ptr 0 0)), (5, .c (I y1.1)), (6, .c (.app 1 (List.map nH v29))), (7, .c (I y2.1)), (8, .c (.app 2 (List.map nH v16))), (10, .c (I v30))] [(0, .blk 78 [.lit (List.map aJ v31), I v32]), (1, .tok 21 1 (List.length v29)), (2, .tok 21 1 (List.length v16))] 3) n _ (dU.trans (mJ (L2 := [(0, .c (.ptr 0 0)), (5, .c (I y1.1)), (6, .c (.app 3 (List.map nH ([] : List Int)))), (7, .c (I y2.1)), (8, .c (.app 1 (List.map nH v16))), (10, .c (I 0))]) (G2 := [(0, .blk 78 [.lit (List.map aJ v17), I v18]), (1, .tok 21 1 (List.length v16)), (3, .tok 21 1 (List.length ([] : List Int)))]) (lim2 := 4) 6 21 1 (by kernel_rfl) (by kernel_rfl) (by kernel_rfl) (by kernel_rfl)) (zv [(0, 0), (3, 1), (1, 2)] [0, 5, 6, 7, 8, 10] 3)) ⟨_, _, _, _, h, rfl⟩ (fun s ⟨v29, v30, v31, v32, h, _⟩ => nomatch h) ?_
 rintro n s ⟨v29, v30, v31, v32, h, rfl⟩
 rw [kV] at h
 refine aK ?_
 refine za [0, 5, 6, 7, 8, 10, 28] ?_
 refine zi h (fun h => ?_) fun h => ?_
 refine aC ?_
 refine aQ h (fun A j => ∀ v39 v40 v41, j v39 v40 v41 = some r → A (mk [(0, .c (.ptr 0 0)), (5, .c (I y1.1)), (6, .c (.app 1 (List.map nH v39))), (7, .c (I y2.1)), (8, .c (.app 2 (List.map nH v16))), (10, .c (I v30))] [(0, .blk 78 [.lit (List.map aJ v40), I v41]), (1, .tok 21 1 (List.length v39)), (2, .tok 21 1 (List.length v16))] 3)) (fun v39 v40 v41 h => ?_) (fun j33 Aj33 hj33 h => ?_)
 refine aT ?_
 refine zb ?_
 exact dI (zv [(0, 0), (1, 1), (2, 2)] [0, 5, 6, 7, 8, 10] 3) (⟨_, _, _, _, h, rfl⟩)
 refine aF ?_
 refine za [0, 5, 6, 7, 8, 10, 32] ?_
 refine zi h (fun h => ?_) fun h => ?_
 refine aT ?_
 refine zy fun _ => ?_
 refine zk 3 ?_
 obtain ⟨y34, he, h⟩ := aB h
 refine zo [(0, 0)] cL (bH n _ _ y34 he) ?_
 clear he
 obtain ⟨e35, he, h⟩ := aB h
 refine zd nH he ?_
 clear he
 refine zk 2 ?_
 obtain ⟨l36, he, h⟩ := aB h
 refine cB (enc := nH) (l := v29) (els := [e35]) (r := l36) (old := some 1) (e := 21) (sz := 1) (bytes := 4) (k := (List.length v29)) (nm := 15) he (by kernel_rfl) (by kernel_rfl) (fun x => by kernel_rfl) (by kernel_rfl) (by kernel_rfl) rfl rfl rfl ?_
 clear he
 refine zk 1 ?_
 refine bL ?_
 exact dI (zv [(0, 0), (15, 1), (2, 2)] [0, 5, 6, 7, 8, 10] 3) (hj33 _ _ _ h)
 refine aT ?_
 refine zy fun _ => ?_
 refine zk 2 ?_
 obtain ⟨y37, he, h⟩ := aB h
 refine zo [(0, 0)] Sb (zT n _ y37 he) ?_
 clear he
 refine zk 1 ?_
 obtain ⟨l38, he, h⟩ := aB h
 refine cB (enc := nH) (l := v29) (els := [y37.1]) (r := l38) (old := some 1) (e := 21) (sz := 1) (bytes := 4) (k := (List.length v29)) (nm := 12) he (by kernel_rfl) (by kernel_rfl) (fun x => by kernel_rfl) (by kernel_rfl) (by kernel_rfl) rfl rfl rfl ?_
 clear he
 refine zk 1 ?_
 refine bL ?_
 exact dI (zv [(0, 0), (12, 1), (2, 2)] [0, 5, 6, 7, 8, 10] 3) (hj33 _ _ _ h)
 exact aI (zv [(0, 0), (1, 1)] [6] 2) (bD (hj19 _ _ _ h))
 refine za [0, 5, 6, 7, 8, 9] ?_
 refine aF ?_
 refine bA (fun n s => ∃ v6 v7 v8 v9, kS j3 y1 y2 n v6 v7 v8 v9 = some r ∧ s = mk [(0, .c (.ptr 0 0)), (5, .c (I y1.1)), (6, .c (bY)), (7, .c (I y2.1)), (8, .c (.app 1 (List.map nH v6))), (9, .c (I v7))] [(0, .blk 78 [.lit (List.map aJ v8), I v9]), (1, .tok 21 1 (List.length v6))] 2) n _ (dU.trans (mJ (L2 := [(0, .c (.ptr 0 0)), (5, .c (I y1.1)), (6, .c (bY)), (7, .c (I y2.1)), (8, .c (.app 13 (List.map nH ([] : List Int)))), (9, .c (I 0))]) (G2 := [(0, .blk 78 [.lit (List.map aJ y2.2.L), I y2.2.At]), (13, .tok 21 1 (List.length ([] : List Int)))]) (lim2 := 14) 8 21 1 (by kernel_rfl) (by kernel_rfl) (by kernel_rfl) (by kernel_rfl)) (zv [(0, 0), (13, 1)] [0, 5, 6, 7, 8, 9] 2)) ⟨_, _, _, _, h, rfl⟩ (fun s ⟨v6, v7, v8, v9, h, _⟩ => nomatch h) ?_
 rintro n s ⟨v6, v7, v8, v9, h, rfl⟩
 rw [kS] at h
 refine aK ?_
 refine za [0, 5, 6, 7, 8, 9, 18] ?_
 refine zi h (fun h => ?_) fun h => ?_
 refine aC ?_
 refine aK ?_
 refine aF ?_
 refine zy fun _ => ?_
 refine zk 2 ?_
 obtain ⟨y10, he, h⟩ := aB h
 refine zo [(0, 0)] Sb (zT n _ y10 he) ?_
 clear he
 refine zk 1 ?_
 obtain ⟨l11, he, h⟩ := aB h
 refine cB (enc := nH) (l := v6) (els := [y10.1]) (r := l11) (old := some 1) (e := 21) (sz := 1) (bytes := 4) (k := (List.length v6)) (nm := 8) he (by kernel_rfl) (by kernel_rfl) (fun x => by kernel_rfl) (by kernel_rfl) (by kernel_rfl) rfl rfl rfl ?_
 clear he
 refine zk 1 ?_
 refine bL ?_
 refine aT ?_
 refine zb ?_
 exact dI (zv [(0, 0), (8, 1)] [0, 5, 6, 7, 8, 9] 2) (⟨_, _, _, _, h, rfl⟩)
 exact aI (zv [(0, 0), (1, 1)] [0, 5, 6, 7, 8] 2) (bD (hj3 _ _ _ h))
def rE  (n : Nat) (p0 : aP) (p1 : (List Int)) : Option ((List Int) × aP) := (yN (runesBytes p1)).bind fun (l1 : List Int) => some (l1, p0)
theorem Ir  (n : Nat) (p0 : aP) (p1 : (List Int)) (r : ((List Int) × aP)) (h : rE n p0 p1 = some r) : cN E 119 1 [.c (.ptr 0 0), .c (.lit (List.map nH p1))] [(0, .blk 78 [.lit (List.map aJ p0.L), I p0.At])] (.c (.lit (List.map nH r.1))) [(0, .blk 78 [.lit (List.map aJ r.2.L), I r.2.At])] := by
 refine fW Tryz.func119 rfl ?_
 unfold rE at h
 refine za [1] ?_
 refine zx fun _ => ?_
 refine zk 1 ?_
 refine zw (v := .c (Sx (runesBytes p1))) [] (qS (ns := p1) (by kernel_rfl)) ?_
 obtain ⟨l1, he, h⟩ := aB h
 refine Sm (v := .c (.lit (List.map nH l1))) (foot := []) (Fm (s := (runesBytes p1)) he (by kernel_rfl)) (by kernel_rfl) rfl rfl ?_
 clear he
 refine zk 1 ?_
 refine ze [4] ?_
 cases h
 exact aG zr
def jO (j37 : List Int → Int → List aH → Option ((List aZ) × aP)) (p1 : Int) (v32 : List aZ) : Nat → Int → List Int → Int → List aH → Option ((List aZ) × aP)
 | 0, _, _, _, _ => none
 | n + 1, v46, v47, v48, v49 => (if (decide (v46 > 0)) = true then (cH n (aP.mk v47 v48) 6).bind fun (y50 : (Int × aP)) => (idx [0, 0, 30, 50, (-1 : Int), (-2 : Int)] y50.1).bind fun (e51 : Int) => (jH n e51).bind fun (y52 : aH) => (pE 56 v49 [y52]).bind fun (l53 : List aH) => jO j37 p1 v32 n (IntKind.wrap .i64 (v46 - 1)) y50.2.L y50.2.At l53 else j37 v47 v48 v49)
def rS  (n : Nat) (p0 : aP) (p1 : Int) : Option ((List aZ) × aP) := (aV (fun (v7 : List aZ) (v8 : List Int) (v9 : Int) => (aV (fun (v16 : List aZ) (v17 : List Int) (v18 : Int) => (aV (fun (v24 : List aZ) (v25 : List Int) (v26 : Int) => (aV (fun (v32 : List aZ) (v33 : List Int) (v34 : Int) => (aV (fun (v65 : List aZ) (v66 : List Int) (v67 : Int) => (aV (fun (v73 : List aZ) (v74 : List Int) (v75 : Int) => (aV (fun (v81 : List aZ) (v82 : List Int) (v83 : Int) => (aV (fun (v89 : List aZ) (v90 : List Int) (v91 : Int) => (aV (fun (v98 : List aZ) (v99 : List Int) (v100 : Int) => (aV (fun (v105 : List aZ) (v106 : List Int) (v107 : Int) => (aV (fun (v113 : List aZ) (v114 : List Int) (v115 : Int) => (aV (fun (v121 : List aZ) (v122 : List Int) (v123 : Int) => (aV (fun (v130 : List aZ) (v131 : List Int) (v132 : Int) => (aV (fun (v138 : List aZ) (v139 : List Int) (v140 : Int) => (aV (fun (v146 : List aZ) (v147 : List Int) (v148 : Int) => some (v146, (aP.mk v147 v148))) (fun (j141 : List aZ → List Int → Int → Option ((List aZ) × aP)) => (Vb [(!((p1 == 5) || (p1 == 13)))] (cH n (aP.mk v139 v140) 9) ((default : Int), (aP.mk v139 v140))).bind fun (y142 : (Int × aP)) => (if (((p1 == 5) || (p1 == 13)) || (y142.1 == 0)) = true then (cH n y142.2 90).bind fun (y143 : (Int × aP)) => (jH n y143.1).bind fun (y144 : aH) => (pE 72 v138 [(aZ.mk (⟨#[119, 105, 100, 116, 104]⟩ : ByteArray) y144)]).bind fun (l145 : List aZ) => j141 l145 y143.2.L y143.2.At else j141 v138 y142.2.L y142.2.At)))) (fun (j133 : List aZ → List Int → Int → Option ((List aZ) × aP)) => (cH n (aP.mk v131 v132) 8).bind fun (y134 : (Int × aP)) => (if (y134.1 == 0) = true then (cH n y134.2 5).bind fun (y135 : (Int × aP)) => (jH n y135.1).bind fun (y136 : aH) => (pE 72 v130 [(aZ.mk (⟨#[116, 117, 114, 110]⟩ : ByteArray) y136)]).bind fun (l137 : List aZ) => j133 l137 y135.2.L y135.2.At else j133 v130 y134.2.L y134.2.At)))) (fun (j124 : List aZ → List Int → Int → Option ((List aZ) × aP)) => (cH n (aP.mk v122 v123) 2).bind fun (y125 : (Int × aP)) => (if (y125.1 == 0) = true then (tZ n y125.2 8).bind fun (y126 : ((List Int) × aP)) => (rE n y126.2 y126.1).bind fun (y127 : ((List Int) × aP)) => (nK n (runesBytes y127.1)).bind fun (y128 : aH) => (pE 72 v121 [(aZ.mk (⟨#[116, 101, 120, 116]⟩ : ByteArray) y128)]).bind fun (l129 : List aZ) => j124 l129 y127.2.L y127.2.At else j124 v121 y125.2.L y125.2.At)))) (fun (j116 : List aZ → List Int → Int → Option ((List aZ) × aP)) => (cH n (aP.mk v114 v115) 6).bind fun (y117 : (Int × aP)) => (if (y117.1 == 0) = true then (cH n y117.2 4).bind fun (y118 : (Int × aP)) => (jH n y118.1).bind fun (y119 : aH) => (pE 72 v113 [(aZ.mk (⟨#[115, 112, 97, 110]⟩ : ByteArray) y119)]).bind fun (l120 : List aZ) => j116 l120 y118.2.L y118.2.At else j116 v113 y117.2.L y117.2.At)))) (fun (j108 : List aZ → List Int → Int → Option ((List aZ) × aP)) => (cH n (aP.mk v106 v107) 8).bind fun (y109 : (Int × aP)) => (if (y109.1 == 0) = true then (cH n y109.2 4).bind fun (y110 : (Int × aP)) => (jH n y110.1).bind fun (y111 : aH) => (pE 72 v105 [(aZ.mk (⟨#[115, 99, 97, 108, 101]⟩ : ByteArray) y111)]).bind fun (l112 : List aZ) => j108 l112 y110.2.L y110.2.At else j108 v105 y109.2.L y109.2.At)))) (fun (j101 : List aZ → List Int → Int → Option ((List aZ) × aP)) => (cH n (aP.mk v99 v100) 6).bind fun (y102 : (Int × aP)) => (if (y102.1 == 0) = true then (pI n 1).bind fun (y103 : aH) => (pE 72 v98 [(aZ.mk (⟨#[112, 105, 110, 110, 101, 100]⟩ : ByteArray) y103)]).bind fun (l104 : List aZ) => j101 l104 y102.2.L y102.2.At else j101 v98 y102.2.L y102.2.At)))) (fun (j92 : List aZ → List Int → Int → Option ((List aZ) × aP)) => (cH n (aP.mk v90 v91) 6).bind fun (y93 : (Int × aP)) => (if (y93.1 == 0) = true then (cH n y93.2 6).bind fun (y94 : (Int × aP)) => (Pv (⟨#[107]⟩ : ByteArray) (cX [(IntKind.wrap .u8 (IntKind.wrap .i64 (97 + y94.1)))])).bind fun (s95 : ByteArray) => (nK n s95).bind fun (y96 : aH) => (pE 72 v89 [(aZ.mk (⟨#[108, 101, 102, 116]⟩ : ByteArray) y96)]).bind fun (l97 : List aZ) => j92 l97 y94.2.L y94.2.At else j92 v89 y93.2.L y93.2.At)))) (fun (j84 : List aZ → List Int → Int → Option ((List aZ) × aP)) => (cH n (aP.mk v82 v83) 12).bind fun (y85 : (Int × aP)) => (if (y85.1 == 0) = true then (cH n y85.2 2).bind fun (y86 : (Int × aP)) => (pI n y86.1).bind fun (y87 : aH) => (pE 72 v81 [(aZ.mk (⟨#[104, 105, 100, 100, 101, 110]⟩ : ByteArray) y87)]).bind fun (l88 : List aZ) => j84 l88 y86.2.L y86.2.At else j84 v81 y85.2.L y85.2.At)))) (fun (j76 : List aZ → List Int → Int → Option ((List aZ) × aP)) => (Vb [(!((p1 == 5) || (p1 == 13)))] (cH n (aP.mk v74 v75) 9) ((default : Int), (aP.mk v74 v75))).bind fun (y77 : (Int × aP)) => (if (((p1 == 5) || (p1 == 13)) || (y77.1 == 0)) = true then (cH n y77.2 60).bind fun (y78 : (Int × aP)) => (jH n y78.1).bind fun (y79 : aH) => (pE 72 v73 [(aZ.mk (⟨#[104, 101, 105, 103, 104, 116]⟩ : ByteArray) y79)]).bind fun (l80 : List aZ) => j76 l80 y78.2.L y78.2.At else j76 v73 y77.2.L y77.2.At)))) (fun (j68 : List aZ → List Int → Int → Option ((List aZ) × aP)) => (cH n (aP.mk v66 v67) 9).bind fun (y69 : (Int × aP)) => (if (y69.1 == 0) = true then (cH n y69.2 2).bind fun (y70 : (Int × aP)) => (pI n y70.1).bind fun (y71 : aH) => (pE 72 v65 [(aZ.mk (⟨#[100, 105, 115, 97, 98, 108, 101, 100]⟩ : ByteArray) y71)]).bind fun (l72 : List aZ) => j68 l72 y70.2.L y70.2.At else j68 v65 y69.2.L y69.2.At)))) (fun (j35 : List aZ → List Int → Int → Option ((List aZ) × aP)) => (cH n (aP.mk v33 v34) 4).bind fun (y36 : (Int × aP)) => (if (y36.1 == 0) = true then (aV (fun (v61 : List Int) (v62 : Int) (v63 : List aH) => (pE 72 v32 [(aZ.mk (⟨#[99, 111, 108, 117, 109, 110, 115]⟩ : ByteArray) (aH.mk 4 0 (⟨#[]⟩ : ByteArray) v63))]).bind fun (l64 : List aZ) => j35 l64 v61 v62) (fun (j37 : List Int → Int → List aH → Option ((List aZ) × aP)) => (mE n y36.2 1 3).bind fun (y38 : (Int × aP)) => jO j37 p1 v32 n y38.1 y38.2.L y38.2.At ([] : List aH))) else j35 v32 y36.2.L y36.2.At)))) (fun (j27 : List aZ → List Int → Int → Option ((List aZ) × aP)) => (cH n (aP.mk v25 v26) 3).bind fun (y28 : (Int × aP)) => (if (y28.1 == 0) = true then (nB n y28.2).bind fun (y29 : (ByteArray × aP)) => (nK n y29.1).bind fun (y30 : aH) => (pE 72 v24 [(aZ.mk (⟨#[99, 108, 97, 115, 115]⟩ : ByteArray) y30)]).bind fun (l31 : List aZ) => j27 l31 y29.2.L y29.2.At else j27 v24 y28.2.L y28.2.At)))) (fun (j19 : List aZ → List Int → Int → Option ((List aZ) × aP)) => (cH n (aP.mk v17 v18) 9).bind fun (y20 : (Int × aP)) => (if (y20.1 == 0) = true then (cH n y20.2 2).bind fun (y21 : (Int × aP)) => (pI n y21.1).bind fun (y22 : aH) => (pE 72 v16 [(aZ.mk (⟨#[99, 104, 101, 99, 107, 101, 100]⟩ : ByteArray) y22)]).bind fun (l23 : List aZ) => j19 l23 y21.2.L y21.2.At else j19 v16 y20.2.L y20.2.At)))) (fun (j10 : List aZ → List Int → Int → Option ((List aZ) × aP)) => (cH n (aP.mk v8 v9) 9).bind fun (y11 : (Int × aP)) => (if (y11.1 == 0) = true then (cH n y11.2 6).bind fun (y12 : (Int × aP)) => (Pv (⟨#[107]⟩ : ByteArray) (cX [(IntKind.wrap .u8 (IntKind.wrap .i64 (97 + y12.1)))])).bind fun (s13 : ByteArray) => (nK n s13).bind fun (y14 : aH) => (pE 72 v7 [(aZ.mk (⟨#[97, 108, 105, 103, 110, 108, 101, 102, 116]⟩ : ByteArray) y14)]).bind fun (l15 : List aZ) => j10 l15 y12.2.L y12.2.At else j10 v7 y11.2.L y11.2.At)))) (fun (j1 : List aZ → List Int → Int → Option ((List aZ) × aP)) => (cH n p0 6).bind fun (y2 : (Int × aP)) => (if (y2.1 == 0) = true then (cH n y2.2 6).bind fun (y3 : (Int × aP)) => (Pv (⟨#[107]⟩ : ByteArray) (cX [(IntKind.wrap .u8 (IntKind.wrap .i64 (97 + y3.1)))])).bind fun (s4 : ByteArray) => (nK n s4).bind fun (y5 : aH) => (pE 72 ([] : List aZ) [(aZ.mk (⟨#[97, 98, 111, 118, 101]⟩ : ByteArray) y5)]).bind fun (l6 : List aZ) => j1 l6 y3.2.L y3.2.At else j1 ([] : List aZ) y2.2.L y2.2.At)))
theorem Hq  (n : Nat) (p0 : aP) (p1 : Int) (r : ((List aZ) × aP)) (h : rS n p0 p1 = some r) : cN E 96 1 [.c (.ptr 0 0), .c (I p1)] [(0, .blk 78 [.lit (List.map aJ p0.L), I p0.At])] (.c (.lit (List.map aM r.1))) [(0, .blk 78 [.lit (List.map aJ r.2.L), I r.2.At])] := by
 refine fW Tryz.func96 rfl ?_
 unfold rS at h
 refine za [0, 1] ?_
 refine za [0, 1, 5] ?_
 refine aQ h (fun A j => ∀ v7 v8 v9, j v7 v8 v9 = some r → A (mk [(0, .c (.ptr 0 0)), (1, .c (I p1)), (5, .c (.app 1 (List.map aM v7)))] [(0, .blk 78 [.lit (List.map aJ v8), I v9]), (1, .tok 172 5 (List.length v7))] 2)) (fun v7 v8 v9 h => ?_) (fun j1 Aj1 hj1 h => ?_)
 refine aQ h (fun A j => ∀ v16 v17 v18, j v16 v17 v18 = some r → A (mk [(0, .c (.ptr 0 0)), (1, .c (I p1)), (5, .c (.app 1 (List.map aM v16)))] [(0, .blk 78 [.lit (List.map aJ v17), I v18]), (1, .tok 172 5 (List.length v16))] 2)) (fun v16 v17 v18 h => ?_) (fun j10 Aj10 hj10 h => ?_)
 refine aQ h (fun A j => ∀ v24 v25 v26, j v24 v25 v26 = some r → A (mk [(0, .c (.ptr 0 0)), (1, .c (I p1)), (5, .c (.app 1 (List.map aM v24)))] [(0, .blk 78 [.lit (List.map aJ v25), I v26]), (1, .tok 172 5 (List.length v24))] 2)) (fun v24 v25 v26 h => ?_) (fun j19 Aj19 hj19 h => ?_)
 refine aQ h (fun A j => ∀ v32 v33 v34, j v32 v33 v34 = some r → A (mk [(0, .c (.ptr 0 0)), (1, .c (I p1)), (5, .c (.app 1 (List.map aM v32)))] [(0, .blk 78 [.lit (List.map aJ v33), I v34]), (1, .tok 172 5 (List.length v32))] 2)) (fun v32 v33 v34 h => ?_) (fun j27 Aj27 hj27 h => ?_)
 refine aQ h (fun A j => ∀ v65 v66 v67, j v65 v66 v67 = some r → A (mk [(0, .c (.ptr 0 0)), (1, .c (I p1)), (5, .c (.app 1 (List.map aM v65)))] [(0, .blk 78 [.lit (List.map aJ v66), I v67]), (1, .tok 172 5 (List.length v65))] 2)) (fun v65 v66 v67 h => ?_) (fun j35 Aj35 hj35 h => ?_)
 refine aQ h (fun A j => ∀ v73 v74 v75, j v73 v74 v75 = some r → A (mk [(0, .c (.ptr 0 0)), (1, .c (I p1)), (5, .c (.app 1 (List.map aM v73)))] [(0, .blk 78 [.lit (List.map aJ v74), I v75]), (1, .tok 172 5 (List.length v73))] 2)) (fun v73 v74 v75 h => ?_) (fun j68 Aj68 hj68 h => ?_)
 refine aQ h (fun A j => ∀ v81 v82 v83, j v81 v82 v83 = some r → A (mk [(0, .c (.ptr 0 0)), (1, .c (I p1)), (5, .c (.app 1 (List.map aM v81)))] [(0, .blk 78 [.lit (List.map aJ v82), I v83]), (1, .tok 172 5 (List.length v81))] 2)) (fun v81 v82 v83 h => ?_) (fun j76 Aj76 hj76 h => ?_)
 refine aQ h (fun A j => ∀ v89 v90 v91, j v89 v90 v91 = some r → A (mk [(0, .c (.ptr 0 0)), (1, .c (I p1)), (5, .c (.app 1 (List.map aM v89)))] [(0, .blk 78 [.lit (List.map aJ v90), I v91]), (1, .tok 172 5 (List.length v89))] 2)) (fun v89 v90 v91 h => ?_) (fun j84 Aj84 hj84 h => ?_)
 refine aQ h (fun A j => ∀ v98 v99 v100, j v98 v99 v100 = some r → A (mk [(0, .c (.ptr 0 0)), (1, .c (I p1)), (5, .c (.app 1 (List.map aM v98)))] [(0, .blk 78 [.lit (List.map aJ v99), I v100]), (1, .tok 172 5 (List.length v98))] 2)) (fun v98 v99 v100 h => ?_) (fun j92 Aj92 hj92 h => ?_)
 refine aQ h (fun A j => ∀ v105 v106 v107, j v105 v106 v107 = some r → A (mk [(0, .c (.ptr 0 0)), (1, .c (I p1)), (5, .c (.app 1 (List.map aM v105)))] [(0, .blk 78 [.lit (List.map aJ v106), I v107]), (1, .tok 172 5 (List.length v105))] 2)) (fun v105 v106 v107 h => ?_) (fun j101 Aj101 hj101 h => ?_)
 refine aQ h (fun A j => ∀ v113 v114 v115, j v113 v114 v115 = some r → A (mk [(0, .c (.ptr 0 0)), (1, .c (I p1)), (5, .c (.app 1 (List.map aM v113)))] [(0, .blk 78 [.lit (List.map aJ v114), I v115]), (1, .tok 172 5 (List.length v113))] 2)) (fun v113 v114 v115 h => ?_) (fun j108 Aj108 hj108 h => ?_)
 refine aQ h (fun A j => ∀ v121 v122 v123, j v121 v122 v123 = some r → A (mk [(0, .c (.ptr 0 0)), (1, .c (I p1)), (5, .c (.app 1 (List.map aM v121)))] [(0, .blk 78 [.lit (List.map aJ v122), I v123]), (1, .tok 172 5 (List.length v121))] 2)) (fun v121 v122 v123 h => ?_) (fun j116 Aj116 hj116 h => ?_)
 refine aQ h (fun A j => ∀ v130 v131 v132, j v130 v131 v132 = some r → A (mk [(0, .c (.ptr 0 0)), (1, .c (I p1)), (5, .c (.app 1 (List.map aM v130)))] [(0, .blk 78 [.lit (List.map aJ v131), I v132]), (1, .tok 172 5 (List.length v130))] 2)) (fun v130 v131 v132 h => ?_) (fun j124 Aj124 hj124 h => ?_)
 refine aQ h (fun A j => ∀ v138 v139 v140, j v138 v139 v140 = some r → A (mk [(0, .c (.ptr 0 0)), (1, .c (I p1)), (5, .c (.app 1 (List.map aM v138)))] [(0, .blk 78 [.lit (List.map aJ v139), I v140]), (1, .tok 172 5 (List.length v138))] 2)) (fun v138 v139 v140 h => ?_) (fun j133 Aj133 hj133 h => ?_)
 refine aQ h (fun A j => ∀ v146 v147 v148, j v146 v147 v148 = some r → A (mk [(5, .c (.app 1 (List.map aM v146)))] [(0, .blk 78 [.lit (List.map aJ v147), I v148]), (1, .tok 172 5 (List.length v146))] 2)) (fun v146 v147 v148 h => ?_) (fun j141 Aj141 hj141 h => ?_)
 refine za [4] ?_
 cases h
 exact aG zr
 refine zx fun _ => ?_
 refine zk 3 ?_
 refine zE (.c (I p1)) ?_
 refine zE (.c (Bo (p1 == 13))) ?_
 refine zP (.bool ((p1 == 5) || (p1 == 13))) ?_
 refine zk 1 ?_
 refine zE (.c (.ptr 0 0)) ?_
 obtain ⟨y142, he, h⟩ := aB h
 refine yM (e := [(!((p1 == 5) || (p1 == 13)))]) [(195, .c (.ptr 0 0), some 1)] (F := 15) (As := [.c (.ptr 0 0), .c (I 9)]) (Bs := [.c (.ptr 0 0), .c (I 9)]) (σ := [(0, 0)]) (k := 1) (Gc := [(0, .blk 78 [.lit (List.map aJ v139), I v140])]) (Gf := [(0, .blk 78 [.lit (List.map aJ y142.2.L), I y142.2.At])]) (r := .c (I y142.1)) (v := .c (I y142.1)) (by kernel_rfl) (by kernel_rfl) (by kernel_rfl) (by kernel_rfl) (by kernel_rfl) (by kernel_rfl) cL ⟨.inr ⟨(by kernel_rfl), (by kernel_rfl)⟩, ⟨.inl (by kernel_rfl), trivial⟩⟩ (fun hg => bH n _ _ y142 (Ru he hg)) (by kernel_rfl) (by kernel_rfl) (by kernel_rfl) (fun hg => by rw [Ts he hg]; kernel_rfl) (by kernel_rfl) rfl rfl rfl ?_
 clear he
 refine zE (.c (Bo (y142.1 == 0))) ?_
 refine zP (.bool (((p1 == 5) || (p1 == 13)) || (y142.1 == 0))) ?_
 refine ze [0, 5, 198] ?_
 refine zi h (fun h => ?_) fun h => ?_
 refine aT ?_
 refine zy fun _ => ?_
 refine zk 2 ?_
 obtain ⟨y143, he, h⟩ := aB h
 refine zo [(0, 0)] cL (bH n _ _ y143 he) ?_
 clear he
 obtain ⟨y144, he, h⟩ := aB h
 refine zc yJ (jE n _ y144 he) ?_
 clear he
 refine zk 2 ?_
 obtain ⟨l145, he, h⟩ := aB h
 refine cB (enc := aM) (l := v138) (els := [(aZ.mk (⟨#[119, 105, 100, 116, 104]⟩ : ByteArray) y144)]) (r := l145) (old := some 1) (e := 172) (sz := 5) (bytes := 72) (k := (List.length v138)) (nm := 19) he (by kernel_rfl) (by kernel_rfl) (fun x => by kernel_rfl) (by kernel_rfl) (by kernel_rfl) rfl rfl rfl ?_
 clear he
 refine zk 1 ?_
 refine bL ?_
 exact dI (zv [(0, 0), (19, 1)] [5] 2) (hj141 _ _ _ h)
 exact aI (zv [(0, 0), (1, 1)] [5] 2) (aC (hj141 _ _ _ h))
 refine zx fun _ => ?_
 refine zk 1 ?_
 obtain ⟨y134, he, h⟩ := aB h
 refine zo [(0, 0)] cL (bH n _ _ y134 he) ?_
 clear he
 refine zk 1 ?_
 refine ze [0, 1, 5, 180] ?_
 refine zi h (fun h => ?_) fun h => ?_
 refine aT ?_
 refine zy fun _ => ?_
 refine zk 2 ?_
 obtain ⟨y135, he, h⟩ := aB h
 refine zo [(0, 0)] cL (bH n _ _ y135 he) ?_
 clear he
 obtain ⟨y136, he, h⟩ := aB h
 refine zc yJ (jE n _ y136 he) ?_
 clear he
 refine zk 2 ?_
 obtain ⟨l137, he, h⟩ := aB h
 refine cB (enc := aM) (l := v130) (els := [(aZ.mk (⟨#[116, 117, 114, 110]⟩ : ByteArray) y136)]) (r := l137) (old := some 1) (e := 172) (sz := 5) (bytes := 72) (k := (List.length v130)) (nm := 11) he (by kernel_rfl) (by kernel_rfl) (fun x => by kernel_rfl) (by kernel_rfl) (by kernel_rfl) rfl rfl rfl ?_
 clear he
 refine zk 1 ?_
 refine bL ?_
 exact dI (zv [(0, 0), (11, 1)] [0, 1, 5] 2) (hj133 _ _ _ h)
 exact aI (zv [(0, 0), (1, 1)] [0, 1, 5] 2) (aC (hj133 _ _ _ h))
 refine zx fun _ => ?_
 refine zk 1 ?_
 obtain ⟨y125, he, h⟩ := aB h
 refine zo [(0, 0)] cL (bH n _ _ y125 he) ?_
 clear he
 refine zk 1 ?_
 refine ze [0, 1, 5, 167] ?_
 refine zi h (fun h => ?_) fun h => ?_
 refine aT ?_
 refine zy fun _ => ?_
 refine zk 3 ?_
 obtain ⟨y126, he, h⟩ := aB h
 refine zo [(0, 0)] Zk (Ki n _ _ y126 he) ?_
 clear he
 obtain ⟨y127, he, h⟩ := aB h
 refine zo [(0, 0)] Xs (Ir n _ _ y127 he) ?_
 clear he
 refine zw (v := .c (Sx (runesBytes y127.1))) [] (qS (ns := y127.1) (by kernel_rfl)) ?_
 obtain ⟨y128, he, h⟩ := aB h
 refine zc Ec (mV n _ y128 he) ?_
 clear he
 refine zk 2 ?_
 obtain ⟨l129, he, h⟩ := aB h
 refine cB (enc := aM) (l := v121) (els := [(aZ.mk (⟨#[116, 101, 120, 116]⟩ : ByteArray) y128)]) (r := l129) (old := some 1) (e := 172) (sz := 5) (bytes := 72) (k := (List.length v121)) (nm := 14) he (by kernel_rfl) (by kernel_rfl) (fun x => by kernel_rfl) (by kernel_rfl) (by kernel_rfl) rfl rfl rfl ?_
 clear he
 refine zk 1 ?_
 refine bL ?_
 exact dI (zv [(0, 0), (14, 1)] [0, 1, 5] 2) (hj124 _ _ _ h)
 exact aI (zv [(0, 0), (1, 1)] [0, 1, 5] 2) (aC (hj124 _ _ _ h))
 refine zx fun _ => ?_
 refine zk 1 ?_
 obtain ⟨y117, he, h⟩ := aB h
 refine zo [(0, 0)] cL (bH n _ _ y117 he) ?_
 clear he
 refine zk 1 ?_
 refine ze [0, 1, 5, 157] ?_
 refine zi h (fun h => ?_) fun h => ?_
 refine aT ?_
 refine zy fun _ => ?_
 refine zk 2 ?_
 obtain ⟨y118, he, h⟩ := aB h
 refine zo [(0, 0)] cL (bH n _ _ y118 he) ?_
 clear he
 obtain ⟨y119, he, h⟩ := aB h
 refine zc yJ (jE n _ y119 he) ?_
 clear he
 refine zk 2 ?_
 obtain ⟨l120, he, h⟩ := aB h
 refine cB (enc := aM) (l := v113) (els := [(aZ.mk (⟨#[115, 112, 97, 110]⟩ : ByteArray) y119)]) (r := l120) (old := some 1) (e := 172) (sz := 5) (bytes := 72) (k := (List.length v113)) (nm := 11) he (by kernel_rfl) (by kernel_rfl) (fun x => by kernel_rfl) (by kernel_rfl) (by kernel_rfl) rfl rfl rfl ?_
 clear he
 refine zk 1 ?_
 refine bL ?_
 exact dI (zv [(0, 0), (11, 1)] [0, 1, 5] 2) (hj116 _ _ _ h)
 exact aI (zv [(0, 0), (1, 1)] [0, 1, 5] 2) (aC (hj116 _ _ _ h))
 refine zx fun _ => ?_
 refine zk 1 ?_
 obtain ⟨y109, he, h⟩ := aB h
 refine zo [(0, 0)] cL (bH n _ _ y109 he) ?_
 clear he
 refine zk 1 ?_
 refine ze [0, 1, 5, 147] ?_
 refine zi h (fun h => ?_) fun h => ?_
 refine aT ?_
 refine zy fun _ => ?_
 refine zk 2 ?_
 obtain ⟨y110, he, h⟩ := aB h
 refine zo [(0, 0)] cL (bH n _ _ y110 he) ?_
 clear he
 obtain ⟨y111, he, h⟩ := aB h
 refine zc yJ (jE n _ y111 he) ?_
 clear he
 refine zk 2 ?_
 obtain ⟨l112, he, h⟩ := aB h
 refine cB (enc := aM) (l := v105) (els := [(aZ.mk (⟨#[115, 99, 97, 108, 101]⟩ : ByteArray) y111)]) (r := l112) (old := some 1) (e := 172) (sz := 5) (bytes := 72) (k := (List.length v105)) (nm := 11) he (by kernel_rfl) (by kernel_rfl) (fun x => by kernel_rfl) (by kernel_rfl) (by kernel_rfl) rfl rfl rfl ?_
 clear he
 refine zk 1 ?_
 refine bL ?_
 exact dI (zv [(0, 0), (11, 1)] [0, 1, 5] 2) (hj108 _ _ _ h)
 exact aI (zv [(0, 0), (1, 1)] [0, 1, 5] 2) (aC (hj108 _ _ _ h))
 refine zx fun _ => ?_
 refine zk 1 ?_
 obtain ⟨y102, he, h⟩ := aB h
 refine zo [(0, 0)] cL (bH n _ _ y102 he) ?_
 clear he
 refine zk 1 ?_
 refine ze [0, 1, 5, 139] ?_
 refine zi h (fun h => ?_) fun h => ?_
 refine aT ?_
 refine zy fun _ => ?_
 refine zk 1 ?_
 obtain ⟨y103, he, h⟩ := aB h
 refine zc Hn (pD n _ y103 he) ?_
 clear he
 refine zk 2 ?_
 obtain ⟨l104, he, h⟩ := aB h
 refine cB (enc := aM) (l := v98) (els := [(aZ.mk (⟨#[112, 105, 110, 110, 101, 100]⟩ : ByteArray) y103)]) (r := l104) (old := some 1) (e := 172) (sz := 5) (bytes := 72) (k := (List.length v98)) (nm := 9) he (by kernel_rfl) (by kernel_rfl) (fun x => by kernel_rfl) (by kernel_rfl) (by kernel_rfl) rfl rfl rfl ?_
 clear he
 refine zk 1 ?_
 refine bL ?_
 exact dI (zv [(0, 0), (9, 1)] [0, 1, 5] 2) (hj101 _ _ _ h)
 exact aI (zv [(0, 0), (1, 1)] [0, 1, 5] 2) (aC (hj101 _ _ _ h))
 refine zx fun _ => ?_
 refine zk 1 ?_
 obtain ⟨y93, he, h⟩ := aB h
 refine zo [(0, 0)] cL (bH n _ _ y93 he) ?_
 clear he
 refine zk 1 ?_
 refine ze [0, 1, 5, 124] ?_
 refine zi h (fun h => ?_) fun h => ?_
 refine aT ?_
 refine zy fun _ => ?_
 refine zk 2 ?_
 obtain ⟨y94, he, h⟩ := aB h
 refine zo [(0, 0)] cL (bH n _ _ y94 he) ?_
 clear he
 refine zk 3 ?_
 refine zw (v := .c (Sx (cX [(IntKind.wrap .u8 (IntKind.wrap .i64 (97 + y94.1)))]))) [] (lO (ns := [(IntKind.wrap .u8 (IntKind.wrap .i64 (97 + y94.1)))]) (by kernel_rfl)) ?_
 obtain ⟨s95, he, h⟩ := aB h
 refine zw (v := .c (Sx s95)) [] (Hv (p := (⟨#[107]⟩ : ByteArray)) (q := (cX [(IntKind.wrap .u8 (IntKind.wrap .i64 (97 + y94.1)))])) he (by kernel_rfl)) ?_
 clear he
 obtain ⟨y96, he, h⟩ := aB h
 refine zc Ec (mV n _ y96 he) ?_
 clear he
 refine zk 2 ?_
 obtain ⟨l97, he, h⟩ := aB h
 refine cB (enc := aM) (l := v89) (els := [(aZ.mk (⟨#[108, 101, 102, 116]⟩ : ByteArray) y96)]) (r := l97) (old := some 1) (e := 172) (sz := 5) (bytes := 72) (k := (List.length v89)) (nm := 16) he (by kernel_rfl) (by kernel_rfl) (fun x => by kernel_rfl) (by kernel_rfl) (by kernel_rfl) rfl rfl rfl ?_
 clear he
 refine zk 1 ?_
 refine bL ?_
 exact dI (zv [(0, 0), (16, 1)] [0, 1, 5] 2) (hj92 _ _ _ h)
 exact aI (zv [(0, 0), (1, 1)] [0, 1, 5] 2) (aC (hj92 _ _ _ h))
 refine zx fun _ => ?_
 refine zk 1 ?_
 obtain ⟨y85, he, h⟩ := aB h
 refine zo [(0, 0)] cL (bH n _ _ y85 he) ?_
 clear he
 refine zk 1 ?_
 refine ze [0, 1, 5, 114] ?_
 refine zi h (fun h => ?_) fun h => ?_
 refine aT ?_
 refine zy fun _ => ?_
 refine zk 2 ?_
 obtain ⟨y86, he, h⟩ := aB h
 refine zo [(0, 0)] cL (bH n _ _ y86 he) ?_
 clear he
 obtain ⟨y87, he, h⟩ := aB h
 refine zc Hn (pD n _ y87 he) ?_
 clear he
 refine zk 2 ?_
 obtain ⟨l88, he, h⟩ := aB h
 refine cB (enc := aM) (l := v81) (els := [(aZ.mk (⟨#[104, 105, 100, 100, 101, 110]⟩ : ByteArray) y87)]) (r := l88) (old := some 1) (e := 172) (sz := 5) (bytes := 72) (k := (List.length v81)) (nm := 11) he (by kernel_rfl) (by kernel_rfl) (fun x => by kernel_rfl) (by kernel_rfl) (by kernel_rfl) rfl rfl rfl ?_
 clear he
 refine zk 1 ?_
 refine bL ?_
 exact dI (zv [(0, 0), (11, 1)] [0, 1, 5] 2) (hj84 _ _ _ h)
 exact aI (zv [(0, 0), (1, 1)] [0, 1, 5] 2) (aC (hj84 _ _ _ h))
 refine zx fun _ => ?_
 refine zk 3 ?_
 refine zE (.c (I p1)) ?_
 refine zE (.c (Bo (p1 == 13))) ?_
 refine zP (.bool ((p1 == 5) || (p1 == 13))) ?_
 refine zk 1 ?_
 refine zE (.c (.ptr 0 0)) ?_
 obtain ⟨y77, he, h⟩ := aB h
 refine yM (e := [(!((p1 == 5) || (p1 == 13)))]) [(101, .c (.ptr 0 0), some 1)] (F := 15) (As := [.c (.ptr 0 0), .c (I 9)]) (Bs := [.c (.ptr 0 0), .c (I 9)]) (σ := [(0, 0)]) (k := 1) (Gc := [(0, .blk 78 [.lit (List.map aJ v74), I v75])]) (Gf := [(0, .blk 78 [.lit (List.map aJ y77.2.L), I y77.2.At])]) (r := .c (I y77.1)) (v := .c (I y77.1)) (by kernel_rfl) (by kernel_rfl) (by kernel_rfl) (by kernel_rfl) (by kernel_rfl) (by kernel_rfl) cL ⟨.inr ⟨(by kernel_rfl), (by kernel_rfl)⟩, ⟨.inl (by kernel_rfl), trivial⟩⟩ (fun hg => bH n _ _ y77 (Ru he hg)) (by kernel_rfl) (by kernel_rfl) (by kernel_rfl) (fun hg => by rw [Ts he hg]; kernel_rfl) (by kernel_rfl) rfl rfl rfl ?_
 clear he
 refine zE (.c (Bo (y77.1 == 0))) ?_
 refine zP (.bool (((p1 == 5) || (p1 == 13)) || (y77.1 == 0))) ?_
 refine ze [0, 1, 5, 104] ?_
 refine zi h (fun h => ?_) fun h => ?_
 refine aT ?_
 refine zy fun _ => ?_
 refine zk 2 ?_
 obtain ⟨y78, he, h⟩ := aB h
 refine zo [(0, 0)] cL (bH n _ _ y78 he) ?_
 clear he
 obtain ⟨y79, he, h⟩ := aB h
 refine zc yJ (jE n _ y79 he) ?_
 clear he
 refine zk 2 ?_
 obtain ⟨l80, he, h⟩ := aB h
 refine cB (enc := aM) (l := v73) (els := [(aZ.mk (⟨#[104, 101, 105, 103, 104, 116]⟩ : ByteArray) y79)]) (r := l80) (old := some 1) (e := 172) (sz := 5) (bytes := 72) (k := (List.length v73)) (nm := 19) he (by kernel_rfl) (by kernel_rfl) (fun x => by kernel_rfl) (by kernel_rfl) (by kernel_rfl) rfl rfl rfl ?_
 clear he
 refine zk 1 ?_
 refine bL ?_
 exact dI (zv [(0, 0), (19, 1)] [0, 1, 5] 2) (hj76 _ _ _ h)
 exact aI (zv [(0, 0), (1, 1)] [0, 1, 5] 2) (aC (hj76 _ _ _ h))
 refine zx fun _ => ?_
 refine zk 1 ?_
 obtain ⟨y69, he, h⟩ := aB h
 refine zo [(0, 0)] cL (bH n _ _ y69 he) ?_
 clear he
 refine zk 1 ?_
 refine ze [0, 1, 5, 86] ?_
 refine zi h (fun h => ?_) fun h => ?_
 refine aT ?_
 refine zy fun _ => ?_
 refine zk 2 ?_
 obtain ⟨y70, he, h⟩ := aB h
 refine zo [(0, 0)] cL (bH n _ _ y70 he) ?_
 clear he
 obtain ⟨y71, he, h⟩ := aB h
 refine zc Hn (pD n _ y71 he) ?_
 clear he
 refine zk 2 ?_
 obtain ⟨l72, he, h⟩ := aB h
 refine cB (enc := aM) (l := v65) (els := [(aZ.mk (⟨#[100, 105, 115, 97, 98, 108, 101, 100]⟩ : ByteArray) y71)]) (r := l72) (old := some 1) (e := 172) (sz := 5) (bytes := 72) (k := (List.length v65)) (nm := 11) he (by kernel_rfl) (by kernel_rfl) (fun x => by kernel_rfl) (by kernel_rfl) (by kernel_rfl) rfl rfl rfl ?_
 clear he
 refine zk 1 ?_
 refine bL ?_
 exact dI (zv [(0, 0), (11, 1)] [0, 1, 5] 2) (hj68 _ _ _ h)
 exact aI (zv [(0, 0), (1, 1)] [0, 1, 5] 2) (aC (hj68 _ _ _ h))
 refine zx fun _ => ?_
 refine zk 1 ?_
 obtain ⟨y36, he, h⟩ := aB h
 refine zo [(0, 0)] cL (bH n _ _ y36 he) ?_
 clear he
 refine zk 1 ?_
 refine ze [0, 1, 5, 60] ?_
 refine zi h (fun h => ?_) fun h => ?_
 refine za [0, 1, 5, 6] ?_
 refine aQ h (fun A j => ∀ v61 v62 v63, j v61 v62 v63 = some r → A (mk [(0, .c (.ptr 0 0)), (1, .c (I p1)), (5, .c (.app 1 (List.map aM v32))), (6, .c (.ptr 2 0))] [(0, .blk 78 [.lit (List.map aJ v61), I v62]), (1, .tok 172 5 (List.length v32)), (2, .blk 152 [I 4, I 0, Sx (⟨#[]⟩ : ByteArray), .app 3 (List.map aO v63)]), (3, .tok 152 4 (List.length v63))] 4)) (fun v61 v62 v63 h => ?_) (fun j37 Aj37 hj37 h => ?_)
 refine aT ?_
 refine zy fun _ => ?_
 refine zk 4 ?_
 obtain ⟨l64, he, h⟩ := aB h
 refine cB (enc := aM) (l := v32) (els := [(aZ.mk (⟨#[99, 111, 108, 117, 109, 110, 115]⟩ : ByteArray) (aH.mk 4 0 (⟨#[]⟩ : ByteArray) v63))]) (r := l64) (old := some 1) (e := 172) (sz := 5) (bytes := 72) (k := (List.length v32)) (nm := 8) he (by kernel_rfl) (by kernel_rfl) (fun x => by kernel_rfl) (by kernel_rfl) (by kernel_rfl) rfl rfl rfl ?_
 clear he
 refine zk 1 ?_
 refine bL ?_
 exact dI (zv [(0, 0), (8, 1)] [0, 1, 5] 2) (hj35 _ _ _ h)
 refine zx fun _ => ?_
 refine zk 1 ?_
 obtain ⟨y38, he, h⟩ := aB h
 refine zo [(0, 0)] Nn (oS n _ _ _ y38 he) ?_
 clear he
 refine zk 1 ?_
 refine ze [0, 1, 5, 6, 7] ?_
 refine aF ?_
 refine bA (fun n s => ∃ v46 v47 v48 v49, jO j37 p1 v32 n v46 v47 v48 v49 = some r ∧ s = mk [(0, .c (.ptr 0 0)), (1, .c (I p1)), (5, .c (.app 1 (List.map aM v32))), (6, .c (.ptr 2 0)), (7, .c (I v46))] [(0, .blk 78 [.lit (List.map aJ v47), I v48]), (1, .tok 172 5 (List.length v32)), (2, .blk 152 [I 4, I 0, Sx (⟨#[]⟩ : ByteArray), .app 3 (List.map aO v49)]), (3, .tok 152 4 (List.length v49))] 4) n _ (dU.trans (lB (n := 6) (T0 := 152) (l := [I 4, I 0, Sx (⟨#[]⟩ : ByteArray), bY]) (G2 := [(0, .blk 78 [.lit (List.map aJ y38.2.L), I y38.2.At]), (1, .tok 172 5 (List.length v32)), (6, .blk 152 [I 4, I 0, Sx (⟨#[]⟩ : ByteArray), .app 11 (List.map aO ([] : List aH))]), (11, .tok 152 4 (List.length ([] : List aH)))]) (lim2 := 12) 3 152 4 (by kernel_rfl) (by kernel_rfl) (by kernel_rfl) (by kernel_rfl)) (zv [(0, 0), (1, 1), (6, 2), (11, 3)] [0, 1, 5, 6, 7] 4)) ⟨_, _, _, _, h, rfl⟩ (fun s ⟨v46, v47, v48, v49, h, _⟩ => nomatch h) ?_
 rintro n s ⟨v46, v47, v48, v49, h, rfl⟩
 rw [jO] at h
 refine aK ?_
 refine za [0, 1, 5, 6, 7, 65] ?_
 refine zi h (fun h => ?_) fun h => ?_
 refine aC ?_
 refine aK ?_
 refine aF ?_
 refine Lh [[], [0], [], [], [3], [2, 4, 3], [5, 2, 4, 3], [6, 4, 5, 2, 3], [7, 6, 4, 5, 2, 3], [1, 8, 7, 0, 6, 4, 5, 2, 3], [0, 1, 2, 3, 4, 5, 6, 7, 8, 9], [10, 9, 0, 1, 2, 3, 4, 5, 6, 7, 8]] fun _ => ?_
 refine zk 4 ?_
 obtain ⟨y50, he, h⟩ := aB h
 refine zo [(0, 0)] cL (bH n _ _ y50 he) ?_
 clear he
 obtain ⟨e51, he, h⟩ := aB h
 refine zd aJ he ?_
 clear he
 refine zk 1 ?_
 obtain ⟨y52, he, h⟩ := aB h
 refine zc yJ (jE n _ y52 he) ?_
 clear he
 refine pO (e := 152) (sz := 4) (len := 1) (r := [I y52.Kind, I y52.N, Sx y52.S, .lit (List.map aO y52.L)]) (l' := List.map aO [y52]) (nm := 14) (by kernel_rfl) (by simp only [List.map_cons, List.map_nil, dO]; kernel_rfl) (by kernel_rfl) (by kernel_rfl) rfl rfl rfl ?_
 obtain ⟨l53, he, h⟩ := aB h
 refine cB (enc := aO) (l := v49) (els := [y52]) (r := l53) (old := some 3) (e := 152) (sz := 4) (bytes := 56) (k := (List.length v49)) (nm := 15) he (by kernel_rfl) (by kernel_rfl) (fun x => by rw [dO]; rfl) (by kernel_rfl) (by kernel_rfl) rfl rfl rfl ?_
 clear he
 refine zk 2 ?_
 refine bL ?_
 refine aT ?_
 refine zb ?_
 exact dI (zv [(0, 0), (1, 1), (2, 2), (15, 3)] [0, 1, 5, 6, 7] 4) (⟨_, _, _, _, h, rfl⟩)
 exact aI (zv [(0, 0), (1, 1), (2, 2), (3, 3)] [0, 1, 5, 6] 4) (bD (hj37 _ _ _ h))
 exact aI (zv [(0, 0), (1, 1)] [0, 1, 5] 2) (aC (hj35 _ _ _ h))
 refine zx fun _ => ?_
 refine zk 1 ?_
 obtain ⟨y28, he, h⟩ := aB h
 refine zo [(0, 0)] cL (bH n _ _ y28 he) ?_
 clear he
 refine zk 1 ?_
 refine ze [0, 1, 5, 50] ?_
 refine zi h (fun h => ?_) fun h => ?_
 refine aT ?_
 refine zy fun _ => ?_
 refine zk 2 ?_
 obtain ⟨y29, he, h⟩ := aB h
 refine zo [(0, 0)] Rn (uJ n _ y29 he) ?_
 clear he
 obtain ⟨y30, he, h⟩ := aB h
 refine zc Ec (mV n _ y30 he) ?_
 clear he
 refine zk 2 ?_
 obtain ⟨l31, he, h⟩ := aB h
 refine cB (enc := aM) (l := v24) (els := [(aZ.mk (⟨#[99, 108, 97, 115, 115]⟩ : ByteArray) y30)]) (r := l31) (old := some 1) (e := 172) (sz := 5) (bytes := 72) (k := (List.length v24)) (nm := 11) he (by kernel_rfl) (by kernel_rfl) (fun x => by kernel_rfl) (by kernel_rfl) (by kernel_rfl) rfl rfl rfl ?_
 clear he
 refine zk 1 ?_
 refine bL ?_
 exact dI (zv [(0, 0), (11, 1)] [0, 1, 5] 2) (hj27 _ _ _ h)
 exact aI (zv [(0, 0), (1, 1)] [0, 1, 5] 2) (aC (hj27 _ _ _ h))
 refine zx fun _ => ?_
 refine zk 1 ?_
 obtain ⟨y20, he, h⟩ := aB h
 refine zo [(0, 0)] cL (bH n _ _ y20 he) ?_
 clear he
 refine zk 1 ?_
 refine ze [0, 1, 5, 40] ?_
 refine zi h (fun h => ?_) fun h => ?_
 refine aT ?_
 refine zy fun _ => ?_
 refine zk 2 ?_
 obtain ⟨y21, he, h⟩ := aB h
 refine zo [(0, 0)] cL (bH n _ _ y21 he) ?_
 clear he
 obtain ⟨y22, he, h⟩ := aB h
 refine zc Hn (pD n _ y22 he) ?_
 clear he
 refine zk 2 ?_
 obtain ⟨l23, he, h⟩ := aB h
 refine cB (enc := aM) (l := v16) (els := [(aZ.mk (⟨#[99, 104, 101, 99, 107, 101, 100]⟩ : ByteArray) y22)]) (r := l23) (old := some 1) (e := 172) (sz := 5) (bytes := 72) (k := (List.length v16)) (nm := 11) he (by kernel_rfl) (by kernel_rfl) (fun x => by kernel_rfl) (by kernel_rfl) (by kernel_rfl) rfl rfl rfl ?_
 clear he
 refine zk 1 ?_
 refine bL ?_
 exact dI (zv [(0, 0), (11, 1)] [0, 1, 5] 2) (hj19 _ _ _ h)
 exact aI (zv [(0, 0), (1, 1)] [0, 1, 5] 2) (aC (hj19 _ _ _ h))
 refine zx fun _ => ?_
 refine zk 1 ?_
 obtain ⟨y11, he, h⟩ := aB h
 refine zo [(0, 0)] cL (bH n _ _ y11 he) ?_
 clear he
 refine zk 1 ?_
 refine ze [0, 1, 5, 25] ?_
 refine zi h (fun h => ?_) fun h => ?_
 refine aT ?_
 refine zy fun _ => ?_
 refine zk 2 ?_
 obtain ⟨y12, he, h⟩ := aB h
 refine zo [(0, 0)] cL (bH n _ _ y12 he) ?_
 clear he
 refine zk 3 ?_
 refine zw (v := .c (Sx (cX [(IntKind.wrap .u8 (IntKind.wrap .i64 (97 + y12.1)))]))) [] (lO (ns := [(IntKind.wrap .u8 (IntKind.wrap .i64 (97 + y12.1)))]) (by kernel_rfl)) ?_
 obtain ⟨s13, he, h⟩ := aB h
 refine zw (v := .c (Sx s13)) [] (Hv (p := (⟨#[107]⟩ : ByteArray)) (q := (cX [(IntKind.wrap .u8 (IntKind.wrap .i64 (97 + y12.1)))])) he (by kernel_rfl)) ?_
 clear he
 obtain ⟨y14, he, h⟩ := aB h
 refine zc Ec (mV n _ y14 he) ?_
 clear he
 refine zk 2 ?_
 obtain ⟨l15, he, h⟩ := aB h
 refine cB (enc := aM) (l := v7) (els := [(aZ.mk (⟨#[97, 108, 105, 103, 110, 108, 101, 102, 116]⟩ : ByteArray) y14)]) (r := l15) (old := some 1) (e := 172) (sz := 5) (bytes := 72) (k := (List.length v7)) (nm := 16) he (by kernel_rfl) (by kernel_rfl) (fun x => by kernel_rfl) (by kernel_rfl) (by kernel_rfl) rfl rfl rfl ?_
 clear he
 refine zk 1 ?_
 refine bL ?_
 exact dI (zv [(0, 0), (16, 1)] [0, 1, 5] 2) (hj10 _ _ _ h)
 exact aI (zv [(0, 0), (1, 1)] [0, 1, 5] 2) (aC (hj10 _ _ _ h))
 refine zx fun _ => ?_
 refine zk 1 ?_
 obtain ⟨y2, he, h⟩ := aB h
 refine zo [(0, 0)] cL (bH n _ _ y2 he) ?_
 clear he
 refine zk 1 ?_
 refine ze [0, 1, 5, 10] ?_
 refine zi h (fun h => ?_) fun h => ?_
 refine aT ?_
 refine zy fun _ => ?_
 refine zk 2 ?_
 obtain ⟨y3, he, h⟩ := aB h
 refine zo [(0, 0)] cL (bH n _ _ y3 he) ?_
 clear he
 refine zk 3 ?_
 refine zw (v := .c (Sx (cX [(IntKind.wrap .u8 (IntKind.wrap .i64 (97 + y3.1)))]))) [] (lO (ns := [(IntKind.wrap .u8 (IntKind.wrap .i64 (97 + y3.1)))]) (by kernel_rfl)) ?_
 obtain ⟨s4, he, h⟩ := aB h
 refine zw (v := .c (Sx s4)) [] (Hv (p := (⟨#[107]⟩ : ByteArray)) (q := (cX [(IntKind.wrap .u8 (IntKind.wrap .i64 (97 + y3.1)))])) he (by kernel_rfl)) ?_
 clear he
 obtain ⟨y5, he, h⟩ := aB h
 refine zc Ec (mV n _ y5 he) ?_
 clear he
 refine zk 2 ?_
 obtain ⟨l6, he, h⟩ := aB h
 refine cB (enc := aM) (l := ([] : List aZ)) (els := [(aZ.mk (⟨#[97, 98, 111, 118, 101]⟩ : ByteArray) y5)]) (r := l6) (old := none) (e := 172) (sz := 5) (bytes := 72) (k := 0) (nm := 17) he (by kernel_rfl) (by kernel_rfl) (fun x => by kernel_rfl) (by kernel_rfl) (by kernel_rfl) rfl rfl rfl ?_
 clear he
 refine zk 1 ?_
 refine bL ?_
 exact dI (zv [(0, 0), (17, 1)] [0, 1, 5] 2) (hj1 _ _ _ h)
 exact aI (dU.trans (mJ (L2 := [(0, .c (.ptr 0 0)), (1, .c (I p1)), (5, .c (.app 6 (List.map aM ([] : List aZ)))), (10, .c (Bo (y2.1 == 0)))]) (G2 := [(0, .blk 78 [.lit (List.map aJ y2.2.L), I y2.2.At]), (6, .tok 172 5 (List.length ([] : List aZ)))]) (lim2 := 7) 5 172 5 (by kernel_rfl) (by kernel_rfl) (by kernel_rfl) (by kernel_rfl)) (zv [(0, 0), (6, 1)] [0, 1, 5] 2)) (aC (hj1 _ _ _ h))
end Go.Proofs.YtojkihhnioeggaaGreatDoor.S
