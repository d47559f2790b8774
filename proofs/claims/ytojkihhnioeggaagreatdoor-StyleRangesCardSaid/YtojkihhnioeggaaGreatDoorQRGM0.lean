import Derived.Test.YtojkihhnioeggaaGreatDoorQRGVs
set_option linter.unusedVariables false
set_option linter.unusedSimpArgs false
set_option maxRecDepth 100000
set_option maxHeartbeats 4000000
namespace Go.Proofs.YtojkihhnioeggaaGreatDoor.S
open Go Go.Bm
abbrev A0 (a b) := (0, aX.blk 78 [CV.lit (List.map aO a), I b])
abbrev A1 (a b c : Int) := (decide (a < b)) || (decide (a > c))
abbrev A2 (a b c) := ((a, AV.c (CV.ptr b c)) : Nat × _)
abbrev A3 (a : iY) (b c d e f g) := aX.blk 95 [CV.lmap true (List.map (eM (Value.int .i64) aM) a.nodes), CV.lmap false (List.map (eM (Value.int .i64) eS) a.class_), CV.lmap false (List.map (eM (Value.int .i64) aO) a.states), CV.lit (List.map bG b), CV.lit (List.map aO c), CV.lit (List.map cI d), Bo e, Bo f, I g]
abbrev A4 (a : aG) := aX.blk 70 [I a.Kind, Sx a.Key, CV.lit (List.map aQ a.Attrs), CV.lit (List.map aF a.Actions), CV.lit (List.map bB a.Kids)]
abbrev A5 (a : aA) := aX.blk 52 [I a.x0, I a.x1, I a.x2, I a.x3, I a.x4, I a.x5, I a.x6, I a.x7, I a.x8, I a.x9, I a.x10, I a.x11, I a.x12, I a.x13, I a.x14, I a.x15, I a.x16, I a.x17, I a.x18, I a.x19, I a.x20, I a.x21]
abbrev A6 := Value.int .i64
abbrev A7 (a) := AV.c (I a)
abbrev A8 (a : aG) := AV.agg [I a.Kind, Sx a.Key, CV.lit (List.map aQ a.Attrs), CV.lit (List.map aF a.Actions), CV.lit (List.map bB a.Kids)]
abbrev A9 (a : bT) := aX.blk 63 [I a.Kind, Sx a.Class, I a.States, I a.UnderKind, Sx a.UnderClass, CV.lit (List.map bU a.Decls)]
abbrev B0 (a : iY) := (0, aX.blk 92 [CV.lmap true (List.map (eM (A6) aM) a.nodes), CV.lmap false (List.map (eM (A6) eS) a.class_), CV.lmap false (List.map (eM (A6) aO) a.states)])
abbrev B1 (a : bA) := aX.blk 27 [I a.Root, I a.Next, CV.lit (List.map aM a.Nodes)]
abbrev B2 (a : aD) := AV.agg [I a.Kind, I a.N, Sx a.S, CV.lit (List.map aL a.L)]
abbrev B3 (a) := AV.c (Bo a)
abbrev B4 (a : aA) := AV.c (CV.imm [I a.x0, I a.x1, I a.x2, I a.x3, I a.x4, I a.x5, I a.x6, I a.x7, I a.x8, I a.x9, I a.x10, I a.x11, I a.x12, I a.x13, I a.x14, I a.x15, I a.x16, I a.x17, I a.x18, I a.x19, I a.x20, I a.x21])
abbrev B5 (a) (b : aA) := CV.imm [I a, I b.x0, I b.x1, I b.x2, I b.x3, I b.x4, I b.x5, I b.x6, I b.x7, I b.x8, I b.x9, I b.x10, I b.x11, I b.x12, I b.x13, I b.x14, I b.x15, I b.x16, I b.x17, I b.x18, I b.x19, I b.x20, I b.x21]
abbrev B6 (a) := CV.lit (List.map aQ a)
abbrev B7 {α3 : Type} (a b c) (d : List α3) := ((a, aX.tok b c (List.length d)) : Nat × _)
abbrev B8 (a) := CV.lmap true (List.map (eM (A6) aM) a)
abbrev B9 (a : aU) := AV.agg [I a.Kind, CV.lit (List.map bF a.Of)]
abbrev C0 (a) := CV.lit (List.map aF a)
abbrev C1 (a) := CV.lit (List.map aO a)
abbrev C2 (a) := CV.lit (List.map aL a)
abbrev C3 (a b) := AV.c (CV.ptr a b)
abbrev C4 (a b : Int) := IntKind.wrap .i64 (a + b)
abbrev C5 (a b c d) := mk [A2 0 0 0, (1, A7 a), (5, AV.c (CV.app 1 (List.map aQ b)))] [A0 c d, B7 1 172 5 b] 2
abbrev C6 := aX.blk 52 [I 0, I 0, I 0, I 0, I 0, I 0, I 0, I 0, I 0, I 0, I 0, I 0, I 0, I 0, I 0, I 0, I 0, I 0, I 0, I 0, I 0, I 0]
abbrev C7 (a b) := ((a, A7 b) : Nat × _)
abbrev C8 (a : aP) := AV.agg [I a.ID, I a.Parent, I a.Kind, Sx a.Key, B6 a.Attrs, C0 a.Actions, C1 a.Kids]
abbrev C9 (a b c : Int) := (decide (a ≥ b)) && (decide (a ≤ c))
abbrev D2 (a) := CV.lmap false (List.map (eM (A6) eS) a)
abbrev D3 (a b : Int) := decide (a < b)
abbrev D4 (a) := CV.lit (List.map bG a)
abbrev D5 (a : aK) := A0 a.L a.At
abbrev D6 (a : aD) := aX.blk 152 [I a.Kind, I a.N, Sx a.S, C2 a.L]
abbrev D7 (a b : Int) := decide (a > b)
abbrev D8 (a : aG) := CV.imm [I a.Kind, Sx a.Key, B6 a.Attrs, C0 a.Actions, CV.lit (List.map bB a.Kids)]
abbrev D9 (a) := CV.lmap false (List.map (eM (A6) aO) a)
abbrev E0 (a b c) := aA.set a b c
abbrev E1 (a : aP) := aX.blk 58 [I a.ID, I a.Parent, I a.Kind, Sx a.Key, B6 a.Attrs, C0 a.Actions, C1 a.Kids]
abbrev E2 (a : bA) := AV.agg [I a.Root, I a.Next, CV.lit (List.map aM a.Nodes)]
abbrev E3 (a) := CV.lit (List.map bF a)
abbrev E4 (a) := AV.c (CV.lit (List.map cV a))
abbrev E5 (a) := AV.c (Sx a)
abbrev E6 (a : bT) := AV.agg [I a.Kind, Sx a.Class, I a.States, I a.UnderKind, Sx a.UnderClass, CV.lit (List.map bU a.Decls)]
abbrev E7 (a) := (0, aX.vec 3 1 (List.map aO a))
abbrev E8 (a : bJ) := aX.blk 81 [I a.Prop_, I a.Source, I a.N, Sx a.Token]
abbrev E9 (a : Int) := IntKind.wrap .i64 (a - 1)
abbrev F0 (a b) := ((a, AV.c (CV.mapr b)) : Nat × _)
abbrev F1 (a b c d e) (f : cQ) := ((a, A3 b c d e f.Dark f.High f.Scale) : Nat × _)
abbrev F2 (a : aA) := AV.agg [I a.x0, I a.x1, I a.x2, I a.x3, I a.x4, I a.x5, I a.x6, I a.x7, I a.x8, I a.x9, I a.x10, I a.x11, I a.x12, I a.x13, I a.x14, I a.x15, I a.x16, I a.x17, I a.x18, I a.x19, I a.x20, I a.x21]
abbrev F3 (a) := A1 a 97 122
abbrev F4 (a) := AV.c (CV.lit (List.map aM a))
abbrev F5 (a) := (0, aX.blk 3 [I a])
abbrev F6 := aX.blk 190 [I 0, cJ]
abbrev F7 (a) := CV.lit (List.map cI a)
abbrev F8 (a : cN) := aX.blk 159 [Sx a.Event, Sx a.Instance, Sx a.Handler, C2 a.Args]
abbrev F9 (a) (b : aD) := CV.imm [Sx a, I b.Kind, I b.N, Sx b.S, C2 b.L]
abbrev G0 (a) := AV.c (CV.fn 38 [CV.imm [D4 a]])
abbrev G3 (a) := CV.lit (List.map bB a)
abbrev G4 (a) := List.map (eM (A6) bU) a
abbrev G5 (a b c) := ((a, aX.blk b [CV.row c]) : Nat × _)
abbrev G6 (a) := aX.vec 58 7 (List.map aM a)
abbrev G7 (a) := IntKind.wrap .u8 (C4 97 a)
abbrev G8 {α0 : Type} (a : List α0) := List.length a
abbrev G9 := A2 0 0 0
abbrev H0 (a) := List.map (eM (A6) aM) a
abbrev H1 := A2 3 0 0
abbrev H3 (a) := (2, A7 (C4 a 1))
abbrev H4 := A2 4 1 0
abbrev H5 (a : aU) := aX.blk 190 [I a.Kind, E3 a.Of]
abbrev H6 (a) := AV.c (U8 a)
abbrev H7 (a) := aX.vec 63 6 (List.map bG a)
abbrev H8 (a b : Int) := decide (a ≤ b)
abbrev H9 (a b : Int) := decide (a ≥ b)
abbrev I0 (a) := A1 a 65 90
abbrev I1 (a) := D7 a 1099511627776
abbrev I2 (a) := CV.lit (List.map cO a)
abbrev I3 (a) := ((a, AV.c (I 0)) : Nat × _)
abbrev I4 (a : aD) := CV.imm [I a.Kind, I a.N, Sx a.S, C2 a.L]
abbrev I5 := A2 2 0 0
abbrev I6 (a b) := B3 (D3 a b)
abbrev I7 (a : cN) := CV.imm [Sx a.Event, Sx a.Instance, Sx a.Handler, C2 a.Args]
abbrev I8 (a b) := ((a, AV.c (C1 b)) : Nat × _)
abbrev I9 := (1, aX.blk 92 [CV.mapr 2, CV.mapr 3, CV.mapr 4])
abbrev J0 (a b c) := ((a, AV.c (CV.app b (List.map nR c))) : Nat × _)
abbrev J1 := AV.c (CV.row 0)
abbrev J2 (a : iY) := AV.agg [B8 a.nodes, D2 a.class_, D9 a.states]
abbrev J3 (a b c d e f g) := aX.blk 58 [I a, I b, I c, Sx d, B6 e, C0 f, C1 g]
abbrev J4 (a : cQ) := aX.blk 38 [Bo a.Dark, Bo a.High, I a.Scale]
abbrev J5 (a) := H8 a 1152921504606846976
abbrev J6 (a b) := CV.app a (List.map bB b)
abbrev J7 (a b) := ((a, AV.c (CV.lit (List.map bU b))) : Nat × _)
abbrev J8 := List (Int × aP)
abbrev J9 (a b) (c : iY) (d e f g h i) := ((a, aX.blk b [B8 c.nodes, D2 c.class_, D9 c.states, D4 d, CV.row e, F7 f, Bo g, Bo h, I i]) : Nat × _)
abbrev K0 (a : aU) := CV.imm [I a.Kind, E3 a.Of]
abbrev K1 (a) := AV.c (C2 a)
abbrev K2 := A2 4 0 0
abbrev K3 (a b) := B3 (D7 a b)
abbrev K4 (a) := A1 a 48 57
abbrev K5 (a) := AV.c (CV.lmap true (G4 a))
abbrev K6 (a b) := CV.app a (List.map aL b)
abbrev K7 (a b) := CV.app a (List.map aF b)
abbrev K8 := aX.blk 97 [I 0, I 0]
abbrev K9 := List Int
abbrev L0 := A2 2 1 0
abbrev L3 := A2 3 2 0
abbrev L4 (a) := List.map (eM (A6) eB) a
abbrev L5 := A2 3 1 0
abbrev L6 := A2 6 1 0
abbrev L7 (a) := List.map (eM Value.string eB) a
abbrev L8 (a) := AV.c (B8 a)
abbrev L9 (a) := A1 a 1 4
abbrev M0 := A2 1 0 0
abbrev M1 (a) := AV.c (C0 a)
def vG  (n : Nat) (p0 : (List Int)) : Option aK := (aR (fun (v3 : List Int) => some (aK.mk v3 0)) (fun (j1 : List Int → Option aK) => (if (decide ((List.length p0 : Int) > 4000)) = true then (Sm p0 0 4000).bind fun (l2 : List Int) => j1 l2 else j1 p0)))
theorem Kp  (n : Nat) (p0 : (K9)) (r : aK) (h : vG n p0 = some r) : dJ E 9 0 [.c (C1 p0)] [] (C3 0 0) [D5 r] := by
 refine gY Tryz.func9 rfl ?_
 unfold vG at h
 refine za [0] ?_
 refine aV h (fun A j => ∀ v3, j v3 = some r → A (mk [I8 0 v3] [] 0)) (fun v3 h => ?_) (fun j1 Aj1 hj1 h => ?_)
 refine za [2] ?_
 have h := Option.some.inj h
 subst h
 refine aJ (xM rfl [(2, 0)] [2] (L2 := [I5]) (G2 := [(0, .blk 78 [C1 v3, I 0])]) (lim2 := 1) (by kernel_rfl)) ?_
 exact aH (Qj (.inl rfl) (by kernel_rfl) (by kernel_rfl))
 refine zx fun _ => ?_
 refine zk 1 ?_
 refine zl aO p0 ?_
 refine zk 1 ?_
 refine ze [0, 5] ?_
 refine zi h (fun h => ?_) fun h => ?_
 refine aY ?_
 refine zy fun _ => ?_
 refine zk 1 ?_
 obtain ⟨l2, he, h⟩ := aB h
 refine zw (v := .c (C1 l2)) [] (Hm (enc := aO) (l := p0) (p := 0) (q := 4000) (sz := 1) he (by kernel_rfl) (fun x => by kernel_rfl)) ?_
 clear he
 refine zk 1 ?_
 refine bY ?_
 exact eU (zv [] [0] 0) (hj1 _ h)
 exact aJ (zv [] [0] 0) (aC (hj1 _ h))
def cF  (n : Nat) (p0 : aK) (p1 : Int) : Option (Int × aK) := (if ((decide (p0.At ≥ (List.length p0.L : Int))) || (decide (p1 < 1))) = true then some (0, p0) else (idx p0.L p0.At).bind fun (e1 : Int) => (nz p1).bind fun (d2 : Int) => (aR (fun (v4 : Int) => some (v4, (aK.mk p0.L (IntKind.wrap .i64 (p0.At + 1))))) (fun (j3 : Int → Option (Int × aK)) => (if (decide ((Int.tmod e1 p1) < 0)) = true then j3 (IntKind.wrap .i64 ((Int.tmod e1 p1) + p1)) else j3 (Int.tmod e1 p1)))))
theorem bD  (n : Nat) (p0 : aK) (p1 : Int) (r : (Int × aK)) (h : cF n p0 p1 = some r) : dJ E 15 1 [C3 0 0, A7 p1] [D5 p0] (A7 r.1) [D5 r.2] := by
 refine gY Tryz.func15 rfl ?_
 unfold cF at h
 refine za [0, 1] ?_
 refine aN ?_
 refine Fu [[], [0], [1, 0], [2, 1, 0], [], [4], [5, 4], [6, 5, 4], [7, 6, 5, 4], [3, 8, 2, 1, 0, 7, 6, 5, 4], [9, 3, 8, 2, 1, 0, 7, 6, 5, 4], [10, 9, 3, 8, 2, 1, 0, 7, 6, 5, 4], [11, 10, 9, 3, 8, 2, 1, 0, 7, 6, 5, 4], [10, 12, 9, 3, 8, 2, 1, 0, 7, 6, 5, 4, 11]] fun _ => ?_
 refine zk 8 ?_
 refine zl aO p0.L ?_
 refine zk 2 ?_
 refine zE (A7 p1) ?_
 refine zE (I6 p1 1) ?_
 refine zP (.bool ((decide (p0.At ≥ (List.length p0.L : Int))) || (D3 p1 1))) ?_
 refine ze [0, 1, 19] ?_
 refine zi h (fun h => ?_) fun h => ?_
 refine za [4] ?_
 cases h
 exact aH zr
 refine aC ?_
 refine Fu [[], [0], [1, 0], [2, 1, 0], [], [4], [5, 4], [6, 5, 4], [3, 7, 2, 1, 0, 6, 5, 4], [8, 3, 7, 2, 1, 0, 6, 5, 4], [], [9, 10, 8, 3, 7, 2, 1, 0, 6, 5, 4], [11, 0, 1, 2, 3, 4, 5, 6, 7, 8, 9, 10]] fun _ => ?_
 refine zk 8 ?_
 obtain ⟨e1, he, h⟩ := aB h
 refine zd aO he ?_
 clear he
 refine zk 2 ?_
 obtain ⟨d2, he, h⟩ := aB h
 refine dR (v := .c (I (Int.tmod e1 p1))) (foot := []) (Uv (k := .i64) (x := e1) (y := p1) he (by kernel_rfl)) (by kernel_rfl) rfl rfl ?_
 clear he
 refine zk 1 ?_
 refine mF [0, 1, 5] (L2 := [G9, C7 1 p1, (5, A7 (Int.tmod e1 p1))]) (G2 := [D5 p0]) 29 ?_
 refine za [1, 5] ?_
 refine aV h (fun A j => ∀ v4, j v4 = some r → A (mk [C7 5 v4] [A0 p0.L (C4 p0.At 1)] 1)) (fun v4 h => ?_) (fun j3 Aj3 hj3 h => ?_)
 refine za [4] ?_
 cases h
 exact aH zr
 refine za [1, 5, 40] ?_
 refine zi h (fun h => ?_) fun h => ?_
 refine aY ?_
 refine zb ?_
 exact eU (zv [(0, 0)] [5] 1) (hj3 _ h)
 exact aJ (zv [(0, 0)] [5] 1) (aC (hj3 _ h))
def nW  (n : Nat) (p0 : ByteArray) : Option aD := some (aD.mk 3 0 p0 ([] : List aD))
theorem nB  (n : Nat) (p0 : ByteArray) (r : aD) (h : nW n p0 = some r) : dJ E 116 0 [E5 p0] [] (B2 r) [] := by
 refine gY Tryz.func116 rfl ?_
 unfold nW at h
 refine za [0, 2] ?_
 refine za [2] ?_
 cases h
 exact aH zr
def pU  (n : Nat) (p0 : Int) : Option aD := some (aD.mk 2 p0 (⟨#[]⟩ : ByteArray) ([] : List aD))
theorem pP  (n : Nat) (p0 : Int) (r : aD) (h : pU n p0 = some r) : dJ E 117 0 [A7 p0] [] (B2 r) [] := by
 refine gY Tryz.func117 rfl ?_
 unfold pU at h
 refine za [0, 2] ?_
 refine za [2] ?_
 cases h
 exact aH zr
def nE  (n : Nat) (p0 : aK) : Option (ByteArray × aK) := (cF n p0 (List.length [(⟨#[97]⟩ : ByteArray), (⟨#[98]⟩ : ByteArray), (⟨#[99]⟩ : ByteArray), (⟨#[100]⟩ : ByteArray), (⟨#[120]⟩ : ByteArray), (⟨#[121]⟩ : ByteArray), (⟨#[105, 116, 101, 109]⟩ : ByteArray), (⟨#[110, 45, 49]⟩ : ByteArray)] : Int)).bind fun (y1 : (Int × aK)) => (idx [(⟨#[97]⟩ : ByteArray), (⟨#[98]⟩ : ByteArray), (⟨#[99]⟩ : ByteArray), (⟨#[100]⟩ : ByteArray), (⟨#[120]⟩ : ByteArray), (⟨#[121]⟩ : ByteArray), (⟨#[105, 116, 101, 109]⟩ : ByteArray), (⟨#[110, 45, 49]⟩ : ByteArray)] y1.1).bind fun (e2 : ByteArray) => some (e2, y1.2)
theorem vA  (n : Nat) (p0 : aK) (r : (ByteArray × aK)) (h : nE n p0 = some r) : dJ E 32 1 [C3 0 0] [D5 p0] (E5 r.1) [D5 r.2] := by
 refine gY Tryz.func32 rfl ?_
 unfold nE at h
 refine za [0] ?_
 refine za [0, 3] ?_
 refine zx fun _ => ?_
 refine zk 3 ?_
 refine zl eS [(⟨#[97]⟩ : ByteArray), (⟨#[98]⟩ : ByteArray), (⟨#[99]⟩ : ByteArray), (⟨#[100]⟩ : ByteArray), (⟨#[120]⟩ : ByteArray), (⟨#[121]⟩ : ByteArray), (⟨#[105, 116, 101, 109]⟩ : ByteArray), (⟨#[110, 45, 49]⟩ : ByteArray)] ?_
 obtain ⟨y1, he, h⟩ := aB h
 refine zo [(0, 0)] cL (bD n _ _ y1 he) ?_
 clear he
 obtain ⟨e2, he, h⟩ := aB h
 refine zd eS he ?_
 clear he
 refine zk 2 ?_
 refine ze [2] ?_
 cases h
 exact aH zr
def mX  (n : Nat) (p0 : aK) (p1 : Int) (p2 : Int) : Option (Int × aK) := (cF n p0 (IntKind.wrap .i64 ((IntKind.wrap .i64 (p2 - p1)) + 1))).bind fun (y1 : (Int × aK)) => some ((IntKind.wrap .i64 (p1 + y1.1)), y1.2)
theorem pJ  (n : Nat) (p0 : aK) (p1 : Int) (p2 : Int) (r : (Int × aK)) (h : mX n p0 p1 p2 = some r) : dJ E 16 1 [C3 0 0, A7 p1, A7 p2] [D5 p0] (A7 r.1) [D5 r.2] := by
 refine gY Tryz.func16 rfl ?_
 unfold mX at h
 refine za [0, 1, 2] ?_
 refine zx fun _ => ?_
 refine zk 6 ?_
 obtain ⟨y1, he, h⟩ := aB h
 refine zo [(0, 0)] cL (bD n _ _ y1 he) ?_
 clear he
 refine zk 2 ?_
 refine ze [6] ?_
 cases h
 exact aH zr
def jK  (n : Nat) (p0 : Int) : Option aD := some (aD.mk 1 p0 (⟨#[]⟩ : ByteArray) ([] : List aD))
theorem jH  (n : Nat) (p0 : Int) (r : aD) (h : jK n p0 = some r) : dJ E 118 0 [A7 p0] [] (B2 r) [] := by
 refine gY Tryz.func118 rfl ?_
 unfold jK at h
 refine za [0, 2] ?_
 refine za [2] ?_
 cases h
 exact aH zr
def oF  (n : Nat)  : Option (List Int) := some [97, 98, 102, 105, 88, 49, 50, 32, 32, 46, 44, 45, 39, 34, 40, 41, 91, 93, 60, 33, 58, 95, 37, 43, 47, 9, 10, 13, 11, 133, 160, 173, 183, 769, 1488, 1489, 1470, 1456, 1536, 1575, 1576, 1587, 1600, 1611, 1633, 1642, 1548, 1564, 1777, 2307, 2309, 2364, 4352, 4449, 4520, 44032, 44033, 8201, 8203, 8204, 8205, 8206, 8207, 8217, 8232, 8233, 8234, 8235, 8236, 8237, 8238, 8288, 8294, 8295, 8296, 8297, 9728, 12288, 12289, 12300, 12301, 12450, 19968, 65039, 127462, 127463, 127995, 128104, 1114111]
theorem zA  (n : Nat)  (r : (K9)) (h : oF n  = some r) : dJ E 140 0 [] [] (.c (.lit (List.map nR r))) [] := by
 refine gY Tryz.func140 rfl ?_
 unfold oF at h
 refine za [] ?_
 refine za [0] ?_
 cases h
 exact aH zr
def qJ  (n : Nat) (p0 : aK) (p1 : Int) : Option (Bool × aK) := (cF n p0 p1).bind fun (y1 : (Int × aK)) => some ((y1.1 == (IntKind.wrap .i64 (p1 - 1))), y1.2)
theorem Gn  (n : Nat) (p0 : aK) (p1 : Int) (r : (Bool × aK)) (h : qJ n p0 p1 = some r) : dJ E 141 1 [C3 0 0, A7 p1] [D5 p0] (B3 r.1) [D5 r.2] := by
 refine gY Tryz.func141 rfl ?_
 unfold qJ at h
 refine za [0, 1] ?_
 refine zx fun _ => ?_
 refine zk 2 ?_
 obtain ⟨y1, he, h⟩ := aB h
 refine zo [(0, 0)] cL (bD n _ _ y1 he) ?_
 clear he
 refine zk 4 ?_
 refine ze [4] ?_
 cases h
 exact aH zr
def xY  (n : Nat) (p0 : aK) : Option (Int × aK) := (if (decide (p0.At ≥ (List.length p0.L : Int))) = true then some (0, p0) else (idx p0.L (IntKind.wrap .i64 ((IntKind.wrap .i64 (p0.At + 1)) - 1))).bind fun (e1 : Int) => some (e1, (aK.mk p0.L (IntKind.wrap .i64 (p0.At + 1)))))
theorem Oy  (n : Nat) (p0 : aK) (r : (Int × aK)) (h : xY n p0 = some r) : dJ E 142 1 [C3 0 0] [D5 p0] (A7 r.1) [D5 r.2] := by
 refine gY Tryz.func142 rfl ?_
 unfold xY at h
 refine za [0] ?_
 refine aN ?_
 refine Fu [[], [0], [1, 0], [2, 1, 0], [], [4], [5, 4], [6, 5, 4], [7, 6, 5, 4], [3, 8, 2, 1, 0, 7, 6, 5, 4]] fun _ => ?_
 refine zk 8 ?_
 refine zl aO p0.L ?_
 refine zk 1 ?_
 refine ze [0, 12] ?_
 refine zi h (fun h => ?_) fun h => ?_
 refine za [2] ?_
 cases h
 exact aH zr
 refine aC ?_
 refine za [0] ?_
 refine Fu [[], [0], [1, 0], [2, 1, 0], [], [4], [5, 4], [6, 5, 4], [7, 6, 5, 4], [3, 8, 2, 1, 0, 7, 6, 5, 4], [9, 3, 8, 2, 1, 0, 7, 6, 5, 4], [10, 0, 1, 2, 3, 4, 5, 6, 7, 8, 9]] fun _ => ?_
 refine zk 9 ?_
 obtain ⟨e1, he, h⟩ := aB h
 refine zd aO he ?_
 clear he
 refine zk 2 ?_
 refine ze [2] ?_
 cases h
 exact aH zr
def sL  (n : Nat) (p0 : aK) : Option (Int × aK) := (oF n).bind fun (y1 : (List Int)) => (qJ n p0 40).bind fun (y2 : (Bool × aK)) => (if y2.1 = true then (xY n y2.2).bind fun (y3 : (Int × aK)) => some ((IntKind.wrap .i32 y3.1), y3.2) else (cF n y2.2 (List.length y1 : Int)).bind fun (y4 : (Int × aK)) => (idx y1 y4.1).bind fun (e5 : Int) => some (e5, y4.2))
theorem Bi  (n : Nat) (p0 : aK) (r : (Int × aK)) (h : sL n p0 = some r) : dJ E 133 1 [C3 0 0] [D5 p0] (.c (I32 r.1)) [D5 r.2] := by
 refine gY Tryz.func133 rfl ?_
 unfold sL at h
 refine za [0] ?_
 refine zx fun _ => ?_
 obtain ⟨y1, he, h⟩ := aB h
 refine zc fok140 (zA n  y1 he) ?_
 clear he
 refine zk 1 ?_
 refine ze [0, 3] ?_
 refine aN ?_
 refine zx fun _ => ?_
 refine zk 1 ?_
 obtain ⟨y2, he, h⟩ := aB h
 refine zo [(0, 0)] fok141 (Gn n _ _ y2 he) ?_
 clear he
 refine ze [0, 3, 6] ?_
 refine zi h (fun h => ?_) fun h => ?_
 refine zx fun _ => ?_
 refine zk 1 ?_
 obtain ⟨y3, he, h⟩ := aB h
 refine zo [(0, 0)] fok142 (Oy n _ y3 he) ?_
 clear he
 refine zk 2 ?_
 refine ze [2] ?_
 cases h
 exact aH zr
 refine aC ?_
 refine zx fun _ => ?_
 refine zk 3 ?_
 refine zl nR y1 ?_
 obtain ⟨y4, he, h⟩ := aB h
 refine zo [(0, 0)] cL (bD n _ _ y4 he) ?_
 clear he
 obtain ⟨e5, he, h⟩ := aB h
 refine zd nR he ?_
 clear he
 refine zk 2 ?_
 refine mF [2] (L2 := [(2, .c (I32 e5))]) (G2 := [D5 y4.2]) 14 ?_
 cases h
 exact aH zr
def kT (y1 : (Int × aK)) (y2 : (Int × aK)) (v16 : List Int) (j19 : List Int → List Int → Int → Option ((List Int) × aK)) : Nat → List Int → Int → List Int → Int → Option ((List Int) × aK)
 | 0, _, _, _, _ => none
 | n + 1, v29, v30, v31, v32 => (if (decide (v30 < y1.1)) = true then (aR (fun (v39 : List Int) (v40 : List Int) (v41 : Int) => kT y1 y2 v16 j19 n v39 (IntKind.wrap .i64 (v30 + 1)) v40 v41) (fun (j33 : List Int → List Int → Int → Option ((List Int) × aK)) => (if (decide (y2.1 > 0)) = true then (cF n (aK.mk v31 v32) 5).bind fun (y34 : (Int × aK)) => (idx v16 y34.1).bind fun (e35 : Int) => (pE 4 v29 [e35]).bind fun (l36 : List Int) => j33 l36 y34.2.L y34.2.At else (sL n (aK.mk v31 v32)).bind fun (y37 : (Int × aK)) => (pE 4 v29 [y37.1]).bind fun (l38 : List Int) => j33 l38 y37.2.L y37.2.At))) else j19 v29 v31 v32)
def lE (j3 : List Int → List Int → Int → Option ((List Int) × aK)) (y1 : (Int × aK)) (y2 : (Int × aK)) : Nat → List Int → Int → List Int → Int → Option ((List Int) × aK)
 | 0, _, _, _, _ => none
 | n + 1, v6, v7, v8, v9 => (if (decide (v7 < 5)) = true then (sL n (aK.mk v8 v9)).bind fun (y10 : (Int × aK)) => (pE 4 v6 [y10.1]).bind fun (l11 : List Int) => lE j3 y1 y2 n l11 (IntKind.wrap .i64 (v7 + 1)) y10.2.L y10.2.At else j3 v6 v8 v9)
def uH  (n : Nat) (p0 : aK) (p1 : Int) : Option ((List Int) × aK) := (cF n p0 (IntKind.wrap .i64 (p1 + 1))).bind fun (y1 : (Int × aK)) => (cF n y1.2 3).bind fun (y2 : (Int × aK)) => (aR (fun (v16 : List Int) (v17 : List Int) (v18 : Int) => (aR (fun (v46 : List Int) (v47 : List Int) (v48 : Int) => some (v46, (aK.mk v47 v48))) (fun (j19 : List Int → List Int → Int → Option ((List Int) × aK)) => kT y1 y2 v16 j19 n ([] : List Int) 0 v17 v18))) (fun (j3 : List Int → List Int → Int → Option ((List Int) × aK)) => lE j3 y1 y2 n ([] : List Int) 0 y2.2.L y2.2.At))
theorem Mw  (n : Nat) (p0 : aK) (p1 : Int) (r : ((K9) × aK)) (h : uH n p0 p1 = some r) : dJ E 120 1 [C3 0 0, A7 p1] [D5 p0] (.c (.lit (List.map nR r.1))) [D5 r.2] := by
 refine gY Tryz.func120 rfl ?_
 unfold uH at h
 refine za [0, 1] ?_
 refine zx fun _ => ?_
 refine zk 3 ?_
 obtain ⟨y1, he, h⟩ := aB h
 refine zo [(0, 0)] cL (bD n _ _ y1 he) ?_
 clear he
 refine zk 1 ?_
 refine ze [0, 5] ?_
 refine za [0, 5, 6] ?_
 refine zx fun _ => ?_
 refine zk 1 ?_
 obtain ⟨y2, he, h⟩ := aB h
 refine zo [(0, 0)] cL (bD n _ _ y2 he) ?_
 clear he
 refine zk 1 ?_
 refine ze [0, 5, 6, 7] ?_
 refine za [0, 5, 6, 7, 8] ?_
 refine aV h (fun A j => ∀ v16 v17 v18, j v16 v17 v18 = some r → A (mk [G9, C7 5 y1.1, (6, .c (cJ)), C7 7 y2.1, J0 8 1 v16] [A0 v17 v18, B7 1 21 1 v16] 2)) (fun v16 v17 v18 h => ?_) (fun j3 Aj3 hj3 h => ?_)
 refine aV h (fun A j => ∀ v46 v47 v48, j v46 v47 v48 = some r → A (mk [J0 6 1 v46] [A0 v47 v48, B7 1 21 1 v46] 2)) (fun v46 v47 v48 h => ?_) (fun j19 Aj19 hj19 h => ?_)
 refine za [4] ?_
 cases h
 exact aH zr
 refine za [0, 5, 6, 7, 8, 10] ?_
 refine aI ?_
 refine bH (fun n s => ∃ v29 v30 v31 v32, kT y1 y2 v16 j19 n v29 v30 v31 v32 = some r ∧ s = mk [G9, C7 5 y1.1, J0 6 1 v29, C7 7 y2.1, J0 8 2 v16, C7 10 v30] [A0 v31 v32, B7 1 21 1 v29, B7 2 21 1 v16] 3) n _ (dY.trans (mY (L2 := [G9, C7 5 y1.1, (6, .c (.app 3 (List.map nR ([] : List Int)))), C7 7 y2.1, J0 8 1 v16, I3 10]) (G2 := [A0 v17 v18, B7 1 21 1 v16, (3, .tok 21 1 (List.length ([] : List Int)))]) (lim2 := 4) 6 21 1 (by kernel_rfl) (by kernel_rfl) (by kernel_rfl) (by kernel_rfl)) (zv [(0, 0), (3, 1), (1, 2)] [0, 5, 6, 7, 8, 10] 3)) ⟨_, _, _, _, h, rfl⟩ (fun s ⟨v29, v30, v31, v32, h, _⟩ => nomatch h) ?_
 rintro n s ⟨v29, v30, v31, v32, h, rfl⟩
 rw [kT] at h
 refine aN ?_
 refine za [0, 5, 6, 7, 8, 10, 28] ?_
 refine zi h (fun h => ?_) fun h => ?_
 refine aC ?_
 refine aV h (fun A j => ∀ v39 v40 v41, j v39 v40 v41 = some r → A (mk [G9, C7 5 y1.1, J0 6 1 v39, C7 7 y2.1, J0 8 2 v16, C7 10 v30] [A0 v40 v41, B7 1 21 1 v39, B7 2 21 1 v16] 3)) (fun v39 v40 v41 h => ?_) (fun j33 Aj33 hj33 h => ?_)
 refine aY ?_
 refine zb ?_
 exact eU (zv [(0, 0), (1, 1), (2, 2)] [0, 5, 6, 7, 8, 10] 3) (⟨_, _, _, _, h, rfl⟩)
 refine aI ?_
 refine za [0, 5, 6, 7, 8, 10, 32] ?_
 refine zi h (fun h => ?_) fun h => ?_
 refine aY ?_
 refine zy fun _ => ?_
 refine zk 3 ?_
 obtain ⟨y34, he, h⟩ := aB h
 refine zo [(0, 0)] cL (bD n _ _ y34 he) ?_
 clear he
 obtain ⟨e35, he, h⟩ := aB h
 refine zd nR he ?_
 clear he
 refine zk 2 ?_
 obtain ⟨l36, he, h⟩ := aB h
 refine cE (enc := nR) (l := v29) (els := [e35]) (r := l36) (old := some 1) (e := 21) (sz := 1) (bytes := 4) (k := (G8 v29)) (nm := 15) he (by kernel_rfl) (by kernel_rfl) (fun x => by kernel_rfl) (by kernel_rfl) (by kernel_rfl) rfl rfl rfl ?_
 clear he
 refine zk 1 ?_
 refine bY ?_
 exact eU (zv [(0, 0), (15, 1), (2, 2)] [0, 5, 6, 7, 8, 10] 3) (hj33 _ _ _ h)
 refine aY ?_
 refine zy fun _ => ?_
 refine zk 2 ?_
 obtain ⟨y37, he, h⟩ := aB h
 refine zo [(0, 0)] Vq (Bi n _ y37 he) ?_
 clear he
 refine zk 1 ?_
 obtain ⟨l38, he, h⟩ := aB h
 refine cE (enc := nR) (l := v29) (els := [y37.1]) (r := l38) (old := some 1) (e := 21) (sz := 1) (bytes := 4) (k := (G8 v29)) (nm := 12) he (by kernel_rfl) (by kernel_rfl) (fun x => by kernel_rfl) (by kernel_rfl) (by kernel_rfl) rfl rfl rfl ?_
 clear he
 refine zk 1 ?_
 refine bY ?_
 exact eU (zv [(0, 0), (12, 1), (2, 2)] [0, 5, 6, 7, 8, 10] 3) (hj33 _ _ _ h)
 exact aJ (zv [(0, 0), (1, 1)] [6] 2) (bI (hj19 _ _ _ h))
 refine za [0, 5, 6, 7, 8, 9] ?_
 refine aI ?_
 refine bH (fun n s => ∃ v6 v7 v8 v9, lE j3 y1 y2 n v6 v7 v8 v9 = some r ∧ s = mk [G9, C7 5 y1.1, (6, .c (cJ)), C7 7 y2.1, J0 8 1 v6, C7 9 v7] [A0 v8 v9, B7 1 21 1 v6] 2) n _ (dY.trans (mY (L2 := [G9, C7 5 y1.1, (6, .c (cJ)), C7 7 y2.1, (8, .c (.app 13 (List.map nR ([] : List Int)))), I3 9]) (G2 := [D5 y2.2, (13, .tok 21 1 (List.length ([] : List Int)))]) (lim2 := 14) 8 21 1 (by kernel_rfl) (by kernel_rfl) (by kernel_rfl) (by kernel_rfl)) (zv [(0, 0), (13, 1)] [0, 5, 6, 7, 8, 9] 2)) ⟨_, _, _, _, h, rfl⟩ (fun s ⟨v6, v7, v8, v9, h, _⟩ => nomatch h) ?_
 rintro n s ⟨v6, v7, v8, v9, h, rfl⟩
 rw [lE] at h
 refine aN ?_
 refine za [0, 5, 6, 7, 8, 9, 18] ?_
 refine zi h (fun h => ?_) fun h => ?_
 refine aC ?_
 refine aN ?_
 refine aI ?_
 refine zy fun _ => ?_
 refine zk 2 ?_
 obtain ⟨y10, he, h⟩ := aB h
 refine zo [(0, 0)] Vq (Bi n _ y10 he) ?_
 clear he
 refine zk 1 ?_
 obtain ⟨l11, he, h⟩ := aB h
 refine cE (enc := nR) (l := v6) (els := [y10.1]) (r := l11) (old := some 1) (e := 21) (sz := 1) (bytes := 4) (k := (G8 v6)) (nm := 8) he (by kernel_rfl) (by kernel_rfl) (fun x => by kernel_rfl) (by kernel_rfl) (by kernel_rfl) rfl rfl rfl ?_
 clear he
 refine zk 1 ?_
 refine bY ?_
 refine aY ?_
 refine zb ?_
 exact eU (zv [(0, 0), (8, 1)] [0, 5, 6, 7, 8, 9] 2) (⟨_, _, _, _, h, rfl⟩)
 exact aJ (zv [(0, 0), (1, 1)] [0, 5, 6, 7, 8] 2) (bI (hj3 _ _ _ h))
def sM  (n : Nat) (p0 : aK) (p1 : (List Int)) : Option ((List Int) × aK) := (zJ (runesBytes p1)).bind fun (l1 : List Int) => some (l1, p0)
theorem Jk  (n : Nat) (p0 : aK) (p1 : (K9)) (r : ((K9) × aK)) (h : sM n p0 p1 = some r) : dJ E 119 1 [C3 0 0, .c (.lit (List.map nR p1))] [D5 p0] (.c (.lit (List.map nR r.1))) [D5 r.2] := by
 refine gY Tryz.func119 rfl ?_
 unfold sM at h
 refine za [1] ?_
 refine zx fun _ => ?_
 refine zk 1 ?_
 refine zw (v := .c (Sx (runesBytes p1))) [] (rL (ns := p1) (by kernel_rfl)) ?_
 obtain ⟨l1, he, h⟩ := aB h
 refine rx_O (v := .c (.lit (List.map nR l1))) (foot := []) (Ia (s := (runesBytes p1)) he (by kernel_rfl)) (by kernel_rfl) rfl rfl ?_
 clear he
 refine zk 1 ?_
 refine ze [4] ?_
 cases h
 exact aH zr
def jR (j37 : List Int → Int → List aD → Option ((List aZ) × aK)) (p1 : Int) (v32 : List aZ) : Nat → Int → List Int → Int → List aD → Option ((List aZ) × aK)
 | 0, _, _, _, _ => none
 | n + 1, v46, v47, v48, v49 => (if (decide (v46 > 0)) = true then (cF n (aK.mk v47 v48) 6).bind fun (y50 : (Int × aK)) => (idx [0, 0, 30, 50, (-1 : Int), (-2 : Int)] y50.1).bind fun (e51 : Int) => (jK n e51).bind fun (y52 : aD) => (pE 56 v49 [y52]).bind fun (l53 : List aD) => jR j37 p1 v32 n (IntKind.wrap .i64 (v46 - 1)) y50.2.L y50.2.At l53 else j37 v47 v48 v49)
def rO  (n : Nat) (p0 : aK) (p1 : Int) : Option ((List aZ) × aK) := (aR (fun (v7 : List aZ) (v8 : List Int) (v9 : Int) => (aR (fun (v16 : List aZ) (v17 : List Int) (v18 : Int) => (aR (fun (v24 : List aZ) (v25 : List Int) (v26 : Int) => (aR (fun (v32 : List aZ) (v33 : List Int) (v34 : Int) => (aR (fun (v65 : List aZ) (v66 : List Int) (v67 : Int) => (aR (fun (v73 : List aZ) (v74 : List Int) (v75 : Int) => (aR (fun (v81 : List aZ) (v82 : List Int) (v83 : Int) => (aR (fun (v89 : List aZ) (v90 : List Int) (v91 : Int) => (aR (fun (v98 : List aZ) (v99 : List Int) (v100 : Int) => (aR (fun (v105 : List aZ) (v106 : List Int) (v107 : Int) => (aR (fun (v113 : List aZ) (v114 : List Int) (v115 : Int) => (aR (fun (v121 : List aZ) (v122 : List Int) (v123 : Int) => (aR (fun (v130 : List aZ) (v131 : List Int) (v132 : Int) => (aR (fun (v138 : List aZ) (v139 : List Int) (v140 : Int) => (aR (fun (v146 : List aZ) (v147 : List Int) (v148 : Int) => some (v146, (aK.mk v147 v148))) (fun (j141 : List aZ → List Int → Int → Option ((List aZ) × aK)) => (Yk [(!((p1 == 5) || (p1 == 13)))] (cF n (aK.mk v139 v140) 9) ((default : Int), (aK.mk v139 v140))).bind fun (y142 : (Int × aK)) => (if (((p1 == 5) || (p1 == 13)) || (y142.1 == 0)) = true then (cF n y142.2 90).bind fun (y143 : (Int × aK)) => (jK n y143.1).bind fun (y144 : aD) => (pE 72 v138 [(aZ.mk (⟨#[119, 105, 100, 116, 104]⟩ : ByteArray) y144)]).bind fun (l145 : List aZ) => j141 l145 y143.2.L y143.2.At else j141 v138 y142.2.L y142.2.At)))) (fun (j133 : List aZ → List Int → Int → Option ((List aZ) × aK)) => (cF n (aK.mk v131 v132) 8).bind fun (y134 : (Int × aK)) => (if (y134.1 == 0) = true then (cF n y134.2 5).bind fun (y135 : (Int × aK)) => (jK n y135.1).bind fun (y136 : aD) => (pE 72 v130 [(aZ.mk (⟨#[116, 117, 114, 110]⟩ : ByteArray) y136)]).bind fun (l137 : List aZ) => j133 l137 y135.2.L y135.2.At else j133 v130 y134.2.L y134.2.At)))) (fun (j124 : List aZ → List Int → Int → Option ((List aZ) × aK)) => (cF n (aK.mk v122 v123) 2).bind fun (y125 : (Int × aK)) => (if (y125.1 == 0) = true then (uH n y125.2 8).bind fun (y126 : ((List Int) × aK)) => (sM n y126.2 y126.1).bind fun (y127 : ((List Int) × aK)) => (nW n (runesBytes y127.1)).bind fun (y128 : aD) => (pE 72 v121 [(aZ.mk (⟨#[116, 101, 120, 116]⟩ : ByteArray) y128)]).bind fun (l129 : List aZ) => j124 l129 y127.2.L y127.2.At else j124 v121 y125.2.L y125.2.At)))) (fun (j116 : List aZ → List Int → Int → Option ((List aZ) × aK)) => (cF n (aK.mk v114 v115) 6).bind fun (y117 : (Int × aK)) => (if (y117.1 == 0) = true then (cF n y117.2 4).bind fun (y118 : (Int × aK)) => (jK n y118.1).bind fun (y119 : aD) => (pE 72 v113 [(aZ.mk (⟨#[115, 112, 97, 110]⟩ : ByteArray) y119)]).bind fun (l120 : List aZ) => j116 l120 y118.2.L y118.2.At else j116 v113 y117.2.L y117.2.At)))) (fun (j108 : List aZ → List Int → Int → Option ((List aZ) × aK)) => (cF n (aK.mk v106 v107) 8).bind fun (y109 : (Int × aK)) => (if (y109.1 == 0) = true then (cF n y109.2 4).bind fun (y110 : (Int × aK)) => (jK n y110.1).bind fun (y111 : aD) => (pE 72 v105 [(aZ.mk (⟨#[115, 99, 97, 108, 101]⟩ : ByteArray) y111)]).bind fun (l112 : List aZ) => j108 l112 y110.2.L y110.2.At else j108 v105 y109.2.L y109.2.At)))) (fun (j101 : List aZ → List Int → Int → Option ((List aZ) × aK)) => (cF n (aK.mk v99 v100) 6).bind fun (y102 : (Int × aK)) => (if (y102.1 == 0) = true then (pU n 1).bind fun (y103 : aD) => (pE 72 v98 [(aZ.mk (⟨#[112, 105, 110, 110, 101, 100]⟩ : ByteArray) y103)]).bind fun (l104 : List aZ) => j101 l104 y102.2.L y102.2.At else j101 v98 y102.2.L y102.2.At)))) (fun (j92 : List aZ → List Int → Int → Option ((List aZ) × aK)) => (cF n (aK.mk v90 v91) 6).bind fun (y93 : (Int × aK)) => (if (y93.1 == 0) = true then (cF n y93.2 6).bind fun (y94 : (Int × aK)) => (Sh (⟨#[107]⟩ : ByteArray) (dC [(IntKind.wrap .u8 (IntKind.wrap .i64 (97 + y94.1)))])).bind fun (s95 : ByteArray) => (nW n s95).bind fun (y96 : aD) => (pE 72 v89 [(aZ.mk (⟨#[108, 101, 102, 116]⟩ : ByteArray) y96)]).bind fun (l97 : List aZ) => j92 l97 y94.2.L y94.2.At else j92 v89 y93.2.L y93.2.At)))) (fun (j84 : List aZ → List Int → Int → Option ((List aZ) × aK)) => (cF n (aK.mk v82 v83) 12).bind fun (y85 : (Int × aK)) => (if (y85.1 == 0) = true then (cF n y85.2 2).bind fun (y86 : (Int × aK)) => (pU n y86.1).bind fun (y87 : aD) => (pE 72 v81 [(aZ.mk (⟨#[104, 105, 100, 100, 101, 110]⟩ : ByteArray) y87)]).bind fun (l88 : List aZ) => j84 l88 y86.2.L y86.2.At else j84 v81 y85.2.L y85.2.At)))) (fun (j76 : List aZ → List Int → Int → Option ((List aZ) × aK)) => (Yk [(!((p1 == 5) || (p1 == 13)))] (cF n (aK.mk v74 v75) 9) ((default : Int), (aK.mk v74 v75))).bind fun (y77 : (Int × aK)) => (if (((p1 == 5) || (p1 == 13)) || (y77.1 == 0)) = true then (cF n y77.2 60).bind fun (y78 : (Int × aK)) => (jK n y78.1).bind fun (y79 : aD) => (pE 72 v73 [(aZ.mk (⟨#[104, 101, 105, 103, 104, 116]⟩ : ByteArray) y79)]).bind fun (l80 : List aZ) => j76 l80 y78.2.L y78.2.At else j76 v73 y77.2.L y77.2.At)))) (fun (j68 : List aZ → List Int → Int → Option ((List aZ) × aK)) => (cF n (aK.mk v66 v67) 9).bind fun (y69 : (Int × aK)) => (if (y69.1 == 0) = true then (cF n y69.2 2).bind fun (y70 : (Int × aK)) => (pU n y70.1).bind fun (y71 : aD) => (pE 72 v65 [(aZ.mk (⟨#[100, 105, 115, 97, 98, 108, 101, 100]⟩ : ByteArray) y71)]).bind fun (l72 : List aZ) => j68 l72 y70.2.L y70.2.At else j68 v65 y69.2.L y69.2.At)))) (fun (j35 : List aZ → List Int → Int → Option ((List aZ) × aK)) => (cF n (aK.mk v33 v34) 4).bind fun (y36 : (Int × aK)) => (if (y36.1 == 0) = true then (aR (fun (v61 : List Int) (v62 : Int) (v63 : List aD) => (pE 72 v32 [(aZ.mk (⟨#[99, 111, 108, 117, 109, 110, 115]⟩ : ByteArray) (aD.mk 4 0 (⟨#[]⟩ : ByteArray) v63))]).bind fun (l64 : List aZ) => j35 l64 v61 v62) (fun (j37 : List Int → Int → List aD → Option ((List aZ) × aK)) => (mX n y36.2 1 3).bind fun (y38 : (Int × aK)) => jR j37 p1 v32 n y38.1 y38.2.L y38.2.At ([] : List aD))) else j35 v32 y36.2.L y36.2.At)))) (fun (j27 : List aZ → List Int → Int → Option ((List aZ) × aK)) => (cF n (aK.mk v25 v26) 3).bind fun (y28 : (Int × aK)) => (if (y28.1 == 0) = true then (nE n y28.2).bind fun (y29 : (ByteArray × aK)) => (nW n y29.1).bind fun (y30 : aD) => (pE 72 v24 [(aZ.mk (⟨#[99, 108, 97, 115, 115]⟩ : ByteArray) y30)]).bind fun (l31 : List aZ) => j27 l31 y29.2.L y29.2.At else j27 v24 y28.2.L y28.2.At)))) (fun (j19 : List aZ → List Int → Int → Option ((List aZ) × aK)) => (cF n (aK.mk v17 v18) 9).bind fun (y20 : (Int × aK)) => (if (y20.1 == 0) = true then (cF n y20.2 2).bind fun (y21 : (Int × aK)) => (pU n y21.1).bind fun (y22 : aD) => (pE 72 v16 [(aZ.mk (⟨#[99, 104, 101, 99, 107, 101, 100]⟩ : ByteArray) y22)]).bind fun (l23 : List aZ) => j19 l23 y21.2.L y21.2.At else j19 v16 y20.2.L y20.2.At)))) (fun (j10 : List aZ → List Int → Int → Option ((List aZ) × aK)) => (cF n (aK.mk v8 v9) 9).bind fun (y11 : (Int × aK)) => (if (y11.1 == 0) = true then (cF n y11.2 6).bind fun (y12 : (Int × aK)) => (Sh (⟨#[107]⟩ : ByteArray) (dC [(IntKind.wrap .u8 (IntKind.wrap .i64 (97 + y12.1)))])).bind fun (s13 : ByteArray) => (nW n s13).bind fun (y14 : aD) => (pE 72 v7 [(aZ.mk (⟨#[97, 108, 105, 103, 110, 108, 101, 102, 116]⟩ : ByteArray) y14)]).bind fun (l15 : List aZ) => j10 l15 y12.2.L y12.2.At else j10 v7 y11.2.L y11.2.At)))) (fun (j1 : List aZ → List Int → Int → Option ((List aZ) × aK)) => (cF n p0 6).bind fun (y2 : (Int × aK)) => (if (y2.1 == 0) = true then (cF n y2.2 6).bind fun (y3 : (Int × aK)) => (Sh (⟨#[107]⟩ : ByteArray) (dC [(IntKind.wrap .u8 (IntKind.wrap .i64 (97 + y3.1)))])).bind fun (s4 : ByteArray) => (nW n s4).bind fun (y5 : aD) => (pE 72 ([] : List aZ) [(aZ.mk (⟨#[97, 98, 111, 118, 101]⟩ : ByteArray) y5)]).bind fun (l6 : List aZ) => j1 l6 y3.2.L y3.2.At else j1 ([] : List aZ) y2.2.L y2.2.At)))
theorem Iy  (n : Nat) (p0 : aK) (p1 : Int) (r : ((List aZ) × aK)) (h : rO n p0 p1 = some r) : dJ E 96 1 [C3 0 0, A7 p1] [D5 p0] (.c (B6 r.1)) [D5 r.2] := by
 refine gY Tryz.func96 rfl ?_
 unfold rO at h
 refine za [0, 1] ?_
 refine za [0, 1, 5] ?_
 refine aV h (fun A j => ∀ v7 v8 v9, j v7 v8 v9 = some r → A (C5 p1 v7 v8 v9)) (fun v7 v8 v9 h => ?_) (fun j1 Aj1 hj1 h => ?_)
 refine aV h (fun A j => ∀ v16 v17 v18, j v16 v17 v18 = some r → A (C5 p1 v16 v17 v18)) (fun v16 v17 v18 h => ?_) (fun j10 Aj10 hj10 h => ?_)
 refine aV h (fun A j => ∀ v24 v25 v26, j v24 v25 v26 = some r → A (C5 p1 v24 v25 v26)) (fun v24 v25 v26 h => ?_) (fun j19 Aj19 hj19 h => ?_)
 refine aV h (fun A j => ∀ v32 v33 v34, j v32 v33 v34 = some r → A (C5 p1 v32 v33 v34)) (fun v32 v33 v34 h => ?_) (fun j27 Aj27 hj27 h => ?_)
 refine aV h (fun A j => ∀ v65 v66 v67, j v65 v66 v67 = some r → A (C5 p1 v65 v66 v67)) (fun v65 v66 v67 h => ?_) (fun j35 Aj35 hj35 h => ?_)
 refine aV h (fun A j => ∀ v73 v74 v75, j v73 v74 v75 = some r → A (C5 p1 v73 v74 v75)) (fun v73 v74 v75 h => ?_) (fun j68 Aj68 hj68 h => ?_)
 refine aV h (fun A j => ∀ v81 v82 v83, j v81 v82 v83 = some r → A (C5 p1 v81 v82 v83)) (fun v81 v82 v83 h => ?_) (fun j76 Aj76 hj76 h => ?_)
 refine aV h (fun A j => ∀ v89 v90 v91, j v89 v90 v91 = some r → A (C5 p1 v89 v90 v91)) (fun v89 v90 v91 h => ?_) (fun j84 Aj84 hj84 h => ?_)
 refine aV h (fun A j => ∀ v98 v99 v100, j v98 v99 v100 = some r → A (C5 p1 v98 v99 v100)) (fun v98 v99 v100 h => ?_) (fun j92 Aj92 hj92 h => ?_)
 refine aV h (fun A j => ∀ v105 v106 v107, j v105 v106 v107 = some r → A (C5 p1 v105 v106 v107)) (fun v105 v106 v107 h => ?_) (fun j101 Aj101 hj101 h => ?_)
 refine aV h (fun A j => ∀ v113 v114 v115, j v113 v114 v115 = some r → A (C5 p1 v113 v114 v115)) (fun v113 v114 v115 h => ?_) (fun j108 Aj108 hj108 h => ?_)
 refine aV h (fun A j => ∀ v121 v122 v123, j v121 v122 v123 = some r → A (C5 p1 v121 v122 v123)) (fun v121 v122 v123 h => ?_) (fun j116 Aj116 hj116 h => ?_)
 refine aV h (fun A j => ∀ v130 v131 v132, j v130 v131 v132 = some r → A (C5 p1 v130 v131 v132)) (fun v130 v131 v132 h => ?_) (fun j124 Aj124 hj124 h => ?_)
 refine aV h (fun A j => ∀ v138 v139 v140, j v138 v139 v140 = some r → A (C5 p1 v138 v139 v140)) (fun v138 v139 v140 h => ?_) (fun j133 Aj133 hj133 h => ?_)
 refine aV h (fun A j => ∀ v146 v147 v148, j v146 v147 v148 = some r → A (mk [(5, .c (.app 1 (List.map aQ v146)))] [A0 v147 v148, B7 1 172 5 v146] 2)) (fun v146 v147 v148 h => ?_) (fun j141 Aj141 hj141 h => ?_)
 refine za [4] ?_
 cases h
 exact aH zr
 refine zx fun _ => ?_
 refine zk 3 ?_
 refine zE (A7 p1) ?_
 refine zE (B3 (p1 == 13)) ?_
 refine zP (.bool ((p1 == 5) || (p1 == 13))) ?_
 refine zk 1 ?_
 refine zE (C3 0 0) ?_
 obtain ⟨y142, he, h⟩ := aB h
 refine Am (e := [!((p1 == 5) || (p1 == 13))]) [(195, C3 0 0, some 1)] (F := 15) (As := [C3 0 0, .c (I 9)]) (Bs := [C3 0 0, .c (I 9)]) (σ := [(0, 0)]) (k := 1) (Gc := [A0 v139 v140]) (Gf := [D5 y142.2]) (r := .c (I y142.1)) (v := .c (I y142.1)) (by kernel_rfl) (by kernel_rfl) (by kernel_rfl) (by kernel_rfl) (by kernel_rfl) (by kernel_rfl) cL ⟨.inr ⟨(by kernel_rfl), (by kernel_rfl)⟩, ⟨.inl (by kernel_rfl), trivial⟩⟩ (fun hg => bD n _ _ y142 (Wi he hg)) (by kernel_rfl) (by kernel_rfl) (by kernel_rfl) (fun hg => by rw [Uz he hg]; kernel_rfl) (by kernel_rfl) rfl rfl rfl ?_
 clear he
 refine zE (B3 (y142.1 == 0)) ?_
 refine zP (.bool (((p1 == 5) || (p1 == 13)) || (y142.1 == 0))) ?_
 refine ze [0, 5, 198] ?_
 refine zi h (fun h => ?_) fun h => ?_
 refine aY ?_
 refine zy fun _ => ?_
 refine zk 2 ?_
 obtain ⟨y143, he, h⟩ := aB h
 refine zo [(0, 0)] cL (bD n _ _ y143 he) ?_
 clear he
 obtain ⟨y144, he, h⟩ := aB h
 refine zc zR (jH n _ y144 he) ?_
 clear he
 refine zk 2 ?_
 obtain ⟨l145, he, h⟩ := aB h
 refine cE (enc := aQ) (l := v138) (els := [(aZ.mk (⟨#[119, 105, 100, 116, 104]⟩ : ByteArray) y144)]) (r := l145) (old := some 1) (e := 172) (sz := 5) (bytes := 72) (k := (G8 v138)) (nm := 19) he (by kernel_rfl) (by kernel_rfl) (fun x => by kernel_rfl) (by kernel_rfl) (by kernel_rfl) rfl rfl rfl ?_
 clear he
 refine zk 1 ?_
 refine bY ?_
 exact eU (zv [(0, 0), (19, 1)] [5] 2) (hj141 _ _ _ h)
 exact aJ (zv [(0, 0), (1, 1)] [5] 2) (aC (hj141 _ _ _ h))
 refine zx fun _ => ?_
 refine zk 1 ?_
 obtain ⟨y134, he, h⟩ := aB h
 refine zo [(0, 0)] cL (bD n _ _ y134 he) ?_
 clear he
 refine zk 1 ?_
 refine ze [0, 1, 5, 180] ?_
 refine zi h (fun h => ?_) fun h => ?_
 refine aY ?_
 refine zy fun _ => ?_
 refine zk 2 ?_
 obtain ⟨y135, he, h⟩ := aB h
 refine zo [(0, 0)] cL (bD n _ _ y135 he) ?_
 clear he
 obtain ⟨y136, he, h⟩ := aB h
 refine zc zR (jH n _ y136 he) ?_
 clear he
 refine zk 2 ?_
 obtain ⟨l137, he, h⟩ := aB h
 refine cE (enc := aQ) (l := v130) (els := [(aZ.mk (⟨#[116, 117, 114, 110]⟩ : ByteArray) y136)]) (r := l137) (old := some 1) (e := 172) (sz := 5) (bytes := 72) (k := (G8 v130)) (nm := 11) he (by kernel_rfl) (by kernel_rfl) (fun x => by kernel_rfl) (by kernel_rfl) (by kernel_rfl) rfl rfl rfl ?_
 clear he
 refine zk 1 ?_
 refine bY ?_
 exact eU (zv [(0, 0), (11, 1)] [0, 1, 5] 2) (hj133 _ _ _ h)
 exact aJ (zv [(0, 0), (1, 1)] [0, 1, 5] 2) (aC (hj133 _ _ _ h))
 refine zx fun _ => ?_
 refine zk 1 ?_
 obtain ⟨y125, he, h⟩ := aB h
 refine zo [(0, 0)] cL (bD n _ _ y125 he) ?_
 clear he
 refine zk 1 ?_
 refine ze [0, 1, 5, 167] ?_
 refine zi h (fun h => ?_) fun h => ?_
 refine aY ?_
 refine zy fun _ => ?_
 refine zk 3 ?_
 obtain ⟨y126, he, h⟩ := aB h
 refine zo [(0, 0)] fok120 (Mw n _ _ y126 he) ?_
 clear he
 obtain ⟨y127, he, h⟩ := aB h
 refine zo [(0, 0)] fok119 (Jk n _ _ y127 he) ?_
 clear he
 refine zw (v := .c (Sx (runesBytes y127.1))) [] (rL (ns := y127.1) (by kernel_rfl)) ?_
 obtain ⟨y128, he, h⟩ := aB h
 refine zc Dv (nB n _ y128 he) ?_
 clear he
 refine zk 2 ?_
 obtain ⟨l129, he, h⟩ := aB h
 refine cE (enc := aQ) (l := v121) (els := [(aZ.mk (⟨#[116, 101, 120, 116]⟩ : ByteArray) y128)]) (r := l129) (old := some 1) (e := 172) (sz := 5) (bytes := 72) (k := (G8 v121)) (nm := 14) he (by kernel_rfl) (by kernel_rfl) (fun x => by kernel_rfl) (by kernel_rfl) (by kernel_rfl) rfl rfl rfl ?_
 clear he
 refine zk 1 ?_
 refine bY ?_
 exact eU (zv [(0, 0), (14, 1)] [0, 1, 5] 2) (hj124 _ _ _ h)
 exact aJ (zv [(0, 0), (1, 1)] [0, 1, 5] 2) (aC (hj124 _ _ _ h))
 refine zx fun _ => ?_
 refine zk 1 ?_
 obtain ⟨y117, he, h⟩ := aB h
 refine zo [(0, 0)] cL (bD n _ _ y117 he) ?_
 clear he
 refine zk 1 ?_
 refine ze [0, 1, 5, 157] ?_
 refine zi h (fun h => ?_) fun h => ?_
 refine aY ?_
 refine zy fun _ => ?_
 refine zk 2 ?_
 obtain ⟨y118, he, h⟩ := aB h
 refine zo [(0, 0)] cL (bD n _ _ y118 he) ?_
 clear he
 obtain ⟨y119, he, h⟩ := aB h
 refine zc zR (jH n _ y119 he) ?_
 clear he
 refine zk 2 ?_
 obtain ⟨l120, he, h⟩ := aB h
 refine cE (enc := aQ) (l := v113) (els := [(aZ.mk (⟨#[115, 112, 97, 110]⟩ : ByteArray) y119)]) (r := l120) (old := some 1) (e := 172) (sz := 5) (bytes := 72) (k := (G8 v113)) (nm := 11) he (by kernel_rfl) (by kernel_rfl) (fun x => by kernel_rfl) (by kernel_rfl) (by kernel_rfl) rfl rfl rfl ?_
 clear he
 refine zk 1 ?_
 refine bY ?_
 exact eU (zv [(0, 0), (11, 1)] [0, 1, 5] 2) (hj116 _ _ _ h)
 exact aJ (zv [(0, 0), (1, 1)] [0, 1, 5] 2) (aC (hj116 _ _ _ h))
 refine zx fun _ => ?_
 refine zk 1 ?_
 obtain ⟨y109, he, h⟩ := aB h
 refine zo [(0, 0)] cL (bD n _ _ y109 he) ?_
 clear he
 refine zk 1 ?_
 refine ze [0, 1, 5, 147] ?_
 refine zi h (fun h => ?_) fun h => ?_
 refine aY ?_
 refine zy fun _ => ?_
 refine zk 2 ?_
 obtain ⟨y110, he, h⟩ := aB h
 refine zo [(0, 0)] cL (bD n _ _ y110 he) ?_
 clear he
 obtain ⟨y111, he, h⟩ := aB h
 refine zc zR (jH n _ y111 he) ?_
 clear he
 refine zk 2 ?_
 obtain ⟨l112, he, h⟩ := aB h
 refine cE (enc := aQ) (l := v105) (els := [(aZ.mk (⟨#[115, 99, 97, 108, 101]⟩ : ByteArray) y111)]) (r := l112) (old := some 1) (e := 172) (sz := 5) (bytes := 72) (k := (G8 v105)) (nm := 11) he (by kernel_rfl) (by kernel_rfl) (fun x => by kernel_rfl) (by kernel_rfl) (by kernel_rfl) rfl rfl rfl ?_
 clear he
 refine zk 1 ?_
 refine bY ?_
 exact eU (zv [(0, 0), (11, 1)] [0, 1, 5] 2) (hj108 _ _ _ h)
 exact aJ (zv [(0, 0), (1, 1)] [0, 1, 5] 2) (aC (hj108 _ _ _ h))
 refine zx fun _ => ?_
 refine zk 1 ?_
 obtain ⟨y102, he, h⟩ := aB h
 refine zo [(0, 0)] cL (bD n _ _ y102 he) ?_
 clear he
 refine zk 1 ?_
 refine ze [0, 1, 5, 139] ?_
 refine zi h (fun h => ?_) fun h => ?_
 refine aY ?_
 refine zy fun _ => ?_
 refine zk 1 ?_
 obtain ⟨y103, he, h⟩ := aB h
 refine zc Jn (pP n _ y103 he) ?_
 clear he
 refine zk 2 ?_
 obtain ⟨l104, he, h⟩ := aB h
 refine cE (enc := aQ) (l := v98) (els := [(aZ.mk (⟨#[112, 105, 110, 110, 101, 100]⟩ : ByteArray) y103)]) (r := l104) (old := some 1) (e := 172) (sz := 5) (bytes := 72) (k := (G8 v98)) (nm := 9) he (by kernel_rfl) (by kernel_rfl) (fun x => by kernel_rfl) (by kernel_rfl) (by kernel_rfl) rfl rfl rfl ?_
 clear he
 refine zk 1 ?_
 refine bY ?_
 exact eU (zv [(0, 0), (9, 1)] [0, 1, 5] 2) (hj101 _ _ _ h)
 exact aJ (zv [(0, 0), (1, 1)] [0, 1, 5] 2) (aC (hj101 _ _ _ h))
 refine zx fun _ => ?_
 refine zk 1 ?_
 obtain ⟨y93, he, h⟩ := aB h
 refine zo [(0, 0)] cL (bD n _ _ y93 he) ?_
 clear he
 refine zk 1 ?_
 refine ze [0, 1, 5, 124] ?_
 refine zi h (fun h => ?_) fun h => ?_
 refine aY ?_
 refine zy fun _ => ?_
 refine zk 2 ?_
 obtain ⟨y94, he, h⟩ := aB h
 refine zo [(0, 0)] cL (bD n _ _ y94 he) ?_
 clear he
 refine zk 3 ?_
 refine zw (v := .c (Sx (dC [G7 y94.1]))) [] (mB (ns := [G7 y94.1]) (by kernel_rfl)) ?_
 obtain ⟨s95, he, h⟩ := aB h
 refine zw (v := .c (Sx s95)) [] (Jb (p := (⟨#[107]⟩ : ByteArray)) (q := (dC [G7 y94.1])) he (by kernel_rfl)) ?_
 clear he
 obtain ⟨y96, he, h⟩ := aB h
 refine zc Dv (nB n _ y96 he) ?_
 clear he
 refine zk 2 ?_
 obtain ⟨l97, he, h⟩ := aB h
 refine cE (enc := aQ) (l := v89) (els := [(aZ.mk (⟨#[108, 101, 102, 116]⟩ : ByteArray) y96)]) (r := l97) (old := some 1) (e := 172) (sz := 5) (bytes := 72) (k := (G8 v89)) (nm := 16) he (by kernel_rfl) (by kernel_rfl) (fun x => by kernel_rfl) (by kernel_rfl) (by kernel_rfl) rfl rfl rfl ?_
 clear he
 refine zk 1 ?_
 refine bY ?_
 exact eU (zv [(0, 0), (16, 1)] [0, 1, 5] 2) (hj92 _ _ _ h)
 exact aJ (zv [(0, 0), (1, 1)] [0, 1, 5] 2) (aC (hj92 _ _ _ h))
 refine zx fun _ => ?_
 refine zk 1 ?_
 obtain ⟨y85, he, h⟩ := aB h
 refine zo [(0, 0)] cL (bD n _ _ y85 he) ?_
 clear he
 refine zk 1 ?_
 refine ze [0, 1, 5, 114] ?_
 refine zi h (fun h => ?_) fun h => ?_
 refine aY ?_
 refine zy fun _ => ?_
 refine zk 2 ?_
 obtain ⟨y86, he, h⟩ := aB h
 refine zo [(0, 0)] cL (bD n _ _ y86 he) ?_
 clear he
 obtain ⟨y87, he, h⟩ := aB h
 refine zc Jn (pP n _ y87 he) ?_
 clear he
 refine zk 2 ?_
 obtain ⟨l88, he, h⟩ := aB h
 refine cE (enc := aQ) (l := v81) (els := [(aZ.mk (⟨#[104, 105, 100, 100, 101, 110]⟩ : ByteArray) y87)]) (r := l88) (old := some 1) (e := 172) (sz := 5) (bytes := 72) (k := (G8 v81)) (nm := 11) he (by kernel_rfl) (by kernel_rfl) (fun x => by kernel_rfl) (by kernel_rfl) (by kernel_rfl) rfl rfl rfl ?_
 clear he
 refine zk 1 ?_
 refine bY ?_
 exact eU (zv [(0, 0), (11, 1)] [0, 1, 5] 2) (hj84 _ _ _ h)
 exact aJ (zv [(0, 0), (1, 1)] [0, 1, 5] 2) (aC (hj84 _ _ _ h))
 refine zx fun _ => ?_
 refine zk 3 ?_
 refine zE (A7 p1) ?_
 refine zE (B3 (p1 == 13)) ?_
 refine zP (.bool ((p1 == 5) || (p1 == 13))) ?_
 refine zk 1 ?_
 refine zE (C3 0 0) ?_
 obtain ⟨y77, he, h⟩ := aB h
 refine Am (e := [!((p1 == 5) || (p1 == 13))]) [(101, C3 0 0, some 1)] (F := 15) (As := [C3 0 0, .c (I 9)]) (Bs := [C3 0 0, .c (I 9)]) (σ := [(0, 0)]) (k := 1) (Gc := [A0 v74 v75]) (Gf := [D5 y77.2]) (r := .c (I y77.1)) (v := .c (I y77.1)) (by kernel_rfl) (by kernel_rfl) (by kernel_rfl) (by kernel_rfl) (by kernel_rfl) (by kernel_rfl) cL ⟨.inr ⟨(by kernel_rfl), (by kernel_rfl)⟩, ⟨.inl (by kernel_rfl), trivial⟩⟩ (fun hg => bD n _ _ y77 (Wi he hg)) (by kernel_rfl) (by kernel_rfl) (by kernel_rfl) (fun hg => by rw [Uz he hg]; kernel_rfl) (by kernel_rfl) rfl rfl rfl ?_
 clear he
 refine zE (B3 (y77.1 == 0)) ?_
 refine zP (.bool (((p1 == 5) || (p1 == 13)) || (y77.1 == 0))) ?_
 refine ze [0, 1, 5, 104] ?_
 refine zi h (fun h => ?_) fun h => ?_
 refine aY ?_
 refine zy fun _ => ?_
 refine zk 2 ?_
 obtain ⟨y78, he, h⟩ := aB h
 refine zo [(0, 0)] cL (bD n _ _ y78 he) ?_
 clear he
 obtain ⟨y79, he, h⟩ := aB h
 refine zc zR (jH n _ y79 he) ?_
 clear he
 refine zk 2 ?_
 obtain ⟨l80, he, h⟩ := aB h
 refine cE (enc := aQ) (l := v73) (els := [(aZ.mk (⟨#[104, 101, 105, 103, 104, 116]⟩ : ByteArray) y79)]) (r := l80) (old := some 1) (e := 172) (sz := 5) (bytes := 72) (k := (G8 v73)) (nm := 19) he (by kernel_rfl) (by kernel_rfl) (fun x => by kernel_rfl) (by kernel_rfl) (by kernel_rfl) rfl rfl rfl ?_
 clear he
 refine zk 1 ?_
 refine bY ?_
 exact eU (zv [(0, 0), (19, 1)] [0, 1, 5] 2) (hj76 _ _ _ h)
 exact aJ (zv [(0, 0), (1, 1)] [0, 1, 5] 2) (aC (hj76 _ _ _ h))
 refine zx fun _ => ?_
 refine zk 1 ?_
 obtain ⟨y69, he, h⟩ := aB h
 refine zo [(0, 0)] cL (bD n _ _ y69 he) ?_
 clear he
 refine zk 1 ?_
 refine ze [0, 1, 5, 86] ?_
 refine zi h (fun h => ?_) fun h => ?_
 refine aY ?_
 refine zy fun _ => ?_
 refine zk 2 ?_
 obtain ⟨y70, he, h⟩ := aB h
 refine zo [(0, 0)] cL (bD n _ _ y70 he) ?_
 clear he
 obtain ⟨y71, he, h⟩ := aB h
 refine zc Jn (pP n _ y71 he) ?_
 clear he
 refine zk 2 ?_
 obtain ⟨l72, he, h⟩ := aB h
 refine cE (enc := aQ) (l := v65) (els := [(aZ.mk (⟨#[100, 105, 115, 97, 98, 108, 101, 100]⟩ : ByteArray) y71)]) (r := l72) (old := some 1) (e := 172) (sz := 5) (bytes := 72) (k := (G8 v65)) (nm := 11) he (by kernel_rfl) (by kernel_rfl) (fun x => by kernel_rfl) (by kernel_rfl) (by kernel_rfl) rfl rfl rfl ?_
 clear he
 refine zk 1 ?_
 refine bY ?_
 exact eU (zv [(0, 0), (11, 1)] [0, 1, 5] 2) (hj68 _ _ _ h)
 exact aJ (zv [(0, 0), (1, 1)] [0, 1, 5] 2) (aC (hj68 _ _ _ h))
 refine zx fun _ => ?_
 refine zk 1 ?_
 obtain ⟨y36, he, h⟩ := aB h
 refine zo [(0, 0)] cL (bD n _ _ y36 he) ?_
 clear he
 refine zk 1 ?_
 refine ze [0, 1, 5, 60] ?_
 refine zi h (fun h => ?_) fun h => ?_
 refine za [0, 1, 5, 6] ?_
 refine aV h (fun A j => ∀ v61 v62 v63, j v61 v62 v63 = some r → A (mk [G9, C7 1 p1, (5, .c (.app 1 (List.map aQ v32))), A2 6 2 0] [A0 v61 v62, B7 1 172 5 v32, (2, .blk 152 [I 4, I 0, Sx (⟨#[]⟩ : ByteArray), K6 3 v63]), B7 3 152 4 v63] 4)) (fun v61 v62 v63 h => ?_) (fun j37 Aj37 hj37 h => ?_)
 refine aY ?_
 refine zy fun _ => ?_
 refine zk 4 ?_
 obtain ⟨l64, he, h⟩ := aB h
 refine cE (enc := aQ) (l := v32) (els := [(aZ.mk (⟨#[99, 111, 108, 117, 109, 110, 115]⟩ : ByteArray) (aD.mk 4 0 (⟨#[]⟩ : ByteArray) v63))]) (r := l64) (old := some 1) (e := 172) (sz := 5) (bytes := 72) (k := (G8 v32)) (nm := 8) he (by kernel_rfl) (by kernel_rfl) (fun x => by kernel_rfl) (by kernel_rfl) (by kernel_rfl) rfl rfl rfl ?_
 clear he
 refine zk 1 ?_
 refine bY ?_
 exact eU (zv [(0, 0), (8, 1)] [0, 1, 5] 2) (hj35 _ _ _ h)
 refine zx fun _ => ?_
 refine zk 1 ?_
 obtain ⟨y38, he, h⟩ := aB h
 refine zo [(0, 0)] Rc (pJ n _ _ _ y38 he) ?_
 clear he
 refine zk 1 ?_
 refine ze [0, 1, 5, 6, 7] ?_
 refine aI ?_
 refine bH (fun n s => ∃ v46 v47 v48 v49, jR j37 p1 v32 n v46 v47 v48 v49 = some r ∧ s = mk [G9, C7 1 p1, (5, .c (.app 1 (List.map aQ v32))), A2 6 2 0, C7 7 v46] [A0 v47 v48, B7 1 172 5 v32, (2, .blk 152 [I 4, I 0, Sx (⟨#[]⟩ : ByteArray), K6 3 v49]), B7 3 152 4 v49] 4) n _ (dY.trans (lU (n := 6) (T0 := 152) (l := [I 4, I 0, Sx (⟨#[]⟩ : ByteArray), cJ]) (G2 := [D5 y38.2, B7 1 172 5 v32, (6, .blk 152 [I 4, I 0, Sx (⟨#[]⟩ : ByteArray), .app 11 (List.map aL ([] : List aD))]), (11, .tok 152 4 (List.length ([] : List aD)))]) (lim2 := 12) 3 152 4 (by kernel_rfl) (by kernel_rfl) (by kernel_rfl) (by kernel_rfl)) (zv [(0, 0), (1, 1), (6, 2), (11, 3)] [0, 1, 5, 6, 7] 4)) ⟨_, _, _, _, h, rfl⟩ (fun s ⟨v46, v47, v48, v49, h, _⟩ => nomatch h) ?_
 rintro n s ⟨v46, v47, v48, v49, h, rfl⟩
 rw [jR] at h
 refine aN ?_
 refine za [0, 1, 5, 6, 7, 65] ?_
 refine zi h (fun h => ?_) fun h => ?_
 refine aC ?_
 refine aN ?_
 refine aI ?_
 refine Tm [[], [0], [], [], [3], [2, 4, 3], [5, 2, 4, 3], [6, 4, 5, 2, 3], [7, 6, 4, 5, 2, 3], [1, 8, 7, 0, 6, 4, 5, 2, 3], [0, 1, 2, 3, 4, 5, 6, 7, 8, 9], [10, 9, 0, 1, 2, 3, 4, 5, 6, 7, 8]] fun _ => ?_
 refine zk 4 ?_
 obtain ⟨y50, he, h⟩ := aB h
 refine zo [(0, 0)] cL (bD n _ _ y50 he) ?_
 clear he
 obtain ⟨e51, he, h⟩ := aB h
 refine zd aO he ?_
 clear he
 refine zk 1 ?_
 obtain ⟨y52, he, h⟩ := aB h
 refine zc zR (jH n _ y52 he) ?_
 clear he
 refine qZ (e := 152) (sz := 4) (len := 1) (r := [I y52.Kind, I y52.N, Sx y52.S, C2 y52.L]) (l' := List.map aL [y52]) (nm := 14) (by kernel_rfl) (by simp only [List.map_cons, List.map_nil, dO]; kernel_rfl) (by kernel_rfl) (by kernel_rfl) rfl rfl rfl ?_
 obtain ⟨l53, he, h⟩ := aB h
 refine cE (enc := aL) (l := v49) (els := [y52]) (r := l53) (old := some 3) (e := 152) (sz := 4) (bytes := 56) (k := (G8 v49)) (nm := 15) he (by kernel_rfl) (by kernel_rfl) (fun x => by rw [dO]; rfl) (by kernel_rfl) (by kernel_rfl) rfl rfl rfl ?_
 clear he
 refine zk 2 ?_
 refine bY ?_
 refine aY ?_
 refine zb ?_
 exact eU (zv [(0, 0), (1, 1), (2, 2), (15, 3)] [0, 1, 5, 6, 7] 4) (⟨_, _, _, _, h, rfl⟩)
 exact aJ (zv [(0, 0), (1, 1), (2, 2), (3, 3)] [0, 1, 5, 6] 4) (bI (hj37 _ _ _ h))
 exact aJ (zv [(0, 0), (1, 1)] [0, 1, 5] 2) (aC (hj35 _ _ _ h))
 refine zx fun _ => ?_
 refine zk 1 ?_
 obtain ⟨y28, he, h⟩ := aB h
 refine zo [(0, 0)] cL (bD n _ _ y28 he) ?_
 clear he
 refine zk 1 ?_
 refine ze [0, 1, 5, 50] ?_
 refine zi h (fun h => ?_) fun h => ?_
 refine aY ?_
 refine zy fun _ => ?_
 refine zk 2 ?_
 obtain ⟨y29, he, h⟩ := aB h
 refine zo [(0, 0)] Xa (vA n _ y29 he) ?_
 clear he
 obtain ⟨y30, he, h⟩ := aB h
 refine zc Dv (nB n _ y30 he) ?_
 clear he
 refine zk 2 ?_
 obtain ⟨l31, he, h⟩ := aB h
 refine cE (enc := aQ) (l := v24) (els := [(aZ.mk (⟨#[99, 108, 97, 115, 115]⟩ : ByteArray) y30)]) (r := l31) (old := some 1) (e := 172) (sz := 5) (bytes := 72) (k := (G8 v24)) (nm := 11) he (by kernel_rfl) (by kernel_rfl) (fun x => by kernel_rfl) (by kernel_rfl) (by kernel_rfl) rfl rfl rfl ?_
 clear he
 refine zk 1 ?_
 refine bY ?_
 exact eU (zv [(0, 0), (11, 1)] [0, 1, 5] 2) (hj27 _ _ _ h)
 exact aJ (zv [(0, 0), (1, 1)] [0, 1, 5] 2) (aC (hj27 _ _ _ h))
 refine zx fun _ => ?_
 refine zk 1 ?_
 obtain ⟨y20, he, h⟩ := aB h
 refine zo [(0, 0)] cL (bD n _ _ y20 he) ?_
 clear he
 refine zk 1 ?_
 refine ze [0, 1, 5, 40] ?_
 refine zi h (fun h => ?_) fun h => ?_
 refine aY ?_
 refine zy fun _ => ?_
 refine zk 2 ?_
 obtain ⟨y21, he, h⟩ := aB h
 refine zo [(0, 0)] cL (bD n _ _ y21 he) ?_
 clear he
 obtain ⟨y22, he, h⟩ := aB h
 refine zc Jn (pP n _ y22 he) ?_
 clear he
 refine zk 2 ?_
 obtain ⟨l23, he, h⟩ := aB h
 refine cE (enc := aQ) (l := v16) (els := [(aZ.mk (⟨#[99, 104, 101, 99, 107, 101, 100]⟩ : ByteArray) y22)]) (r := l23) (old := some 1) (e := 172) (sz := 5) (bytes := 72) (k := (G8 v16)) (nm := 11) he (by kernel_rfl) (by kernel_rfl) (fun x => by kernel_rfl) (by kernel_rfl) (by kernel_rfl) rfl rfl rfl ?_
 clear he
 refine zk 1 ?_
 refine bY ?_
 exact eU (zv [(0, 0), (11, 1)] [0, 1, 5] 2) (hj19 _ _ _ h)
 exact aJ (zv [(0, 0), (1, 1)] [0, 1, 5] 2) (aC (hj19 _ _ _ h))
 refine zx fun _ => ?_
 refine zk 1 ?_
 obtain ⟨y11, he, h⟩ := aB h
 refine zo [(0, 0)] cL (bD n _ _ y11 he) ?_
 clear he
 refine zk 1 ?_
 refine ze [0, 1, 5, 25] ?_
 refine zi h (fun h => ?_) fun h => ?_
 refine aY ?_
 refine zy fun _ => ?_
 refine zk 2 ?_
 obtain ⟨y12, he, h⟩ := aB h
 refine zo [(0, 0)] cL (bD n _ _ y12 he) ?_
 clear he
 refine zk 3 ?_
 refine zw (v := .c (Sx (dC [G7 y12.1]))) [] (mB (ns := [G7 y12.1]) (by kernel_rfl)) ?_
 obtain ⟨s13, he, h⟩ := aB h
 refine zw (v := .c (Sx s13)) [] (Jb (p := (⟨#[107]⟩ : ByteArray)) (q := (dC [G7 y12.1])) he (by kernel_rfl)) ?_
 clear he
 obtain ⟨y14, he, h⟩ := aB h
 refine zc Dv (nB n _ y14 he) ?_
 clear he
 refine zk 2 ?_
 obtain ⟨l15, he, h⟩ := aB h
 refine cE (enc := aQ) (l := v7) (els := [(aZ.mk (⟨#[97, 108, 105, 103, 110, 108, 101, 102, 116]⟩ : ByteArray) y14)]) (r := l15) (old := some 1) (e := 172) (sz := 5) (bytes := 72) (k := (G8 v7)) (nm := 16) he (by kernel_rfl) (by kernel_rfl) (fun x => by kernel_rfl) (by kernel_rfl) (by kernel_rfl) rfl rfl rfl ?_
 clear he
 refine zk 1 ?_
 refine bY ?_
 exact eU (zv [(0, 0), (16, 1)] [0, 1, 5] 2) (hj10 _ _ _ h)
 exact aJ (zv [(0, 0), (1, 1)] [0, 1, 5] 2) (aC (hj10 _ _ _ h))
 refine zx fun _ => ?_
 refine zk 1 ?_
 obtain ⟨y2, he, h⟩ := aB h
 refine zo [(0, 0)] cL (bD n _ _ y2 he) ?_
 clear he
 refine zk 1 ?_
 refine ze [0, 1, 5, 10] ?_
 refine zi h (fun h => ?_) fun h => ?_
 refine aY ?_
 refine zy fun _ => ?_
 refine zk 2 ?_
 obtain ⟨y3, he, h⟩ := aB h
 refine zo [(0, 0)] cL (bD n _ _ y3 he) ?_
 clear he
 refine zk 3 ?_
 refine zw (v := .c (Sx (dC [G7 y3.1]))) [] (mB (ns := [G7 y3.1]) (by kernel_rfl)) ?_
 obtain ⟨s4, he, h⟩ := aB h
 refine zw (v := .c (Sx s4)) [] (Jb (p := (⟨#[107]⟩ : ByteArray)) (q := (dC [G7 y3.1])) he (by kernel_rfl)) ?_
 clear he
 obtain ⟨y5, he, h⟩ := aB h
 refine zc Dv (nB n _ y5 he) ?_
 clear he
 refine zk 2 ?_
 obtain ⟨l6, he, h⟩ := aB h
 refine cE (enc := aQ) (l := ([] : List aZ)) (els := [(aZ.mk (⟨#[97, 98, 111, 118, 101]⟩ : ByteArray) y5)]) (r := l6) (old := none) (e := 172) (sz := 5) (bytes := 72) (k := 0) (nm := 17) he (by kernel_rfl) (by kernel_rfl) (fun x => by kernel_rfl) (by kernel_rfl) (by kernel_rfl) rfl rfl rfl ?_
 clear he
 refine zk 1 ?_
 refine bY ?_
 exact eU (zv [(0, 0), (17, 1)] [0, 1, 5] 2) (hj1 _ _ _ h)
 exact aJ (dY.trans (mY (L2 := [G9, C7 1 p1, (5, .c (.app 6 (List.map aQ ([] : List aZ)))), (10, B3 (y2.1 == 0))]) (G2 := [D5 y2.2, (6, .tok 172 5 (List.length ([] : List aZ)))]) (lim2 := 7) 5 172 5 (by kernel_rfl) (by kernel_rfl) (by kernel_rfl) (by kernel_rfl)) (zv [(0, 0), (6, 1)] [0, 1, 5] 2)) (aC (hj1 _ _ _ h))
end Go.Proofs.YtojkihhnioeggaaGreatDoor.S
