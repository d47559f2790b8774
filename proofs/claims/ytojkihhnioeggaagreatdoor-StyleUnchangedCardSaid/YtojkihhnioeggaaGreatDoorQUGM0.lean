import Derived.Test.YtojkihhnioeggaaGreatDoorQUGVs
set_option linter.unusedVariables false
set_option linter.unusedSimpArgs false
set_option maxRecDepth 100000
set_option maxHeartbeats 4000000
namespace Go.Proofs.YtojkihhnioeggaaGreatDoor.S
open Go Go.Bm
abbrev A0 (a : eI) := bC.blk 92 [CV.lmap true (List.map (eM (Value.int .i64) aE) a.nodes), CV.lmap false (List.map (eM (Value.int .i64) eS) a.class_), CV.lmap false (List.map (eM (Value.int .i64) aH) a.states)]
abbrev A1 (a b) := AV.c (CV.ptr a b)
abbrev A2 (a b) := (0, bC.blk 78 [CV.lit (List.map aH a), I b])
abbrev A3 (a b c : Int) := (decide (a < b)) || (decide (a > c))
abbrev A4 (a : aP) := bC.blk 58 [I a.ID, I a.Parent, I a.Kind, Sx a.Key, CV.lit (List.map aM a.Attrs), CV.lit (List.map aD a.Actions), CV.lit (List.map aH a.Kids)]
abbrev A5 (a : eI) (b c d e f g) := bC.blk 95 [CV.lmap true (List.map (eM (Value.int .i64) aE) a.nodes), CV.lmap false (List.map (eM (Value.int .i64) eS) a.class_), CV.lmap false (List.map (eM (Value.int .i64) aH) a.states), CV.lit (List.map bF b), CV.lit (List.map aH c), CV.lit (List.map bQ d), Bo e, Bo f, I g]
abbrev A6 (a) := AV.c (I a)
abbrev A7 (a : aJ) := bC.blk 70 [I a.Kind, Sx a.Key, CV.lit (List.map aM a.Attrs), CV.lit (List.map aD a.Actions), CV.lit (List.map bE a.Kids)]
abbrev A8 (a : aA) := bC.blk 52 [I a.x0, I a.x1, I a.x2, I a.x3, I a.x4, I a.x5, I a.x6, I a.x7, I a.x8, I a.x9, I a.x10, I a.x11, I a.x12, I a.x13, I a.x14, I a.x15, I a.x16, I a.x17, I a.x18, I a.x19, I a.x20, I a.x21]
abbrev A9 := Value.int .i64
abbrev B0 (a : aJ) := AV.agg [I a.Kind, Sx a.Key, CV.lit (List.map aM a.Attrs), CV.lit (List.map aD a.Actions), CV.lit (List.map bE a.Kids)]
abbrev B1 (a : bA) := bC.blk 27 [I a.Root, I a.Next, CV.lit (List.map aE a.Nodes)]
abbrev B2 (a) := AV.c (Bo a)
abbrev B3 (a : bY) := bC.blk 63 [I a.Kind, Sx a.Class, I a.States, I a.UnderKind, Sx a.UnderClass, CV.lit (List.map bZ a.Decls)]
abbrev B4 (a : aP) := AV.agg [I a.ID, I a.Parent, I a.Kind, Sx a.Key, CV.lit (List.map aM a.Attrs), CV.lit (List.map aD a.Actions), CV.lit (List.map aH a.Kids)]
abbrev B5 (a : aF) := AV.agg [I a.Kind, I a.N, Sx a.S, CV.lit (List.map aQ a.L)]
abbrev B6 (a) := AV.c (CV.lit (List.map aW a))
abbrev B7 {α3 : Type} (a b c) (d : List α3) := ((a, bC.tok b c (List.length d)) : Nat × _)
abbrev B8 (a : aA) := AV.c (CV.imm [I a.x0, I a.x1, I a.x2, I a.x3, I a.x4, I a.x5, I a.x6, I a.x7, I a.x8, I a.x9, I a.x10, I a.x11, I a.x12, I a.x13, I a.x14, I a.x15, I a.x16, I a.x17, I a.x18, I a.x19, I a.x20, I a.x21])
abbrev B9 (a) (b : aA) := CV.imm [I a, I b.x0, I b.x1, I b.x2, I b.x3, I b.x4, I b.x5, I b.x6, I b.x7, I b.x8, I b.x9, I b.x10, I b.x11, I b.x12, I b.x13, I b.x14, I b.x15, I b.x16, I b.x17, I b.x18, I b.x19, I b.x20, I b.x21]
abbrev C0 (a b c) := ((a, A1 b c) : Nat × _)
abbrev C1 (a) := CV.lit (List.map aH a)
abbrev C2 (a) := CV.lmap true (List.map (eM (A9) aE) a)
abbrev C3 (a : aV) := AV.agg [I a.Kind, CV.lit (List.map bI a.Of)]
abbrev C4 (a) := CV.lmap false (List.map (eM (A9) eS) a)
abbrev C5 (a) := CV.lit (List.map aQ a)
abbrev C6 (a b) := ((a, A6 b) : Nat × _)
abbrev C7 (a) := CV.lit (List.map aM a)
abbrev C8 (a : bA) := AV.agg [I a.Root, I a.Next, CV.lit (List.map aE a.Nodes)]
abbrev C9 (a) := CV.lit (List.map aD a)
abbrev D2 (a b : Int) := IntKind.wrap .i64 (a + b)
abbrev D3 (a) := CV.lit (List.map bF a)
abbrev D4 := bC.blk 52 [I 0, I 0, I 0, I 0, I 0, I 0, I 0, I 0, I 0, I 0, I 0, I 0, I 0, I 0, I 0, I 0, I 0, I 0, I 0, I 0, I 0, I 0]
abbrev D5 (a b c d) := mk [C0 0 0 0, C6 1 a, (5, AV.c (CV.app 1 (List.map aM b)))] [A2 c d, B7 1 172 5 b] 2
abbrev D6 (a) := CV.lmap false (List.map (eM (A9) aH) a)
abbrev D7 (a b c : Int) := (decide (a ≥ b)) && (decide (a ≤ c))
abbrev D8 (a) (b : aA) := AV.agg [I a, I b.x0, I b.x1, I b.x2, I b.x3, I b.x4, I b.x5, I b.x6, I b.x7, I b.x8, I b.x9, I b.x10, I b.x11, I b.x12, I b.x13, I b.x14, I b.x15, I b.x16, I b.x17, I b.x18, I b.x19, I b.x20, I b.x21]
abbrev D9 (a b : Int) := decide (a < b)
abbrev E0 (a : aN) := A2 a.L a.At
abbrev E1 (a : aF) := bC.blk 152 [I a.Kind, I a.N, Sx a.S, C5 a.L]
abbrev E2 (a b : Int) := decide (a > b)
abbrev E3 (a : cY) := bC.blk 38 [Bo a.Dark, Bo a.High, I a.Scale]
abbrev E4 (a) := CV.lit (List.map bQ a)
abbrev E5 (a : aJ) := CV.imm [I a.Kind, Sx a.Key, C7 a.Attrs, C9 a.Actions, CV.lit (List.map bE a.Kids)]
abbrev E6 (a b) := ((a, AV.c (CV.mapr b)) : Nat × _)
abbrev E7 (a b c) := aA.set a b c
abbrev E8 := aU.mk 1073741824 (aA.mk 0 0 0 0 0 0 0 0 0 0 0 0 0 0 0 0 0 0 0 0 0 0)
abbrev E9 (a) := CV.lit (List.map bI a)
abbrev F0 (a) := AV.c (CV.lit (List.map bL a))
abbrev F1 (a) := AV.c (Sx a)
abbrev F2 (a : bY) := AV.agg [I a.Kind, Sx a.Class, I a.States, I a.UnderKind, Sx a.UnderClass, CV.lit (List.map bZ a.Decls)]
abbrev F3 (a) := (0, bC.vec 3 1 (List.map aH a))
abbrev F4 (a) := List.map (eM (A9) eB) a
abbrev F5 (a : bM) := bC.blk 81 [I a.Prop_, I a.Source, I a.N, Sx a.Token]
abbrev F6 (a : Int) := IntKind.wrap .i64 (a - 1)
abbrev F7 (a) := AV.c (CV.lit (List.map aE a))
abbrev F8 (a b c d e) (f : cY) := ((a, A5 b c d e f.Dark f.High f.Scale) : Nat × _)
abbrev F9 (a : aA) := AV.agg [I a.x0, I a.x1, I a.x2, I a.x3, I a.x4, I a.x5, I a.x6, I a.x7, I a.x8, I a.x9, I a.x10, I a.x11, I a.x12, I a.x13, I a.x14, I a.x15, I a.x16, I a.x17, I a.x18, I a.x19, I a.x20, I a.x21]
abbrev G0 (a) := A3 a 97 122
abbrev G3 (a) := (0, bC.blk 3 [I a])
abbrev G4 := bC.blk 190 [I 0, cQ]
abbrev G5 (a : cU) := bC.blk 159 [Sx a.Event, Sx a.Instance, Sx a.Handler, C5 a.Args]
abbrev G6 (a) (b : aF) := CV.imm [Sx a, I b.Kind, I b.N, Sx b.S, C5 b.L]
abbrev G7 (a) := AV.c (CV.fn 38 [CV.imm [D3 a]])
abbrev G8 (a) := CV.lit (List.map bE a)
abbrev G9 (a) := List.map (eM (A9) bZ) a
abbrev H0 (a b c) := ((a, bC.blk b [CV.row c]) : Nat × _)
abbrev H1 (a b) := ((a, AV.c (C1 b)) : Nat × _)
abbrev H3 (a) := bC.vec 58 7 (List.map aE a)
abbrev H4 {α0 : Type} (a : List α0) := List.length a
abbrev H5 (a) := IntKind.wrap .u8 (D2 97 a)
abbrev H6 (a : cY) := AV.agg [Bo a.Dark, Bo a.High, I a.Scale]
abbrev H7 := C0 0 0 0
abbrev H8 (a) := List.map (eM (A9) aE) a
abbrev H9 (a : aN) := (2, bC.blk 78 [C1 a.L, I a.At])
abbrev I0 (a : eI) := AV.agg [C2 a.nodes, C4 a.class_, D6 a.states]
abbrev I1 := C0 3 0 0
abbrev I2 (a) := (2, A6 (D2 a 1))
abbrev I3 := C0 4 1 0
abbrev I4 (a : aV) := bC.blk 190 [I a.Kind, E9 a.Of]
abbrev I5 (a) := AV.c (U8 a)
abbrev I6 (a) := bC.vec 63 6 (List.map bF a)
abbrev I7 (a b : Int) := decide (a ≤ b)
abbrev I8 (a b : Int) := decide (a ≥ b)
abbrev I9 (a) := ((a, AV.c (I 0)) : Nat × _)
abbrev J0 (a) := A3 a 65 90
abbrev J1 (a) := E2 a 1099511627776
abbrev J2 (a : aF) := CV.imm [I a.Kind, I a.N, Sx a.S, C5 a.L]
abbrev J3 := C0 2 0 0
abbrev J4 (a) := bC.blk 31 [D3 a]
abbrev J5 (a b) := B2 (D9 a b)
abbrev J6 (a : cU) := CV.imm [Sx a.Event, Sx a.Instance, Sx a.Handler, C5 a.Args]
abbrev J7 := (1, bC.blk 92 [CV.mapr 2, CV.mapr 3, CV.mapr 4])
abbrev J8 (a b c) := ((a, AV.c (CV.app b (List.map nW c))) : Nat × _)
abbrev J9 := AV.c (CV.row 0)
abbrev K0 (a b c d e f g) := bC.blk 58 [I a, I b, I c, Sx d, C7 e, C9 f, C1 g]
abbrev K1 (a) := I7 a 1152921504606846976
abbrev K2 (a b) := ((a, B2 b) : Nat × _)
abbrev K3 (a b) := CV.app a (List.map bE b)
abbrev K4 (a b) := ((a, AV.c (CV.lit (List.map bZ b))) : Nat × _)
abbrev K5 := List (Int × aP)
abbrev K6 (a b) (c : eI) (d e f g h i) := ((a, bC.blk b [C2 c.nodes, C4 c.class_, D6 c.states, D3 d, CV.row e, E4 f, Bo g, Bo h, I i]) : Nat × _)
abbrev K7 (a : aV) := CV.imm [I a.Kind, E9 a.Of]
abbrev K8 (a) := AV.c (C5 a)
abbrev K9 (a) := (0, A0 a)
abbrev L0 (a) := bC.blk 35 [E4 a]
abbrev L3 (a b) := B2 (E2 a b)
abbrev L4 (a b) := ((a, B1 b) : Nat × _)
abbrev L5 (a b) := ((a, B6 b) : Nat × _)
abbrev L6 := C0 3 2 0
abbrev L7 (a) := A3 a 48 57
abbrev L8 (a) := AV.c (CV.lmap true (G9 a))
abbrev L9 (a b c d) := ((a, AV.cnd [b] (A1 c d)) : Nat × _)
abbrev M0 (a b) := CV.app a (List.map aQ b)
abbrev M1 (a b) := CV.app a (List.map aD b)
abbrev M2 := bC.blk 97 [I 0, I 0]
abbrev M3 (a b c) := ((a, AV.cnd [b] (A6 c)) : Nat × _)
abbrev M4 := List Int
abbrev M5 := C0 2 1 0
abbrev M6 := C0 4 0 0
abbrev M7 (a) := AV.c (CV.fn 101 [CV.imm [CV.lit (List.map bL a)]])
abbrev M8 (a) := AV.c (C2 a)
abbrev M9 := C0 3 1 0
abbrev N0 := C0 6 1 0
abbrev N1 (a) := List.map (eM Value.string eB) a
abbrev N2 (a) := A3 a 1 4
abbrev N3 := C0 1 0 0
abbrev N4 (a) := AV.c (C9 a)
def vT  (n : Nat) (p0 : (List Int)) : Option aN := (aS (fun (v3 : List Int) => some (aN.mk v3 0)) (fun (j1 : List Int → Option aN) => (if (decide ((List.length p0 : Int) > 4000)) = true then (Tp p0 0 4000).bind fun (l2 : List Int) => j1 l2 else j1 p0)))
theorem Li  (n : Nat) (p0 : (M4)) (r : aN) (h : vT n p0 = some r) : dI E 9 0 [.c (C1 p0)] [] (A1 0 0) [E0 r] := by
 refine gT Tryz.func9 rfl ?_
 unfold vT at h
 refine za [0] ?_
 refine aX h (fun A j => ∀ v3, j v3 = some r → A (mk [H1 0 v3] [] 0)) (fun v3 h => ?_) (fun j1 Aj1 hj1 h => ?_)
 refine za [2] ?_
 have h := Option.some.inj h
 subst h
 refine aL (yE rfl [(2, 0)] [2] (L2 := [J3]) (G2 := [(0, .blk 78 [C1 v3, I 0])]) (lim2 := 1) (by kernel_rfl)) ?_
 exact aI (Rj (.inl rfl) (by kernel_rfl) (by kernel_rfl))
 refine zx fun _ => ?_
 refine zk 1 ?_
 refine zl aH p0 ?_
 refine zk 1 ?_
 refine ze [0, 5] ?_
 refine zi h (fun h => ?_) fun h => ?_
 refine bB ?_
 refine zy fun _ => ?_
 refine zk 1 ?_
 obtain ⟨l2, he, h⟩ := aB h
 refine zw (v := .c (C1 l2)) [] (Il (enc := aH) (l := p0) (p := 0) (q := 4000) (sz := 1) he (by kernel_rfl) (fun x => by kernel_rfl)) ?_
 clear he
 refine zk 1 ?_
 refine cF ?_
 exact eZ (zv [] [0] 0) (hj1 _ h)
 exact aL (zv [] [0] 0) (aC (hj1 _ h))
def cN  (n : Nat) (p0 : aN) (p1 : Int) : Option (Int × aN) := (if ((decide (p0.At ≥ (List.length p0.L : Int))) || (decide (p1 < 1))) = true then some (0, p0) else (idx p0.L p0.At).bind fun (e1 : Int) => (nz p1).bind fun (d2 : Int) => (aS (fun (v4 : Int) => some (v4, (aN.mk p0.L (IntKind.wrap .i64 (p0.At + 1))))) (fun (j3 : Int → Option (Int × aN)) => (if (decide ((Int.tmod e1 p1) < 0)) = true then j3 (IntKind.wrap .i64 ((Int.tmod e1 p1) + p1)) else j3 (Int.tmod e1 p1)))))
theorem bG  (n : Nat) (p0 : aN) (p1 : Int) (r : (Int × aN)) (h : cN n p0 p1 = some r) : dI E 15 1 [A1 0 0, A6 p1] [E0 p0] (A6 r.1) [E0 r.2] := by
 refine gT Tryz.func15 rfl ?_
 unfold cN at h
 refine za [0, 1] ?_
 refine aO ?_
 refine Dm [[], [0], [1, 0], [2, 1, 0], [], [4], [5, 4], [6, 5, 4], [7, 6, 5, 4], [3, 8, 2, 1, 0, 7, 6, 5, 4], [9, 3, 8, 2, 1, 0, 7, 6, 5, 4], [10, 9, 3, 8, 2, 1, 0, 7, 6, 5, 4], [11, 10, 9, 3, 8, 2, 1, 0, 7, 6, 5, 4], [10, 12, 9, 3, 8, 2, 1, 0, 7, 6, 5, 4, 11]] fun _ => ?_
 refine zk 8 ?_
 refine zl aH p0.L ?_
 refine zk 2 ?_
 refine zE (A6 p1) ?_
 refine zE (J5 p1 1) ?_
 refine zP (.bool ((decide (p0.At ≥ (List.length p0.L : Int))) || (D9 p1 1))) ?_
 refine ze [0, 1, 19] ?_
 refine zi h (fun h => ?_) fun h => ?_
 refine za [4] ?_
 cases h
 exact aI zr
 refine aC ?_
 refine Dm [[], [0], [1, 0], [2, 1, 0], [], [4], [5, 4], [6, 5, 4], [3, 7, 2, 1, 0, 6, 5, 4], [8, 3, 7, 2, 1, 0, 6, 5, 4], [], [9, 10, 8, 3, 7, 2, 1, 0, 6, 5, 4], [11, 0, 1, 2, 3, 4, 5, 6, 7, 8, 9, 10]] fun _ => ?_
 refine zk 8 ?_
 obtain ⟨e1, he, h⟩ := aB h
 refine zd aH he ?_
 clear he
 refine zk 2 ?_
 obtain ⟨d2, he, h⟩ := aB h
 refine dT (v := .c (I (Int.tmod e1 p1))) (foot := []) (Vu (k := .i64) (x := e1) (y := p1) he (by kernel_rfl)) (by kernel_rfl) rfl rfl ?_
 clear he
 refine zk 1 ?_
 refine mC [0, 1, 5] (L2 := [H7, C6 1 p1, (5, A6 (Int.tmod e1 p1))]) (G2 := [E0 p0]) 29 ?_
 refine za [1, 5] ?_
 refine aX h (fun A j => ∀ v4, j v4 = some r → A (mk [C6 5 v4] [A2 p0.L (D2 p0.At 1)] 1)) (fun v4 h => ?_) (fun j3 Aj3 hj3 h => ?_)
 refine za [4] ?_
 cases h
 exact aI zr
 refine za [1, 5, 40] ?_
 refine zi h (fun h => ?_) fun h => ?_
 refine bB ?_
 refine zb ?_
 exact eZ (zv [(0, 0)] [5] 1) (hj3 _ h)
 exact aL (zv [(0, 0)] [5] 1) (aC (hj3 _ h))
def oC  (n : Nat) (p0 : ByteArray) : Option aF := some (aF.mk 3 0 p0 ([] : List aF))
theorem nG  (n : Nat) (p0 : ByteArray) (r : aF) (h : oC n p0 = some r) : dI E 116 0 [F1 p0] [] (B5 r) [] := by
 refine gT Tryz.func116 rfl ?_
 unfold oC at h
 refine za [0, 2] ?_
 refine za [2] ?_
 cases h
 exact aI zr
def qA  (n : Nat) (p0 : Int) : Option aF := some (aF.mk 2 p0 (⟨#[]⟩ : ByteArray) ([] : List aF))
theorem pV  (n : Nat) (p0 : Int) (r : aF) (h : qA n p0 = some r) : dI E 117 0 [A6 p0] [] (B5 r) [] := by
 refine gT Tryz.func117 rfl ?_
 unfold qA at h
 refine za [0, 2] ?_
 refine za [2] ?_
 cases h
 exact aI zr
def nJ  (n : Nat) (p0 : aN) : Option (ByteArray × aN) := (cN n p0 (List.length [(⟨#[97]⟩ : ByteArray), (⟨#[98]⟩ : ByteArray), (⟨#[99]⟩ : ByteArray), (⟨#[100]⟩ : ByteArray), (⟨#[120]⟩ : ByteArray), (⟨#[121]⟩ : ByteArray), (⟨#[105, 116, 101, 109]⟩ : ByteArray), (⟨#[110, 45, 49]⟩ : ByteArray)] : Int)).bind fun (y1 : (Int × aN)) => (idx [(⟨#[97]⟩ : ByteArray), (⟨#[98]⟩ : ByteArray), (⟨#[99]⟩ : ByteArray), (⟨#[100]⟩ : ByteArray), (⟨#[120]⟩ : ByteArray), (⟨#[121]⟩ : ByteArray), (⟨#[105, 116, 101, 109]⟩ : ByteArray), (⟨#[110, 45, 49]⟩ : ByteArray)] y1.1).bind fun (e2 : ByteArray) => some (e2, y1.2)
theorem vN  (n : Nat) (p0 : aN) (r : (ByteArray × aN)) (h : nJ n p0 = some r) : dI E 32 1 [A1 0 0] [E0 p0] (F1 r.1) [E0 r.2] := by
 refine gT Tryz.func32 rfl ?_
 unfold nJ at h
 refine za [0] ?_
 refine za [0, 3] ?_
 refine zx fun _ => ?_
 refine zk 3 ?_
 refine zl eS [(⟨#[97]⟩ : ByteArray), (⟨#[98]⟩ : ByteArray), (⟨#[99]⟩ : ByteArray), (⟨#[100]⟩ : ByteArray), (⟨#[120]⟩ : ByteArray), (⟨#[121]⟩ : ByteArray), (⟨#[105, 116, 101, 109]⟩ : ByteArray), (⟨#[110, 45, 49]⟩ : ByteArray)] ?_
 obtain ⟨y1, he, h⟩ := aB h
 refine zo [(0, 0)] cS (bG n _ _ y1 he) ?_
 clear he
 obtain ⟨e2, he, h⟩ := aB h
 refine zd eS he ?_
 clear he
 refine zk 2 ?_
 refine ze [2] ?_
 cases h
 exact aI zr
def nB  (n : Nat) (p0 : aN) (p1 : Int) (p2 : Int) : Option (Int × aN) := (cN n p0 (IntKind.wrap .i64 ((IntKind.wrap .i64 (p2 - p1)) + 1))).bind fun (y1 : (Int × aN)) => some ((IntKind.wrap .i64 (p1 + y1.1)), y1.2)
theorem pP  (n : Nat) (p0 : aN) (p1 : Int) (p2 : Int) (r : (Int × aN)) (h : nB n p0 p1 p2 = some r) : dI E 16 1 [A1 0 0, A6 p1, A6 p2] [E0 p0] (A6 r.1) [E0 r.2] := by
 refine gT Tryz.func16 rfl ?_
 unfold nB at h
 refine za [0, 1, 2] ?_
 refine zx fun _ => ?_
 refine zk 6 ?_
 obtain ⟨y1, he, h⟩ := aB h
 refine zo [(0, 0)] cS (bG n _ _ y1 he) ?_
 clear he
 refine zk 2 ?_
 refine ze [6] ?_
 cases h
 exact aI zr
def jQ  (n : Nat) (p0 : Int) : Option aF := some (aF.mk 1 p0 (⟨#[]⟩ : ByteArray) ([] : List aF))
theorem jN  (n : Nat) (p0 : Int) (r : aF) (h : jQ n p0 = some r) : dI E 118 0 [A6 p0] [] (B5 r) [] := by
 refine gT Tryz.func118 rfl ?_
 unfold jQ at h
 refine za [0, 2] ?_
 refine za [2] ?_
 cases h
 exact aI zr
def oP  (n : Nat)  : Option (List Int) := some [97, 98, 102, 105, 88, 49, 50, 32, 32, 46, 44, 45, 39, 34, 40, 41, 91, 93, 60, 33, 58, 95, 37, 43, 47, 9, 10, 13, 11, 133, 160, 173, 183, 769, 1488, 1489, 1470, 1456, 1536, 1575, 1576, 1587, 1600, 1611, 1633, 1642, 1548, 1564, 1777, 2307, 2309, 2364, 4352, 4449, 4520, 44032, 44033, 8201, 8203, 8204, 8205, 8206, 8207, 8217, 8232, 8233, 8234, 8235, 8236, 8237, 8238, 8288, 8294, 8295, 8296, 8297, 9728, 12288, 12289, 12300, 12301, 12450, 19968, 65039, 127462, 127463, 127995, 128104, 1114111]
theorem zV  (n : Nat)  (r : (M4)) (h : oP n  = some r) : dI E 140 0 [] [] (.c (.lit (List.map nW r))) [] := by
 refine gT Tryz.func140 rfl ?_
 unfold oP at h
 refine za [] ?_
 refine za [0] ?_
 cases h
 exact aI zr
def qN  (n : Nat) (p0 : aN) (p1 : Int) : Option (Bool × aN) := (cN n p0 p1).bind fun (y1 : (Int × aN)) => some ((y1.1 == (IntKind.wrap .i64 (p1 - 1))), y1.2)
theorem Hi  (n : Nat) (p0 : aN) (p1 : Int) (r : (Bool × aN)) (h : qN n p0 p1 = some r) : dI E 141 1 [A1 0 0, A6 p1] [E0 p0] (B2 r.1) [E0 r.2] := by
 refine gT Tryz.func141 rfl ?_
 unfold qN at h
 refine za [0, 1] ?_
 refine zx fun _ => ?_
 refine zk 2 ?_
 obtain ⟨y1, he, h⟩ := aB h
 refine zo [(0, 0)] cS (bG n _ _ y1 he) ?_
 clear he
 refine zk 4 ?_
 refine ze [4] ?_
 cases h
 exact aI zr
def yQ  (n : Nat) (p0 : aN) : Option (Int × aN) := (if (decide (p0.At ≥ (List.length p0.L : Int))) = true then some (0, p0) else (idx p0.L (IntKind.wrap .i64 ((IntKind.wrap .i64 (p0.At + 1)) - 1))).bind fun (e1 : Int) => some (e1, (aN.mk p0.L (IntKind.wrap .i64 (p0.At + 1)))))
theorem Px  (n : Nat) (p0 : aN) (r : (Int × aN)) (h : yQ n p0 = some r) : dI E 142 1 [A1 0 0] [E0 p0] (A6 r.1) [E0 r.2] := by
 refine gT Tryz.func142 rfl ?_
 unfold yQ at h
 refine za [0] ?_
 refine aO ?_
 refine Dm [[], [0], [1, 0], [2, 1, 0], [], [4], [5, 4], [6, 5, 4], [7, 6, 5, 4], [3, 8, 2, 1, 0, 7, 6, 5, 4]] fun _ => ?_
 refine zk 8 ?_
 refine zl aH p0.L ?_
 refine zk 1 ?_
 refine ze [0, 12] ?_
 refine zi h (fun h => ?_) fun h => ?_
 refine za [2] ?_
 cases h
 exact aI zr
 refine aC ?_
 refine za [0] ?_
 refine Dm [[], [0], [1, 0], [2, 1, 0], [], [4], [5, 4], [6, 5, 4], [7, 6, 5, 4], [3, 8, 2, 1, 0, 7, 6, 5, 4], [9, 3, 8, 2, 1, 0, 7, 6, 5, 4], [10, 0, 1, 2, 3, 4, 5, 6, 7, 8, 9]] fun _ => ?_
 refine zk 9 ?_
 obtain ⟨e1, he, h⟩ := aB h
 refine zd aH he ?_
 clear he
 refine zk 2 ?_
 refine ze [2] ?_
 cases h
 exact aI zr
def sU  (n : Nat) (p0 : aN) : Option (Int × aN) := (oP n).bind fun (y1 : (List Int)) => (qN n p0 40).bind fun (y2 : (Bool × aN)) => (if y2.1 = true then (yQ n y2.2).bind fun (y3 : (Int × aN)) => some ((IntKind.wrap .i32 y3.1), y3.2) else (cN n y2.2 (List.length y1 : Int)).bind fun (y4 : (Int × aN)) => (idx y1 y4.1).bind fun (e5 : Int) => some (e5, y4.2))
theorem Cd  (n : Nat) (p0 : aN) (r : (Int × aN)) (h : sU n p0 = some r) : dI E 133 1 [A1 0 0] [E0 p0] (.c (I32 r.1)) [E0 r.2] := by
 refine gT Tryz.func133 rfl ?_
 unfold sU at h
 refine za [0] ?_
 refine zx fun _ => ?_
 obtain ⟨y1, he, h⟩ := aB h
 refine zc fok140 (zV n  y1 he) ?_
 clear he
 refine zk 1 ?_
 refine ze [0, 3] ?_
 refine aO ?_
 refine zx fun _ => ?_
 refine zk 1 ?_
 obtain ⟨y2, he, h⟩ := aB h
 refine zo [(0, 0)] fok141 (Hi n _ _ y2 he) ?_
 clear he
 refine ze [0, 3, 6] ?_
 refine zi h (fun h => ?_) fun h => ?_
 refine zx fun _ => ?_
 refine zk 1 ?_
 obtain ⟨y3, he, h⟩ := aB h
 refine zo [(0, 0)] fok142 (Px n _ y3 he) ?_
 clear he
 refine zk 2 ?_
 refine ze [2] ?_
 cases h
 exact aI zr
 refine aC ?_
 refine zx fun _ => ?_
 refine zk 3 ?_
 refine zl nW y1 ?_
 obtain ⟨y4, he, h⟩ := aB h
 refine zo [(0, 0)] cS (bG n _ _ y4 he) ?_
 clear he
 obtain ⟨e5, he, h⟩ := aB h
 refine zd nW he ?_
 clear he
 refine zk 2 ?_
 refine mC [2] (L2 := [(2, .c (I32 e5))]) (G2 := [E0 y4.2]) 14 ?_
 cases h
 exact aI zr
def kX (y1 : (Int × aN)) (y2 : (Int × aN)) (v16 : List Int) (j19 : List Int → List Int → Int → Option ((List Int) × aN)) : Nat → List Int → Int → List Int → Int → Option ((List Int) × aN)
 | 0, _, _, _, _ => none
 | n + 1, v29, v30, v31, v32 => (if (decide (v30 < y1.1)) = true then (aS (fun (v39 : List Int) (v40 : List Int) (v41 : Int) => kX y1 y2 v16 j19 n v39 (IntKind.wrap .i64 (v30 + 1)) v40 v41) (fun (j33 : List Int → List Int → Int → Option ((List Int) × aN)) => (if (decide (y2.1 > 0)) = true then (cN n (aN.mk v31 v32) 5).bind fun (y34 : (Int × aN)) => (idx v16 y34.1).bind fun (e35 : Int) => (pD 4 v29 [e35]).bind fun (l36 : List Int) => j33 l36 y34.2.L y34.2.At else (sU n (aN.mk v31 v32)).bind fun (y37 : (Int × aN)) => (pD 4 v29 [y37.1]).bind fun (l38 : List Int) => j33 l38 y37.2.L y37.2.At))) else j19 v29 v31 v32)
def lH (j3 : List Int → List Int → Int → Option ((List Int) × aN)) (y1 : (Int × aN)) (y2 : (Int × aN)) : Nat → List Int → Int → List Int → Int → Option ((List Int) × aN)
 | 0, _, _, _, _ => none
 | n + 1, v6, v7, v8, v9 => (if (decide (v7 < 5)) = true then (sU n (aN.mk v8 v9)).bind fun (y10 : (Int × aN)) => (pD 4 v6 [y10.1]).bind fun (l11 : List Int) => lH j3 y1 y2 n l11 (IntKind.wrap .i64 (v7 + 1)) y10.2.L y10.2.At else j3 v6 v8 v9)
def uV  (n : Nat) (p0 : aN) (p1 : Int) : Option ((List Int) × aN) := (cN n p0 (IntKind.wrap .i64 (p1 + 1))).bind fun (y1 : (Int × aN)) => (cN n y1.2 3).bind fun (y2 : (Int × aN)) => (aS (fun (v16 : List Int) (v17 : List Int) (v18 : Int) => (aS (fun (v46 : List Int) (v47 : List Int) (v48 : Int) => some (v46, (aN.mk v47 v48))) (fun (j19 : List Int → List Int → Int → Option ((List Int) × aN)) => kX y1 y2 v16 j19 n ([] : List Int) 0 v17 v18))) (fun (j3 : List Int → List Int → Int → Option ((List Int) × aN)) => lH j3 y1 y2 n ([] : List Int) 0 y2.2.L y2.2.At))
theorem Ns  (n : Nat) (p0 : aN) (p1 : Int) (r : ((M4) × aN)) (h : uV n p0 p1 = some r) : dI E 120 1 [A1 0 0, A6 p1] [E0 p0] (.c (.lit (List.map nW r.1))) [E0 r.2] := by
 refine gT Tryz.func120 rfl ?_
 unfold uV at h
 refine za [0, 1] ?_
 refine zx fun _ => ?_
 refine zk 3 ?_
 obtain ⟨y1, he, h⟩ := aB h
 refine zo [(0, 0)] cS (bG n _ _ y1 he) ?_
 clear he
 refine zk 1 ?_
 refine ze [0, 5] ?_
 refine za [0, 5, 6] ?_
 refine zx fun _ => ?_
 refine zk 1 ?_
 obtain ⟨y2, he, h⟩ := aB h
 refine zo [(0, 0)] cS (bG n _ _ y2 he) ?_
 clear he
 refine zk 1 ?_
 refine ze [0, 5, 6, 7] ?_
 refine za [0, 5, 6, 7, 8] ?_
 refine aX h (fun A j => ∀ v16 v17 v18, j v16 v17 v18 = some r → A (mk [H7, C6 5 y1.1, (6, .c (cQ)), C6 7 y2.1, J8 8 1 v16] [A2 v17 v18, B7 1 21 1 v16] 2)) (fun v16 v17 v18 h => ?_) (fun j3 Aj3 hj3 h => ?_)
 refine aX h (fun A j => ∀ v46 v47 v48, j v46 v47 v48 = some r → A (mk [J8 6 1 v46] [A2 v47 v48, B7 1 21 1 v46] 2)) (fun v46 v47 v48 h => ?_) (fun j19 Aj19 hj19 h => ?_)
 refine za [4] ?_
 cases h
 exact aI zr
 refine za [0, 5, 6, 7, 8, 10] ?_
 refine aK ?_
 refine bJ (fun n s => ∃ v29 v30 v31 v32, kX y1 y2 v16 j19 n v29 v30 v31 v32 = some r ∧ s = mk [H7, C6 5 y1.1, J8 6 1 v29, C6 7 y2.1, J8 8 2 v16, C6 10 v30] [A2 v31 v32, B7 1 21 1 v29, B7 2 21 1 v16] 3) n _ (eA.trans (nC (L2 := [H7, C6 5 y1.1, (6, .c (.app 3 (List.map nW ([] : List Int)))), C6 7 y2.1, J8 8 1 v16, I9 10]) (G2 := [A2 v17 v18, B7 1 21 1 v16, (3, .tok 21 1 (List.length ([] : List Int)))]) (lim2 := 4) 6 21 1 (by kernel_rfl) (by kernel_rfl) (by kernel_rfl) (by kernel_rfl)) (zv [(0, 0), (3, 1), (1, 2)] [0, 5, 6, 7, 8, 10] 3)) ⟨_, _, _, _, h, rfl⟩ (fun s ⟨v29, v30, v31, v32, h, _⟩ => nomatch h) ?_
 rintro n s ⟨v29, v30, v31, v32, h, rfl⟩
 rw [kX] at h
 refine aO ?_
 refine za [0, 5, 6, 7, 8, 10, 28] ?_
 refine zi h (fun h => ?_) fun h => ?_
 refine aC ?_
 refine aX h (fun A j => ∀ v39 v40 v41, j v39 v40 v41 = some r → A (mk [H7, C6 5 y1.1, J8 6 1 v39, C6 7 y2.1, J8 8 2 v16, C6 10 v30] [A2 v40 v41, B7 1 21 1 v39, B7 2 21 1 v16] 3)) (fun v39 v40 v41 h => ?_) (fun j33 Aj33 hj33 h => ?_)
 refine bB ?_
 refine zb ?_
 exact eZ (zv [(0, 0), (1, 1), (2, 2)] [0, 5, 6, 7, 8, 10] 3) (⟨_, _, _, _, h, rfl⟩)
 refine aK ?_
 refine za [0, 5, 6, 7, 8, 10, 32] ?_
 refine zi h (fun h => ?_) fun h => ?_
 refine bB ?_
 refine zy fun _ => ?_
 refine zk 3 ?_
 obtain ⟨y34, he, h⟩ := aB h
 refine zo [(0, 0)] cS (bG n _ _ y34 he) ?_
 clear he
 obtain ⟨e35, he, h⟩ := aB h
 refine zd nW he ?_
 clear he
 refine zk 2 ?_
 obtain ⟨l36, he, h⟩ := aB h
 refine cH (enc := nW) (l := v29) (els := [e35]) (r := l36) (old := some 1) (e := 21) (sz := 1) (bytes := 4) (k := (H4 v29)) (nm := 15) he (by kernel_rfl) (by kernel_rfl) (fun x => by kernel_rfl) (by kernel_rfl) (by kernel_rfl) rfl rfl rfl ?_
 clear he
 refine zk 1 ?_
 refine cF ?_
 exact eZ (zv [(0, 0), (15, 1), (2, 2)] [0, 5, 6, 7, 8, 10] 3) (hj33 _ _ _ h)
 refine bB ?_
 refine zy fun _ => ?_
 refine zk 2 ?_
 obtain ⟨y37, he, h⟩ := aB h
 refine zo [(0, 0)] Wr (Cd n _ y37 he) ?_
 clear he
 refine zk 1 ?_
 obtain ⟨l38, he, h⟩ := aB h
 refine cH (enc := nW) (l := v29) (els := [y37.1]) (r := l38) (old := some 1) (e := 21) (sz := 1) (bytes := 4) (k := (H4 v29)) (nm := 12) he (by kernel_rfl) (by kernel_rfl) (fun x => by kernel_rfl) (by kernel_rfl) (by kernel_rfl) rfl rfl rfl ?_
 clear he
 refine zk 1 ?_
 refine cF ?_
 exact eZ (zv [(0, 0), (12, 1), (2, 2)] [0, 5, 6, 7, 8, 10] 3) (hj33 _ _ _ h)
 exact aL (zv [(0, 0), (1, 1)] [6] 2) (bK (hj19 _ _ _ h))
 refine za [0, 5, 6, 7, 8, 9] ?_
 refine aK ?_
 refine bJ (fun n s => ∃ v6 v7 v8 v9, lH j3 y1 y2 n v6 v7 v8 v9 = some r ∧ s = mk [H7, C6 5 y1.1, (6, .c (cQ)), C6 7 y2.1, J8 8 1 v6, C6 9 v7] [A2 v8 v9, B7 1 21 1 v6] 2) n _ (eA.trans (nC (L2 := [H7, C6 5 y1.1, (6, .c (cQ)), C6 7 y2.1, (8, .c (.app 13 (List.map nW ([] : List Int)))), I9 9]) (G2 := [E0 y2.2, (13, .tok 21 1 (List.length ([] : List Int)))]) (lim2 := 14) 8 21 1 (by kernel_rfl) (by kernel_rfl) (by kernel_rfl) (by kernel_rfl)) (zv [(0, 0), (13, 1)] [0, 5, 6, 7, 8, 9] 2)) ⟨_, _, _, _, h, rfl⟩ (fun s ⟨v6, v7, v8, v9, h, _⟩ => nomatch h) ?_
 rintro n s ⟨v6, v7, v8, v9, h, rfl⟩
 rw [lH] at h
 refine aO ?_
 refine za [0, 5, 6, 7, 8, 9, 18] ?_
 refine zi h (fun h => ?_) fun h => ?_
 refine aC ?_
 refine aO ?_
 refine aK ?_
 refine zy fun _ => ?_
 refine zk 2 ?_
 obtain ⟨y10, he, h⟩ := aB h
 refine zo [(0, 0)] Wr (Cd n _ y10 he) ?_
 clear he
 refine zk 1 ?_
 obtain ⟨l11, he, h⟩ := aB h
 refine cH (enc := nW) (l := v6) (els := [y10.1]) (r := l11) (old := some 1) (e := 21) (sz := 1) (bytes := 4) (k := (H4 v6)) (nm := 8) he (by kernel_rfl) (by kernel_rfl) (fun x => by kernel_rfl) (by kernel_rfl) (by kernel_rfl) rfl rfl rfl ?_
 clear he
 refine zk 1 ?_
 refine cF ?_
 refine bB ?_
 refine zb ?_
 exact eZ (zv [(0, 0), (8, 1)] [0, 5, 6, 7, 8, 9] 2) (⟨_, _, _, _, h, rfl⟩)
 exact aL (zv [(0, 0), (1, 1)] [0, 5, 6, 7, 8] 2) (bK (hj3 _ _ _ h))
def sV  (n : Nat) (p0 : aN) (p1 : (List Int)) : Option ((List Int) × aN) := (Ac (runesBytes p1)).bind fun (l1 : List Int) => some (l1, p0)
theorem Kf  (n : Nat) (p0 : aN) (p1 : (M4)) (r : ((M4) × aN)) (h : sV n p0 p1 = some r) : dI E 119 1 [A1 0 0, .c (.lit (List.map nW p1))] [E0 p0] (.c (.lit (List.map nW r.1))) [E0 r.2] := by
 refine gT Tryz.func119 rfl ?_
 unfold sV at h
 refine za [1] ?_
 refine zx fun _ => ?_
 refine zk 1 ?_
 refine zw (v := .c (Sx (runesBytes p1))) [] (rT (ns := p1) (by kernel_rfl)) ?_
 obtain ⟨l1, he, h⟩ := aB h
 refine rx_O (v := .c (.lit (List.map nW l1))) (foot := []) (Ja (s := (runesBytes p1)) he (by kernel_rfl)) (by kernel_rfl) rfl rfl ?_
 clear he
 refine zk 1 ?_
 refine ze [4] ?_
 cases h
 exact aI zr
def jY (j37 : List Int → Int → List aF → Option ((List bD) × aN)) (p1 : Int) (v32 : List bD) : Nat → Int → List Int → Int → List aF → Option ((List bD) × aN)
 | 0, _, _, _, _ => none
 | n + 1, v46, v47, v48, v49 => (if (decide (v46 > 0)) = true then (cN n (aN.mk v47 v48) 6).bind fun (y50 : (Int × aN)) => (idx [0, 0, 30, 50, (-1 : Int), (-2 : Int)] y50.1).bind fun (e51 : Int) => (jQ n e51).bind fun (y52 : aF) => (pD 56 v49 [y52]).bind fun (l53 : List aF) => jY j37 p1 v32 n (IntKind.wrap .i64 (v46 - 1)) y50.2.L y50.2.At l53 else j37 v47 v48 v49)
def rW  (n : Nat) (p0 : aN) (p1 : Int) : Option ((List bD) × aN) := (aS (fun (v7 : List bD) (v8 : List Int) (v9 : Int) => (aS (fun (v16 : List bD) (v17 : List Int) (v18 : Int) => (aS (fun (v24 : List bD) (v25 : List Int) (v26 : Int) => (aS (fun (v32 : List bD) (v33 : List Int) (v34 : Int) => (aS (fun (v65 : List bD) (v66 : List Int) (v67 : Int) => (aS (fun (v73 : List bD) (v74 : List Int) (v75 : Int) => (aS (fun (v81 : List bD) (v82 : List Int) (v83 : Int) => (aS (fun (v89 : List bD) (v90 : List Int) (v91 : Int) => (aS (fun (v98 : List bD) (v99 : List Int) (v100 : Int) => (aS (fun (v105 : List bD) (v106 : List Int) (v107 : Int) => (aS (fun (v113 : List bD) (v114 : List Int) (v115 : Int) => (aS (fun (v121 : List bD) (v122 : List Int) (v123 : Int) => (aS (fun (v130 : List bD) (v131 : List Int) (v132 : Int) => (aS (fun (v138 : List bD) (v139 : List Int) (v140 : Int) => (aS (fun (v146 : List bD) (v147 : List Int) (v148 : Int) => some (v146, (aN.mk v147 v148))) (fun (j141 : List bD → List Int → Int → Option ((List bD) × aN)) => (Zl [(!((p1 == 5) || (p1 == 13)))] (cN n (aN.mk v139 v140) 9) ((default : Int), (aN.mk v139 v140))).bind fun (y142 : (Int × aN)) => (if (((p1 == 5) || (p1 == 13)) || (y142.1 == 0)) = true then (cN n y142.2 90).bind fun (y143 : (Int × aN)) => (jQ n y143.1).bind fun (y144 : aF) => (pD 72 v138 [(bD.mk (⟨#[119, 105, 100, 116, 104]⟩ : ByteArray) y144)]).bind fun (l145 : List bD) => j141 l145 y143.2.L y143.2.At else j141 v138 y142.2.L y142.2.At)))) (fun (j133 : List bD → List Int → Int → Option ((List bD) × aN)) => (cN n (aN.mk v131 v132) 8).bind fun (y134 : (Int × aN)) => (if (y134.1 == 0) = true then (cN n y134.2 5).bind fun (y135 : (Int × aN)) => (jQ n y135.1).bind fun (y136 : aF) => (pD 72 v130 [(bD.mk (⟨#[116, 117, 114, 110]⟩ : ByteArray) y136)]).bind fun (l137 : List bD) => j133 l137 y135.2.L y135.2.At else j133 v130 y134.2.L y134.2.At)))) (fun (j124 : List bD → List Int → Int → Option ((List bD) × aN)) => (cN n (aN.mk v122 v123) 2).bind fun (y125 : (Int × aN)) => (if (y125.1 == 0) = true then (uV n y125.2 8).bind fun (y126 : ((List Int) × aN)) => (sV n y126.2 y126.1).bind fun (y127 : ((List Int) × aN)) => (oC n (runesBytes y127.1)).bind fun (y128 : aF) => (pD 72 v121 [(bD.mk (⟨#[116, 101, 120, 116]⟩ : ByteArray) y128)]).bind fun (l129 : List bD) => j124 l129 y127.2.L y127.2.At else j124 v121 y125.2.L y125.2.At)))) (fun (j116 : List bD → List Int → Int → Option ((List bD) × aN)) => (cN n (aN.mk v114 v115) 6).bind fun (y117 : (Int × aN)) => (if (y117.1 == 0) = true then (cN n y117.2 4).bind fun (y118 : (Int × aN)) => (jQ n y118.1).bind fun (y119 : aF) => (pD 72 v113 [(bD.mk (⟨#[115, 112, 97, 110]⟩ : ByteArray) y119)]).bind fun (l120 : List bD) => j116 l120 y118.2.L y118.2.At else j116 v113 y117.2.L y117.2.At)))) (fun (j108 : List bD → List Int → Int → Option ((List bD) × aN)) => (cN n (aN.mk v106 v107) 8).bind fun (y109 : (Int × aN)) => (if (y109.1 == 0) = true then (cN n y109.2 4).bind fun (y110 : (Int × aN)) => (jQ n y110.1).bind fun (y111 : aF) => (pD 72 v105 [(bD.mk (⟨#[115, 99, 97, 108, 101]⟩ : ByteArray) y111)]).bind fun (l112 : List bD) => j108 l112 y110.2.L y110.2.At else j108 v105 y109.2.L y109.2.At)))) (fun (j101 : List bD → List Int → Int → Option ((List bD) × aN)) => (cN n (aN.mk v99 v100) 6).bind fun (y102 : (Int × aN)) => (if (y102.1 == 0) = true then (qA n 1).bind fun (y103 : aF) => (pD 72 v98 [(bD.mk (⟨#[112, 105, 110, 110, 101, 100]⟩ : ByteArray) y103)]).bind fun (l104 : List bD) => j101 l104 y102.2.L y102.2.At else j101 v98 y102.2.L y102.2.At)))) (fun (j92 : List bD → List Int → Int → Option ((List bD) × aN)) => (cN n (aN.mk v90 v91) 6).bind fun (y93 : (Int × aN)) => (if (y93.1 == 0) = true then (cN n y93.2 6).bind fun (y94 : (Int × aN)) => (Tj (⟨#[107]⟩ : ByteArray) (dG [(IntKind.wrap .u8 (IntKind.wrap .i64 (97 + y94.1)))])).bind fun (s95 : ByteArray) => (oC n s95).bind fun (y96 : aF) => (pD 72 v89 [(bD.mk (⟨#[108, 101, 102, 116]⟩ : ByteArray) y96)]).bind fun (l97 : List bD) => j92 l97 y94.2.L y94.2.At else j92 v89 y93.2.L y93.2.At)))) (fun (j84 : List bD → List Int → Int → Option ((List bD) × aN)) => (cN n (aN.mk v82 v83) 12).bind fun (y85 : (Int × aN)) => (if (y85.1 == 0) = true then (cN n y85.2 2).bind fun (y86 : (Int × aN)) => (qA n y86.1).bind fun (y87 : aF) => (pD 72 v81 [(bD.mk (⟨#[104, 105, 100, 100, 101, 110]⟩ : ByteArray) y87)]).bind fun (l88 : List bD) => j84 l88 y86.2.L y86.2.At else j84 v81 y85.2.L y85.2.At)))) (fun (j76 : List bD → List Int → Int → Option ((List bD) × aN)) => (Zl [(!((p1 == 5) || (p1 == 13)))] (cN n (aN.mk v74 v75) 9) ((default : Int), (aN.mk v74 v75))).bind fun (y77 : (Int × aN)) => (if (((p1 == 5) || (p1 == 13)) || (y77.1 == 0)) = true then (cN n y77.2 60).bind fun (y78 : (Int × aN)) => (jQ n y78.1).bind fun (y79 : aF) => (pD 72 v73 [(bD.mk (⟨#[104, 101, 105, 103, 104, 116]⟩ : ByteArray) y79)]).bind fun (l80 : List bD) => j76 l80 y78.2.L y78.2.At else j76 v73 y77.2.L y77.2.At)))) (fun (j68 : List bD → List Int → Int → Option ((List bD) × aN)) => (cN n (aN.mk v66 v67) 9).bind fun (y69 : (Int × aN)) => (if (y69.1 == 0) = true then (cN n y69.2 2).bind fun (y70 : (Int × aN)) => (qA n y70.1).bind fun (y71 : aF) => (pD 72 v65 [(bD.mk (⟨#[100, 105, 115, 97, 98, 108, 101, 100]⟩ : ByteArray) y71)]).bind fun (l72 : List bD) => j68 l72 y70.2.L y70.2.At else j68 v65 y69.2.L y69.2.At)))) (fun (j35 : List bD → List Int → Int → Option ((List bD) × aN)) => (cN n (aN.mk v33 v34) 4).bind fun (y36 : (Int × aN)) => (if (y36.1 == 0) = true then (aS (fun (v61 : List Int) (v62 : Int) (v63 : List aF) => (pD 72 v32 [(bD.mk (⟨#[99, 111, 108, 117, 109, 110, 115]⟩ : ByteArray) (aF.mk 4 0 (⟨#[]⟩ : ByteArray) v63))]).bind fun (l64 : List bD) => j35 l64 v61 v62) (fun (j37 : List Int → Int → List aF → Option ((List bD) × aN)) => (nB n y36.2 1 3).bind fun (y38 : (Int × aN)) => jY j37 p1 v32 n y38.1 y38.2.L y38.2.At ([] : List aF))) else j35 v32 y36.2.L y36.2.At)))) (fun (j27 : List bD → List Int → Int → Option ((List bD) × aN)) => (cN n (aN.mk v25 v26) 3).bind fun (y28 : (Int × aN)) => (if (y28.1 == 0) = true then (nJ n y28.2).bind fun (y29 : (ByteArray × aN)) => (oC n y29.1).bind fun (y30 : aF) => (pD 72 v24 [(bD.mk (⟨#[99, 108, 97, 115, 115]⟩ : ByteArray) y30)]).bind fun (l31 : List bD) => j27 l31 y29.2.L y29.2.At else j27 v24 y28.2.L y28.2.At)))) (fun (j19 : List bD → List Int → Int → Option ((List bD) × aN)) => (cN n (aN.mk v17 v18) 9).bind fun (y20 : (Int × aN)) => (if (y20.1 == 0) = true then (cN n y20.2 2).bind fun (y21 : (Int × aN)) => (qA n y21.1).bind fun (y22 : aF) => (pD 72 v16 [(bD.mk (⟨#[99, 104, 101, 99, 107, 101, 100]⟩ : ByteArray) y22)]).bind fun (l23 : List bD) => j19 l23 y21.2.L y21.2.At else j19 v16 y20.2.L y20.2.At)))) (fun (j10 : List bD → List Int → Int → Option ((List bD) × aN)) => (cN n (aN.mk v8 v9) 9).bind fun (y11 : (Int × aN)) => (if (y11.1 == 0) = true then (cN n y11.2 6).bind fun (y12 : (Int × aN)) => (Tj (⟨#[107]⟩ : ByteArray) (dG [(IntKind.wrap .u8 (IntKind.wrap .i64 (97 + y12.1)))])).bind fun (s13 : ByteArray) => (oC n s13).bind fun (y14 : aF) => (pD 72 v7 [(bD.mk (⟨#[97, 108, 105, 103, 110, 108, 101, 102, 116]⟩ : ByteArray) y14)]).bind fun (l15 : List bD) => j10 l15 y12.2.L y12.2.At else j10 v7 y11.2.L y11.2.At)))) (fun (j1 : List bD → List Int → Int → Option ((List bD) × aN)) => (cN n p0 6).bind fun (y2 : (Int × aN)) => (if (y2.1 == 0) = true then (cN n y2.2 6).bind fun (y3 : (Int × aN)) => (Tj (⟨#[107]⟩ : ByteArray) (dG [(IntKind.wrap .u8 (IntKind.wrap .i64 (97 + y3.1)))])).bind fun (s4 : ByteArray) => (oC n s4).bind fun (y5 : aF) => (pD 72 ([] : List bD) [(bD.mk (⟨#[97, 98, 111, 118, 101]⟩ : ByteArray) y5)]).bind fun (l6 : List bD) => j1 l6 y3.2.L y3.2.At else j1 ([] : List bD) y2.2.L y2.2.At)))
theorem Jv  (n : Nat) (p0 : aN) (p1 : Int) (r : ((List bD) × aN)) (h : rW n p0 p1 = some r) : dI E 96 1 [A1 0 0, A6 p1] [E0 p0] (.c (C7 r.1)) [E0 r.2] := by
 refine gT Tryz.func96 rfl ?_
 unfold rW at h
 refine za [0, 1] ?_
 refine za [0, 1, 5] ?_
 refine aX h (fun A j => ∀ v7 v8 v9, j v7 v8 v9 = some r → A (D5 p1 v7 v8 v9)) (fun v7 v8 v9 h => ?_) (fun j1 Aj1 hj1 h => ?_)
 refine aX h (fun A j => ∀ v16 v17 v18, j v16 v17 v18 = some r → A (D5 p1 v16 v17 v18)) (fun v16 v17 v18 h => ?_) (fun j10 Aj10 hj10 h => ?_)
 refine aX h (fun A j => ∀ v24 v25 v26, j v24 v25 v26 = some r → A (D5 p1 v24 v25 v26)) (fun v24 v25 v26 h => ?_) (fun j19 Aj19 hj19 h => ?_)
 refine aX h (fun A j => ∀ v32 v33 v34, j v32 v33 v34 = some r → A (D5 p1 v32 v33 v34)) (fun v32 v33 v34 h => ?_) (fun j27 Aj27 hj27 h => ?_)
 refine aX h (fun A j => ∀ v65 v66 v67, j v65 v66 v67 = some r → A (D5 p1 v65 v66 v67)) (fun v65 v66 v67 h => ?_) (fun j35 Aj35 hj35 h => ?_)
 refine aX h (fun A j => ∀ v73 v74 v75, j v73 v74 v75 = some r → A (D5 p1 v73 v74 v75)) (fun v73 v74 v75 h => ?_) (fun j68 Aj68 hj68 h => ?_)
 refine aX h (fun A j => ∀ v81 v82 v83, j v81 v82 v83 = some r → A (D5 p1 v81 v82 v83)) (fun v81 v82 v83 h => ?_) (fun j76 Aj76 hj76 h => ?_)
 refine aX h (fun A j => ∀ v89 v90 v91, j v89 v90 v91 = some r → A (D5 p1 v89 v90 v91)) (fun v89 v90 v91 h => ?_) (fun j84 Aj84 hj84 h => ?_)
 refine aX h (fun A j => ∀ v98 v99 v100, j v98 v99 v100 = some r → A (D5 p1 v98 v99 v100)) (fun v98 v99 v100 h => ?_) (fun j92 Aj92 hj92 h => ?_)
 refine aX h (fun A j => ∀ v105 v106 v107, j v105 v106 v107 = some r → A (D5 p1 v105 v106 v107)) (fun v105 v106 v107 h => ?_) (fun j101 Aj101 hj101 h => ?_)
 refine aX h (fun A j => ∀ v113 v114 v115, j v113 v114 v115 = some r → A (D5 p1 v113 v114 v115)) (fun v113 v114 v115 h => ?_) (fun j108 Aj108 hj108 h => ?_)
 refine aX h (fun A j => ∀ v121 v122 v123, j v121 v122 v123 = some r → A (D5 p1 v121 v122 v123)) (fun v121 v122 v123 h => ?_) (fun j116 Aj116 hj116 h => ?_)
 refine aX h (fun A j => ∀ v130 v131 v132, j v130 v131 v132 = some r → A (D5 p1 v130 v131 v132)) (fun v130 v131 v132 h => ?_) (fun j124 Aj124 hj124 h => ?_)
 refine aX h (fun A j => ∀ v138 v139 v140, j v138 v139 v140 = some r → A (D5 p1 v138 v139 v140)) (fun v138 v139 v140 h => ?_) (fun j133 Aj133 hj133 h => ?_)
 refine aX h (fun A j => ∀ v146 v147 v148, j v146 v147 v148 = some r → A (mk [(5, .c (.app 1 (List.map aM v146)))] [A2 v147 v148, B7 1 172 5 v146] 2)) (fun v146 v147 v148 h => ?_) (fun j141 Aj141 hj141 h => ?_)
 refine za [4] ?_
 cases h
 exact aI zr
 refine zx fun _ => ?_
 refine zk 3 ?_
 refine zE (A6 p1) ?_
 refine zE (B2 (p1 == 13)) ?_
 refine zP (.bool ((p1 == 5) || (p1 == 13))) ?_
 refine zk 1 ?_
 refine zE (A1 0 0) ?_
 obtain ⟨y142, he, h⟩ := aB h
 refine Bf (e := [!((p1 == 5) || (p1 == 13))]) [(195, A1 0 0, some 1)] (F := 15) (As := [A1 0 0, .c (I 9)]) (Bs := [A1 0 0, .c (I 9)]) (σ := [(0, 0)]) (k := 1) (Gc := [A2 v139 v140]) (Gf := [E0 y142.2]) (r := .c (I y142.1)) (v := .c (I y142.1)) (by kernel_rfl) (by kernel_rfl) (by kernel_rfl) (by kernel_rfl) (by kernel_rfl) (by kernel_rfl) cS ⟨.inr ⟨(by kernel_rfl), (by kernel_rfl)⟩, ⟨.inl (by kernel_rfl), trivial⟩⟩ (fun hg => bG n _ _ y142 (Xk he hg)) (by kernel_rfl) (by kernel_rfl) (by kernel_rfl) (fun hg => by rw [Vy he hg]; kernel_rfl) (by kernel_rfl) rfl rfl rfl ?_
 clear he
 refine zE (B2 (y142.1 == 0)) ?_
 refine zP (.bool (((p1 == 5) || (p1 == 13)) || (y142.1 == 0))) ?_
 refine ze [0, 5, 198] ?_
 refine zi h (fun h => ?_) fun h => ?_
 refine bB ?_
 refine zy fun _ => ?_
 refine zk 2 ?_
 obtain ⟨y143, he, h⟩ := aB h
 refine zo [(0, 0)] cS (bG n _ _ y143 he) ?_
 clear he
 obtain ⟨y144, he, h⟩ := aB h
 refine zc Aj (jN n _ y144 he) ?_
 clear he
 refine zk 2 ?_
 obtain ⟨l145, he, h⟩ := aB h
 refine cH (enc := aM) (l := v138) (els := [(bD.mk (⟨#[119, 105, 100, 116, 104]⟩ : ByteArray) y144)]) (r := l145) (old := some 1) (e := 172) (sz := 5) (bytes := 72) (k := (H4 v138)) (nm := 19) he (by kernel_rfl) (by kernel_rfl) (fun x => by kernel_rfl) (by kernel_rfl) (by kernel_rfl) rfl rfl rfl ?_
 clear he
 refine zk 1 ?_
 refine cF ?_
 exact eZ (zv [(0, 0), (19, 1)] [5] 2) (hj141 _ _ _ h)
 exact aL (zv [(0, 0), (1, 1)] [5] 2) (aC (hj141 _ _ _ h))
 refine zx fun _ => ?_
 refine zk 1 ?_
 obtain ⟨y134, he, h⟩ := aB h
 refine zo [(0, 0)] cS (bG n _ _ y134 he) ?_
 clear he
 refine zk 1 ?_
 refine ze [0, 1, 5, 180] ?_
 refine zi h (fun h => ?_) fun h => ?_
 refine bB ?_
 refine zy fun _ => ?_
 refine zk 2 ?_
 obtain ⟨y135, he, h⟩ := aB h
 refine zo [(0, 0)] cS (bG n _ _ y135 he) ?_
 clear he
 obtain ⟨y136, he, h⟩ := aB h
 refine zc Aj (jN n _ y136 he) ?_
 clear he
 refine zk 2 ?_
 obtain ⟨l137, he, h⟩ := aB h
 refine cH (enc := aM) (l := v130) (els := [(bD.mk (⟨#[116, 117, 114, 110]⟩ : ByteArray) y136)]) (r := l137) (old := some 1) (e := 172) (sz := 5) (bytes := 72) (k := (H4 v130)) (nm := 11) he (by kernel_rfl) (by kernel_rfl) (fun x => by kernel_rfl) (by kernel_rfl) (by kernel_rfl) rfl rfl rfl ?_
 clear he
 refine zk 1 ?_
 refine cF ?_
 exact eZ (zv [(0, 0), (11, 1)] [0, 1, 5] 2) (hj133 _ _ _ h)
 exact aL (zv [(0, 0), (1, 1)] [0, 1, 5] 2) (aC (hj133 _ _ _ h))
 refine zx fun _ => ?_
 refine zk 1 ?_
 obtain ⟨y125, he, h⟩ := aB h
 refine zo [(0, 0)] cS (bG n _ _ y125 he) ?_
 clear he
 refine zk 1 ?_
 refine ze [0, 1, 5, 167] ?_
 refine zi h (fun h => ?_) fun h => ?_
 refine bB ?_
 refine zy fun _ => ?_
 refine zk 3 ?_
 obtain ⟨y126, he, h⟩ := aB h
 refine zo [(0, 0)] fok120 (Ns n _ _ y126 he) ?_
 clear he
 obtain ⟨y127, he, h⟩ := aB h
 refine zo [(0, 0)] fok119 (Kf n _ _ y127 he) ?_
 clear he
 refine zw (v := .c (Sx (runesBytes y127.1))) [] (rT (ns := y127.1) (by kernel_rfl)) ?_
 obtain ⟨y128, he, h⟩ := aB h
 refine zc En (nG n _ y128 he) ?_
 clear he
 refine zk 2 ?_
 obtain ⟨l129, he, h⟩ := aB h
 refine cH (enc := aM) (l := v121) (els := [(bD.mk (⟨#[116, 101, 120, 116]⟩ : ByteArray) y128)]) (r := l129) (old := some 1) (e := 172) (sz := 5) (bytes := 72) (k := (H4 v121)) (nm := 14) he (by kernel_rfl) (by kernel_rfl) (fun x => by kernel_rfl) (by kernel_rfl) (by kernel_rfl) rfl rfl rfl ?_
 clear he
 refine zk 1 ?_
 refine cF ?_
 exact eZ (zv [(0, 0), (14, 1)] [0, 1, 5] 2) (hj124 _ _ _ h)
 exact aL (zv [(0, 0), (1, 1)] [0, 1, 5] 2) (aC (hj124 _ _ _ h))
 refine zx fun _ => ?_
 refine zk 1 ?_
 obtain ⟨y117, he, h⟩ := aB h
 refine zo [(0, 0)] cS (bG n _ _ y117 he) ?_
 clear he
 refine zk 1 ?_
 refine ze [0, 1, 5, 157] ?_
 refine zi h (fun h => ?_) fun h => ?_
 refine bB ?_
 refine zy fun _ => ?_
 refine zk 2 ?_
 obtain ⟨y118, he, h⟩ := aB h
 refine zo [(0, 0)] cS (bG n _ _ y118 he) ?_
 clear he
 obtain ⟨y119, he, h⟩ := aB h
 refine zc Aj (jN n _ y119 he) ?_
 clear he
 refine zk 2 ?_
 obtain ⟨l120, he, h⟩ := aB h
 refine cH (enc := aM) (l := v113) (els := [(bD.mk (⟨#[115, 112, 97, 110]⟩ : ByteArray) y119)]) (r := l120) (old := some 1) (e := 172) (sz := 5) (bytes := 72) (k := (H4 v113)) (nm := 11) he (by kernel_rfl) (by kernel_rfl) (fun x => by kernel_rfl) (by kernel_rfl) (by kernel_rfl) rfl rfl rfl ?_
 clear he
 refine zk 1 ?_
 refine cF ?_
 exact eZ (zv [(0, 0), (11, 1)] [0, 1, 5] 2) (hj116 _ _ _ h)
 exact aL (zv [(0, 0), (1, 1)] [0, 1, 5] 2) (aC (hj116 _ _ _ h))
 refine zx fun _ => ?_
 refine zk 1 ?_
 obtain ⟨y109, he, h⟩ := aB h
 refine zo [(0, 0)] cS (bG n _ _ y109 he) ?_
 clear he
 refine zk 1 ?_
 refine ze [0, 1, 5, 147] ?_
 refine zi h (fun h => ?_) fun h => ?_
 refine bB ?_
 refine zy fun _ => ?_
 refine zk 2 ?_
 obtain ⟨y110, he, h⟩ := aB h
 refine zo [(0, 0)] cS (bG n _ _ y110 he) ?_
 clear he
 obtain ⟨y111, he, h⟩ := aB h
 refine zc Aj (jN n _ y111 he) ?_
 clear he
 refine zk 2 ?_
 obtain ⟨l112, he, h⟩ := aB h
 refine cH (enc := aM) (l := v105) (els := [(bD.mk (⟨#[115, 99, 97, 108, 101]⟩ : ByteArray) y111)]) (r := l112) (old := some 1) (e := 172) (sz := 5) (bytes := 72) (k := (H4 v105)) (nm := 11) he (by kernel_rfl) (by kernel_rfl) (fun x => by kernel_rfl) (by kernel_rfl) (by kernel_rfl) rfl rfl rfl ?_
 clear he
 refine zk 1 ?_
 refine cF ?_
 exact eZ (zv [(0, 0), (11, 1)] [0, 1, 5] 2) (hj108 _ _ _ h)
 exact aL (zv [(0, 0), (1, 1)] [0, 1, 5] 2) (aC (hj108 _ _ _ h))
 refine zx fun _ => ?_
 refine zk 1 ?_
 obtain ⟨y102, he, h⟩ := aB h
 refine zo [(0, 0)] cS (bG n _ _ y102 he) ?_
 clear he
 refine zk 1 ?_
 refine ze [0, 1, 5, 139] ?_
 refine zi h (fun h => ?_) fun h => ?_
 refine bB ?_
 refine zy fun _ => ?_
 refine zk 1 ?_
 obtain ⟨y103, he, h⟩ := aB h
 refine zc Ki (pV n _ y103 he) ?_
 clear he
 refine zk 2 ?_
 obtain ⟨l104, he, h⟩ := aB h
 refine cH (enc := aM) (l := v98) (els := [(bD.mk (⟨#[112, 105, 110, 110, 101, 100]⟩ : ByteArray) y103)]) (r := l104) (old := some 1) (e := 172) (sz := 5) (bytes := 72) (k := (H4 v98)) (nm := 9) he (by kernel_rfl) (by kernel_rfl) (fun x => by kernel_rfl) (by kernel_rfl) (by kernel_rfl) rfl rfl rfl ?_
 clear he
 refine zk 1 ?_
 refine cF ?_
 exact eZ (zv [(0, 0), (9, 1)] [0, 1, 5] 2) (hj101 _ _ _ h)
 exact aL (zv [(0, 0), (1, 1)] [0, 1, 5] 2) (aC (hj101 _ _ _ h))
 refine zx fun _ => ?_
 refine zk 1 ?_
 obtain ⟨y93, he, h⟩ := aB h
 refine zo [(0, 0)] cS (bG n _ _ y93 he) ?_
 clear he
 refine zk 1 ?_
 refine ze [0, 1, 5, 124] ?_
 refine zi h (fun h => ?_) fun h => ?_
 refine bB ?_
 refine zy fun _ => ?_
 refine zk 2 ?_
 obtain ⟨y94, he, h⟩ := aB h
 refine zo [(0, 0)] cS (bG n _ _ y94 he) ?_
 clear he
 refine zk 3 ?_
 refine zw (v := .c (Sx (dG [H5 y94.1]))) [] (mG (ns := [H5 y94.1]) (by kernel_rfl)) ?_
 obtain ⟨s95, he, h⟩ := aB h
 refine zw (v := .c (Sx s95)) [] (Jy (p := (⟨#[107]⟩ : ByteArray)) (q := (dG [H5 y94.1])) he (by kernel_rfl)) ?_
 clear he
 obtain ⟨y96, he, h⟩ := aB h
 refine zc En (nG n _ y96 he) ?_
 clear he
 refine zk 2 ?_
 obtain ⟨l97, he, h⟩ := aB h
 refine cH (enc := aM) (l := v89) (els := [(bD.mk (⟨#[108, 101, 102, 116]⟩ : ByteArray) y96)]) (r := l97) (old := some 1) (e := 172) (sz := 5) (bytes := 72) (k := (H4 v89)) (nm := 16) he (by kernel_rfl) (by kernel_rfl) (fun x => by kernel_rfl) (by kernel_rfl) (by kernel_rfl) rfl rfl rfl ?_
 clear he
 refine zk 1 ?_
 refine cF ?_
 exact eZ (zv [(0, 0), (16, 1)] [0, 1, 5] 2) (hj92 _ _ _ h)
 exact aL (zv [(0, 0), (1, 1)] [0, 1, 5] 2) (aC (hj92 _ _ _ h))
 refine zx fun _ => ?_
 refine zk 1 ?_
 obtain ⟨y85, he, h⟩ := aB h
 refine zo [(0, 0)] cS (bG n _ _ y85 he) ?_
 clear he
 refine zk 1 ?_
 refine ze [0, 1, 5, 114] ?_
 refine zi h (fun h => ?_) fun h => ?_
 refine bB ?_
 refine zy fun _ => ?_
 refine zk 2 ?_
 obtain ⟨y86, he, h⟩ := aB h
 refine zo [(0, 0)] cS (bG n _ _ y86 he) ?_
 clear he
 obtain ⟨y87, he, h⟩ := aB h
 refine zc Ki (pV n _ y87 he) ?_
 clear he
 refine zk 2 ?_
 obtain ⟨l88, he, h⟩ := aB h
 refine cH (enc := aM) (l := v81) (els := [(bD.mk (⟨#[104, 105, 100, 100, 101, 110]⟩ : ByteArray) y87)]) (r := l88) (old := some 1) (e := 172) (sz := 5) (bytes := 72) (k := (H4 v81)) (nm := 11) he (by kernel_rfl) (by kernel_rfl) (fun x => by kernel_rfl) (by kernel_rfl) (by kernel_rfl) rfl rfl rfl ?_
 clear he
 refine zk 1 ?_
 refine cF ?_
 exact eZ (zv [(0, 0), (11, 1)] [0, 1, 5] 2) (hj84 _ _ _ h)
 exact aL (zv [(0, 0), (1, 1)] [0, 1, 5] 2) (aC (hj84 _ _ _ h))
 refine zx fun _ => ?_
 refine zk 3 ?_
 refine zE (A6 p1) ?_
 refine zE (B2 (p1 == 13)) ?_
 refine zP (.bool ((p1 == 5) || (p1 == 13))) ?_
 refine zk 1 ?_
 refine zE (A1 0 0) ?_
 obtain ⟨y77, he, h⟩ := aB h
 refine Bf (e := [!((p1 == 5) || (p1 == 13))]) [(101, A1 0 0, some 1)] (F := 15) (As := [A1 0 0, .c (I 9)]) (Bs := [A1 0 0, .c (I 9)]) (σ := [(0, 0)]) (k := 1) (Gc := [A2 v74 v75]) (Gf := [E0 y77.2]) (r := .c (I y77.1)) (v := .c (I y77.1)) (by kernel_rfl) (by kernel_rfl) (by kernel_rfl) (by kernel_rfl) (by kernel_rfl) (by kernel_rfl) cS ⟨.inr ⟨(by kernel_rfl), (by kernel_rfl)⟩, ⟨.inl (by kernel_rfl), trivial⟩⟩ (fun hg => bG n _ _ y77 (Xk he hg)) (by kernel_rfl) (by kernel_rfl) (by kernel_rfl) (fun hg => by rw [Vy he hg]; kernel_rfl) (by kernel_rfl) rfl rfl rfl ?_
 clear he
 refine zE (B2 (y77.1 == 0)) ?_
 refine zP (.bool (((p1 == 5) || (p1 == 13)) || (y77.1 == 0))) ?_
 refine ze [0, 1, 5, 104] ?_
 refine zi h (fun h => ?_) fun h => ?_
 refine bB ?_
 refine zy fun _ => ?_
 refine zk 2 ?_
 obtain ⟨y78, he, h⟩ := aB h
 refine zo [(0, 0)] cS (bG n _ _ y78 he) ?_
 clear he
 obtain ⟨y79, he, h⟩ := aB h
 refine zc Aj (jN n _ y79 he) ?_
 clear he
 refine zk 2 ?_
 obtain ⟨l80, he, h⟩ := aB h
 refine cH (enc := aM) (l := v73) (els := [(bD.mk (⟨#[104, 101, 105, 103, 104, 116]⟩ : ByteArray) y79)]) (r := l80) (old := some 1) (e := 172) (sz := 5) (bytes := 72) (k := (H4 v73)) (nm := 19) he (by kernel_rfl) (by kernel_rfl) (fun x => by kernel_rfl) (by kernel_rfl) (by kernel_rfl) rfl rfl rfl ?_
 clear he
 refine zk 1 ?_
 refine cF ?_
 exact eZ (zv [(0, 0), (19, 1)] [0, 1, 5] 2) (hj76 _ _ _ h)
 exact aL (zv [(0, 0), (1, 1)] [0, 1, 5] 2) (aC (hj76 _ _ _ h))
 refine zx fun _ => ?_
 refine zk 1 ?_
 obtain ⟨y69, he, h⟩ := aB h
 refine zo [(0, 0)] cS (bG n _ _ y69 he) ?_
 clear he
 refine zk 1 ?_
 refine ze [0, 1, 5, 86] ?_
 refine zi h (fun h => ?_) fun h => ?_
 refine bB ?_
 refine zy fun _ => ?_
 refine zk 2 ?_
 obtain ⟨y70, he, h⟩ := aB h
 refine zo [(0, 0)] cS (bG n _ _ y70 he) ?_
 clear he
 obtain ⟨y71, he, h⟩ := aB h
 refine zc Ki (pV n _ y71 he) ?_
 clear he
 refine zk 2 ?_
 obtain ⟨l72, he, h⟩ := aB h
 refine cH (enc := aM) (l := v65) (els := [(bD.mk (⟨#[100, 105, 115, 97, 98, 108, 101, 100]⟩ : ByteArray) y71)]) (r := l72) (old := some 1) (e := 172) (sz := 5) (bytes := 72) (k := (H4 v65)) (nm := 11) he (by kernel_rfl) (by kernel_rfl) (fun x => by kernel_rfl) (by kernel_rfl) (by kernel_rfl) rfl rfl rfl ?_
 clear he
 refine zk 1 ?_
 refine cF ?_
 exact eZ (zv [(0, 0), (11, 1)] [0, 1, 5] 2) (hj68 _ _ _ h)
 exact aL (zv [(0, 0), (1, 1)] [0, 1, 5] 2) (aC (hj68 _ _ _ h))
 refine zx fun _ => ?_
 refine zk 1 ?_
 obtain ⟨y36, he, h⟩ := aB h
 refine zo [(0, 0)] cS (bG n _ _ y36 he) ?_
 clear he
 refine zk 1 ?_
 refine ze [0, 1, 5, 60] ?_
 refine zi h (fun h => ?_) fun h => ?_
 refine za [0, 1, 5, 6] ?_
 refine aX h (fun A j => ∀ v61 v62 v63, j v61 v62 v63 = some r → A (mk [H7, C6 1 p1, (5, .c (.app 1 (List.map aM v32))), C0 6 2 0] [A2 v61 v62, B7 1 172 5 v32, (2, .blk 152 [I 4, I 0, Sx (⟨#[]⟩ : ByteArray), M0 3 v63]), B7 3 152 4 v63] 4)) (fun v61 v62 v63 h => ?_) (fun j37 Aj37 hj37 h => ?_)
 refine bB ?_
 refine zy fun _ => ?_
 refine zk 4 ?_
 obtain ⟨l64, he, h⟩ := aB h
 refine cH (enc := aM) (l := v32) (els := [(bD.mk (⟨#[99, 111, 108, 117, 109, 110, 115]⟩ : ByteArray) (aF.mk 4 0 (⟨#[]⟩ : ByteArray) v63))]) (r := l64) (old := some 1) (e := 172) (sz := 5) (bytes := 72) (k := (H4 v32)) (nm := 8) he (by kernel_rfl) (by kernel_rfl) (fun x => by kernel_rfl) (by kernel_rfl) (by kernel_rfl) rfl rfl rfl ?_
 clear he
 refine zk 1 ?_
 refine cF ?_
 exact eZ (zv [(0, 0), (8, 1)] [0, 1, 5] 2) (hj35 _ _ _ h)
 refine zx fun _ => ?_
 refine zk 1 ?_
 obtain ⟨y38, he, h⟩ := aB h
 refine zo [(0, 0)] Se (pP n _ _ _ y38 he) ?_
 clear he
 refine zk 1 ?_
 refine ze [0, 1, 5, 6, 7] ?_
 refine aK ?_
 refine bJ (fun n s => ∃ v46 v47 v48 v49, jY j37 p1 v32 n v46 v47 v48 v49 = some r ∧ s = mk [H7, C6 1 p1, (5, .c (.app 1 (List.map aM v32))), C0 6 2 0, C6 7 v46] [A2 v47 v48, B7 1 172 5 v32, (2, .blk 152 [I 4, I 0, Sx (⟨#[]⟩ : ByteArray), M0 3 v49]), B7 3 152 4 v49] 4) n _ (eA.trans (lX (n := 6) (T0 := 152) (l := [I 4, I 0, Sx (⟨#[]⟩ : ByteArray), cQ]) (G2 := [E0 y38.2, B7 1 172 5 v32, (6, .blk 152 [I 4, I 0, Sx (⟨#[]⟩ : ByteArray), .app 11 (List.map aQ ([] : List aF))]), (11, .tok 152 4 (List.length ([] : List aF)))]) (lim2 := 12) 3 152 4 (by kernel_rfl) (by kernel_rfl) (by kernel_rfl) (by kernel_rfl)) (zv [(0, 0), (1, 1), (6, 2), (11, 3)] [0, 1, 5, 6, 7] 4)) ⟨_, _, _, _, h, rfl⟩ (fun s ⟨v46, v47, v48, v49, h, _⟩ => nomatch h) ?_
 rintro n s ⟨v46, v47, v48, v49, h, rfl⟩
 rw [jY] at h
 refine aO ?_
 refine za [0, 1, 5, 6, 7, 65] ?_
 refine zi h (fun h => ?_) fun h => ?_
 refine aC ?_
 refine aO ?_
 refine aK ?_
 refine Uo [[], [0], [], [], [3], [2, 4, 3], [5, 2, 4, 3], [6, 4, 5, 2, 3], [7, 6, 4, 5, 2, 3], [1, 8, 7, 0, 6, 4, 5, 2, 3], [0, 1, 2, 3, 4, 5, 6, 7, 8, 9], [10, 9, 0, 1, 2, 3, 4, 5, 6, 7, 8]] fun _ => ?_
 refine zk 4 ?_
 obtain ⟨y50, he, h⟩ := aB h
 refine zo [(0, 0)] cS (bG n _ _ y50 he) ?_
 clear he
 obtain ⟨e51, he, h⟩ := aB h
 refine zd aH he ?_
 clear he
 refine zk 1 ?_
 obtain ⟨y52, he, h⟩ := aB h
 refine zc Aj (jN n _ y52 he) ?_
 clear he
 refine rG (e := 152) (sz := 4) (len := 1) (r := [I y52.Kind, I y52.N, Sx y52.S, C5 y52.L]) (l' := List.map aQ [y52]) (nm := 14) (by kernel_rfl) (by simp only [List.map_cons, List.map_nil, dR]; kernel_rfl) (by kernel_rfl) (by kernel_rfl) rfl rfl rfl ?_
 obtain ⟨l53, he, h⟩ := aB h
 refine cH (enc := aQ) (l := v49) (els := [y52]) (r := l53) (old := some 3) (e := 152) (sz := 4) (bytes := 56) (k := (H4 v49)) (nm := 15) he (by kernel_rfl) (by kernel_rfl) (fun x => by rw [dR]; rfl) (by kernel_rfl) (by kernel_rfl) rfl rfl rfl ?_
 clear he
 refine zk 2 ?_
 refine cF ?_
 refine bB ?_
 refine zb ?_
 exact eZ (zv [(0, 0), (1, 1), (2, 2), (15, 3)] [0, 1, 5, 6, 7] 4) (⟨_, _, _, _, h, rfl⟩)
 exact aL (zv [(0, 0), (1, 1), (2, 2), (3, 3)] [0, 1, 5, 6] 4) (bK (hj37 _ _ _ h))
 exact aL (zv [(0, 0), (1, 1)] [0, 1, 5] 2) (aC (hj35 _ _ _ h))
 refine zx fun _ => ?_
 refine zk 1 ?_
 obtain ⟨y28, he, h⟩ := aB h
 refine zo [(0, 0)] cS (bG n _ _ y28 he) ?_
 clear he
 refine zk 1 ?_
 refine ze [0, 1, 5, 50] ?_
 refine zi h (fun h => ?_) fun h => ?_
 refine bB ?_
 refine zy fun _ => ?_
 refine zk 2 ?_
 obtain ⟨y29, he, h⟩ := aB h
 refine zo [(0, 0)] Yd (vN n _ y29 he) ?_
 clear he
 obtain ⟨y30, he, h⟩ := aB h
 refine zc En (nG n _ y30 he) ?_
 clear he
 refine zk 2 ?_
 obtain ⟨l31, he, h⟩ := aB h
 refine cH (enc := aM) (l := v24) (els := [(bD.mk (⟨#[99, 108, 97, 115, 115]⟩ : ByteArray) y30)]) (r := l31) (old := some 1) (e := 172) (sz := 5) (bytes := 72) (k := (H4 v24)) (nm := 11) he (by kernel_rfl) (by kernel_rfl) (fun x => by kernel_rfl) (by kernel_rfl) (by kernel_rfl) rfl rfl rfl ?_
 clear he
 refine zk 1 ?_
 refine cF ?_
 exact eZ (zv [(0, 0), (11, 1)] [0, 1, 5] 2) (hj27 _ _ _ h)
 exact aL (zv [(0, 0), (1, 1)] [0, 1, 5] 2) (aC (hj27 _ _ _ h))
 refine zx fun _ => ?_
 refine zk 1 ?_
 obtain ⟨y20, he, h⟩ := aB h
 refine zo [(0, 0)] cS (bG n _ _ y20 he) ?_
 clear he
 refine zk 1 ?_
 refine ze [0, 1, 5, 40] ?_
 refine zi h (fun h => ?_) fun h => ?_
 refine bB ?_
 refine zy fun _ => ?_
 refine zk 2 ?_
 obtain ⟨y21, he, h⟩ := aB h
 refine zo [(0, 0)] cS (bG n _ _ y21 he) ?_
 clear he
 obtain ⟨y22, he, h⟩ := aB h
 refine zc Ki (pV n _ y22 he) ?_
 clear he
 refine zk 2 ?_
 obtain ⟨l23, he, h⟩ := aB h
 refine cH (enc := aM) (l := v16) (els := [(bD.mk (⟨#[99, 104, 101, 99, 107, 101, 100]⟩ : ByteArray) y22)]) (r := l23) (old := some 1) (e := 172) (sz := 5) (bytes := 72) (k := (H4 v16)) (nm := 11) he (by kernel_rfl) (by kernel_rfl) (fun x => by kernel_rfl) (by kernel_rfl) (by kernel_rfl) rfl rfl rfl ?_
 clear he
 refine zk 1 ?_
 refine cF ?_
 exact eZ (zv [(0, 0), (11, 1)] [0, 1, 5] 2) (hj19 _ _ _ h)
 exact aL (zv [(0, 0), (1, 1)] [0, 1, 5] 2) (aC (hj19 _ _ _ h))
 refine zx fun _ => ?_
 refine zk 1 ?_
 obtain ⟨y11, he, h⟩ := aB h
 refine zo [(0, 0)] cS (bG n _ _ y11 he) ?_
 clear he
 refine zk 1 ?_
 refine ze [0, 1, 5, 25] ?_
 refine zi h (fun h => ?_) fun h => ?_
 refine bB ?_
 refine zy fun _ => ?_
 refine zk 2 ?_
 obtain ⟨y12, he, h⟩ := aB h
 refine zo [(0, 0)] cS (bG n _ _ y12 he) ?_
 clear he
 refine zk 3 ?_
 refine zw (v := .c (Sx (dG [H5 y12.1]))) [] (mG (ns := [H5 y12.1]) (by kernel_rfl)) ?_
 obtain ⟨s13, he, h⟩ := aB h
 refine zw (v := .c (Sx s13)) [] (Jy (p := (⟨#[107]⟩ : ByteArray)) (q := (dG [H5 y12.1])) he (by kernel_rfl)) ?_
 clear he
 obtain ⟨y14, he, h⟩ := aB h
 refine zc En (nG n _ y14 he) ?_
 clear he
 refine zk 2 ?_
 obtain ⟨l15, he, h⟩ := aB h
 refine cH (enc := aM) (l := v7) (els := [(bD.mk (⟨#[97, 108, 105, 103, 110, 108, 101, 102, 116]⟩ : ByteArray) y14)]) (r := l15) (old := some 1) (e := 172) (sz := 5) (bytes := 72) (k := (H4 v7)) (nm := 16) he (by kernel_rfl) (by kernel_rfl) (fun x => by kernel_rfl) (by kernel_rfl) (by kernel_rfl) rfl rfl rfl ?_
 clear he
 refine zk 1 ?_
 refine cF ?_
 exact eZ (zv [(0, 0), (16, 1)] [0, 1, 5] 2) (hj10 _ _ _ h)
 exact aL (zv [(0, 0), (1, 1)] [0, 1, 5] 2) (aC (hj10 _ _ _ h))
 refine zx fun _ => ?_
 refine zk 1 ?_
 obtain ⟨y2, he, h⟩ := aB h
 refine zo [(0, 0)] cS (bG n _ _ y2 he) ?_
 clear he
 refine zk 1 ?_
 refine ze [0, 1, 5, 10] ?_
 refine zi h (fun h => ?_) fun h => ?_
 refine bB ?_
 refine zy fun _ => ?_
 refine zk 2 ?_
 obtain ⟨y3, he, h⟩ := aB h
 refine zo [(0, 0)] cS (bG n _ _ y3 he) ?_
 clear he
 refine zk 3 ?_
 refine zw (v := .c (Sx (dG [H5 y3.1]))) [] (mG (ns := [H5 y3.1]) (by kernel_rfl)) ?_
 obtain ⟨s4, he, h⟩ := aB h
 refine zw (v := .c (Sx s4)) [] (Jy (p := (⟨#[107]⟩ : ByteArray)) (q := (dG [H5 y3.1])) he (by kernel_rfl)) ?_
 clear he
 obtain ⟨y5, he, h⟩ := aB h
 refine zc En (nG n _ y5 he) ?_
 clear he
 refine zk 2 ?_
 obtain ⟨l6, he, h⟩ := aB h
 refine cH (enc := aM) (l := ([] : List bD)) (els := [(bD.mk (⟨#[97, 98, 111, 118, 101]⟩ : ByteArray) y5)]) (r := l6) (old := none) (e := 172) (sz := 5) (bytes := 72) (k := 0) (nm := 17) he (by kernel_rfl) (by kernel_rfl) (fun x => by kernel_rfl) (by kernel_rfl) (by kernel_rfl) rfl rfl rfl ?_
 clear he
 refine zk 1 ?_
 refine cF ?_
 exact eZ (zv [(0, 0), (17, 1)] [0, 1, 5] 2) (hj1 _ _ _ h)
 exact aL (eA.trans (nC (L2 := [H7, C6 1 p1, (5, .c (.app 6 (List.map aM ([] : List bD)))), (10, B2 (y2.1 == 0))]) (G2 := [E0 y2.2, (6, .tok 172 5 (List.length ([] : List bD)))]) (lim2 := 7) 5 172 5 (by kernel_rfl) (by kernel_rfl) (by kernel_rfl) (by kernel_rfl)) (zv [(0, 0), (6, 1)] [0, 1, 5] 2)) (aC (hj1 _ _ _ h))
end Go.Proofs.YtojkihhnioeggaaGreatDoor.S
