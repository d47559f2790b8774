import Derived.Test.YtojkihhnioeggaaGreatDoorQCGVs
set_option linter.unusedVariables false
set_option linter.unusedSimpArgs false
set_option maxRecDepth 100000
set_option maxHeartbeats 4000000
namespace Go.Proofs.YtojkihhnioeggaaGreatDoor.S
open Go Go.Bm
abbrev A0 (a : aA) := bE.blk 52 [I a.x0, I a.x1, I a.x2, I a.x3, I a.x4, I a.x5, I a.x6, I a.x7, I a.x8, I a.x9, I a.x10, I a.x11, I a.x12, I a.x13, I a.x14, I a.x15, I a.x16, I a.x17, I a.x18, I a.x19, I a.x20, I a.x21]
abbrev A1 (a b c) := ((a, AV.c (CV.ptr b c)) : Nat × _)
abbrev A2 (a : bZ) := bE.blk 63 [I a.Kind, Sx a.Class, I a.States, I a.UnderKind, Sx a.UnderClass, CV.lit (List.map bI a.Decls)]
abbrev A3 (a b c : Int) := (decide (a < b)) || (decide (a > c))
abbrev A4 (a : bB) := bE.blk 27 [I a.Root, I a.Next, CV.lit (List.map aE a.Nodes)]
abbrev A5 (a b) := (0, bE.blk 78 [CV.lit (List.map aN a), I b])
abbrev A6 (a b) := ((a, AV.c (I b)) : Nat × _)
abbrev A7 := bE.blk 52 [I 0, I 0, I 0, I 0, I 0, I 0, I 0, I 0, I 0, I 0, I 0, I 0, I 0, I 0, I 0, I 0, I 0, I 0, I 0, I 0, I 0, I 0]
abbrev A8 (a : jJ) (b c d e f g) := bE.blk 95 [CV.lmap true (List.map (eM (Value.int .i64) aE) a.nodes), CV.lmap false (List.map (eM (Value.int .i64) eS) a.class_), CV.lmap false (List.map (eM (Value.int .i64) aN) a.states), CV.lit (List.map aY b), CV.lit (List.map aN c), CV.lit (List.map bH d), Bo e, Bo f, I g]
abbrev A9 (a : aR) := bE.blk 58 [I a.ID, I a.Parent, I a.Kind, Sx a.Key, CV.lit (List.map aM a.Attrs), CV.lit (List.map aF a.Actions), CV.lit (List.map aN a.Kids)]
abbrev B0 (a : aL) := bE.blk 70 [I a.Kind, Sx a.Key, CV.lit (List.map aM a.Attrs), CV.lit (List.map aF a.Actions), CV.lit (List.map bC a.Kids)]
abbrev B1 (a) (b : aA) := CV.imm [I a, I b.x0, I b.x1, I b.x2, I b.x3, I b.x4, I b.x5, I b.x6, I b.x7, I b.x8, I b.x9, I b.x10, I b.x11, I b.x12, I b.x13, I b.x14, I b.x15, I b.x16, I b.x17, I b.x18, I b.x19, I b.x20, I b.x21]
abbrev B2 (a : aL) := AV.agg [I a.Kind, Sx a.Key, CV.lit (List.map aM a.Attrs), CV.lit (List.map aF a.Actions), CV.lit (List.map bC a.Kids)]
abbrev B3 (a) := AV.c (Bo a)
abbrev B4 := Value.int .i64
abbrev B5 (a : aR) := AV.agg [I a.ID, I a.Parent, I a.Kind, Sx a.Key, CV.lit (List.map aM a.Attrs), CV.lit (List.map aF a.Actions), CV.lit (List.map aN a.Kids)]
abbrev B6 (a : jJ) := (0, bE.blk 92 [CV.lmap true (List.map (eM (B4) aE) a.nodes), CV.lmap false (List.map (eM (B4) eS) a.class_), CV.lmap false (List.map (eM (B4) aN) a.states)])
abbrev B7 (a) := AV.c (I a)
abbrev B8 (a : aJ) := AV.agg [I a.Kind, I a.N, Sx a.S, CV.lit (List.map aP a.L)]
abbrev B9 (a b) := AV.c (CV.ptr a b)
abbrev C0 (a : bB) := AV.agg [I a.Root, I a.Next, CV.lit (List.map aE a.Nodes)]
abbrev C1 (a b : Int) := decide (a < b)
abbrev C2 (a : aA) := AV.c (CV.imm [I a.x0, I a.x1, I a.x2, I a.x3, I a.x4, I a.x5, I a.x6, I a.x7, I a.x8, I a.x9, I a.x10, I a.x11, I a.x12, I a.x13, I a.x14, I a.x15, I a.x16, I a.x17, I a.x18, I a.x19, I a.x20, I a.x21])
abbrev C3 (a : aA) := AV.agg [I a.x0, I a.x1, I a.x2, I a.x3, I a.x4, I a.x5, I a.x6, I a.x7, I a.x8, I a.x9, I a.x10, I a.x11, I a.x12, I a.x13, I a.x14, I a.x15, I a.x16, I a.x17, I a.x18, I a.x19, I a.x20, I a.x21]
abbrev C4 {α3 : Type} (a b c) (d : List α3) := ((a, bE.tok b c (List.length d)) : Nat × _)
abbrev C5 (a) := CV.lit (List.map aY a)
abbrev C6 (a : cQ) := bE.blk 38 [Bo a.Dark, Bo a.High, I a.Scale]
abbrev C7 (a) := CV.lit (List.map aM a)
abbrev C8 (a) := CV.lmap true (List.map (eM (B4) aE) a)
abbrev C9 (a : aX) := AV.agg [I a.Kind, CV.lit (List.map bL a.Of)]
abbrev D2 (a) := CV.lit (List.map aP a)
abbrev D3 (a) := CV.lit (List.map aF a)
abbrev D4 (a) := CV.lit (List.map aN a)
abbrev D5 (a b : Int) := decide (a > b)
abbrev D6 (a) := AV.c (CV.lit (List.map aV a))
abbrev D7 (a : bZ) := AV.agg [I a.Kind, Sx a.Class, I a.States, I a.UnderKind, Sx a.UnderClass, CV.lit (List.map bI a.Decls)]
abbrev D8 (a) := bE.blk 35 [CV.lit (List.map bH a)]
abbrev D9 (a b : Int) := IntKind.wrap .i64 (a + b)
abbrev E0 (a b c d) := mk [A1 0 0 0, A6 1 a, (5, AV.c (CV.app 1 (List.map aM b)))] [A5 c d, C4 1 172 5 b] 2
abbrev E1 (a b c : Int) := (decide (a ≥ b)) && (decide (a ≤ c))
abbrev E2 (a) := CV.lmap false (List.map (eM (B4) eS) a)
abbrev E3 (a : bN) := bE.blk 81 [I a.Prop_, I a.Source, I a.N, Sx a.Token]
abbrev E4 (a : aO) := A5 a.L a.At
abbrev E5 (a : aJ) := bE.blk 152 [I a.Kind, I a.N, Sx a.S, D2 a.L]
abbrev E6 (a) := AV.c (CV.lit (List.map bM a))
abbrev E7 (a) := bE.vec 3 1 (List.map aN a)
abbrev E8 (a b c) := aA.set a b c
abbrev E9 (a : aL) := CV.imm [I a.Kind, Sx a.Key, C7 a.Attrs, D3 a.Actions, CV.lit (List.map bC a.Kids)]
abbrev F0 (a) := AV.c (Sx a)
abbrev F1 (a) := CV.lmap false (List.map (eM (B4) aN) a)
abbrev F2 (a) := (0, bE.blk 31 [C5 a])
abbrev F3 (a) := CV.lit (List.map bL a)
abbrev F4 (a) := AV.c (CV.lit (List.map aE a))
abbrev F5 (a : Int) := IntKind.wrap .i64 (a - 1)
abbrev F6 (a b) := ((a, AV.c (CV.mapr b)) : Nat × _)
abbrev F7 (a b c d e) (f : cQ) := ((a, A8 b c d e f.Dark f.High f.Scale) : Nat × _)
abbrev F8 (a) := CV.lit (List.map bH a)
abbrev F9 (a : cQ) := AV.agg [Bo a.Dark, Bo a.High, I a.Scale]
abbrev G0 (a) := A3 a 97 122
abbrev G3 (a) := (0, bE.blk 3 [I a])
abbrev G4 := bE.blk 190 [I 0, cE]
abbrev G5 (a) := D5 a 1099511627776
abbrev G6 (a) := CV.lit (List.map bC a)
abbrev G7 (a : cR) := bE.blk 159 [Sx a.Event, Sx a.Instance, Sx a.Handler, D2 a.Args]
abbrev G8 (a) (b : aJ) := CV.imm [Sx a, I b.Kind, I b.N, Sx b.S, D2 b.L]
abbrev G9 (a) := AV.c (CV.fn 38 [CV.imm [C5 a]])
abbrev H0 (a) := List.map (eM (B4) bI) a
abbrev H1 {α0 : Type} (a : List α0) := List.length a
abbrev H3 := A1 1 0 0
abbrev H4 (a : dL) := bE.blk 85 [Sx a.Name, I a.Light, I a.Dark, I a.HighLight, I a.HighDark]
abbrev H5 (a b c) := ((a, bE.blk b [CV.row c]) : Nat × _)
abbrev H6 (a) := bE.vec 58 7 (List.map aE a)
abbrev H7 (a) := IntKind.wrap .u8 (D9 97 a)
abbrev H8 := A1 4 1 0
abbrev H9 (a b) := B3 (C1 a b)
abbrev I0 (a b : Int) := decide (a ≥ b)
abbrev I1 (a b) := ((a, A4 b) : Nat × _)
abbrev I2 (a b : Int) := decide (a ≤ b)
abbrev I3 := A1 0 0 0
abbrev I4 (a) := List.map (eM (B4) aE) a
abbrev I5 (a) := ((a, AV.c (I 0)) : Nat × _)
abbrev I6 := A1 3 0 0
abbrev I7 := A1 4 0 0
abbrev I8 (a : aX) := bE.blk 190 [I a.Kind, F3 a.Of]
abbrev I9 (a) := AV.c (U8 a)
abbrev J0 := A1 2 0 0
abbrev J1 (a) := bE.vec 63 6 (List.map aY a)
abbrev J2 (a) := AV.c (CV.row a)
abbrev J3 (a b) := ((a, B3 b) : Nat × _)
abbrev J4 (a) := A3 a 65 90
abbrev J5 (a b) := B3 (D5 a b)
abbrev J6 (a b) := ((a, AV.c (D4 b)) : Nat × _)
abbrev J7 (a : aJ) := CV.imm [I a.Kind, I a.N, Sx a.S, D2 a.L]
abbrev J8 := A1 10 2 0
abbrev J9 (a) := A3 a 2 1099511627776
abbrev K0 (a b c d e f g) := bE.blk 58 [I a, I b, I c, Sx d, C7 e, D3 f, D4 g]
abbrev K1 (a b) := ((a, A0 b) : Nat × _)
abbrev K2 (a) := A6 2 (D9 a 1)
abbrev K3 := List Int
abbrev K4 (a b) := CV.app a (List.map bC b)
abbrev K5 (a b) := ((a, A2 b) : Nat × _)
abbrev K6 (a : cR) := CV.imm [Sx a.Event, Sx a.Instance, Sx a.Handler, D2 a.Args]
abbrev K7 (a b) := ((a, AV.c (CV.lit (List.map bI b))) : Nat × _)
abbrev K8 := A1 11 3 0
abbrev K9 := A1 14 4 0
abbrev L0 := A1 16 5 0
abbrev L3 := A1 17 6 0
abbrev L4 := (1, bE.blk 92 [CV.mapr 2, CV.mapr 3, CV.mapr 4])
abbrev L5 := A1 8 0 0
abbrev L6 (a : aR) := CV.imm [I a.ID, I a.Parent, I a.Kind, Sx a.Key, C7 a.Attrs, D3 a.Actions, D4 a.Kids]
abbrev L7 (a b c) := ((a, AV.c (CV.app b (List.map oI c))) : Nat × _)
abbrev L8 (a : jJ) := AV.agg [C8 a.nodes, E2 a.class_, F1 a.states]
abbrev L9 (a) := ((a, AV.c (Bo false)) : Nat × _)
abbrev M0 (a) := I2 a 1152921504606846976
abbrev M1 (a) := (1, D8 a)
abbrev M2 (a) := (2, C6 a)
abbrev M3 := A1 9 1 0
abbrev M4 := List (Int × aR)
abbrev M5 (a b) (c : jJ) (d e f g h i) := ((a, bE.blk b [C8 c.nodes, E2 c.class_, F1 c.states, C5 d, CV.row e, F8 f, Bo g, Bo h, I i]) : Nat × _)
abbrev M6 (a : aX) := CV.imm [I a.Kind, F3 a.Of]
abbrev M7 (a) := AV.c (D2 a)
abbrev M8 (a : bN) := AV.agg [I a.Prop_, I a.Source, I a.N, Sx a.Token]
abbrev M9 := A1 6 1 0
abbrev N0 := A1 3 2 0
abbrev N1 (a) := A3 a 48 57
abbrev N2 (a) := AV.c (CV.lmap true (H0 a))
abbrev N3 (a) := (4, D6 a)
abbrev N4 (a b) := CV.app a (List.map aP b)
abbrev N5 := A1 3 1 0
abbrev N6 (a b) := CV.app a (List.map aF b)
abbrev N7 := mk [] [] 0
abbrev N8 := bE.blk 97 [I 0, I 0]
abbrev N9 (a b c) := ((a, AV.cnd [!(C1 b c)] (B7 b)) : Nat × _)
abbrev O0 := A1 2 1 0
abbrev O1 (a) := List.map (eM (B4) eB) a
abbrev O2 (a) := AV.c (CV.fn 101 [CV.imm [CV.lit (List.map aV a)]])
abbrev O3 := A1 5 1 0
abbrev O4 (a b) := jW .i64 a b
abbrev O5 (a) := List.map (eM Value.string eB) a
abbrev O6 := Int × Int
abbrev O7 (a) := AV.c (C8 a)
abbrev O8 (a) := A3 a 1 4
abbrev O9 := A1 6 2 0
abbrev P0 (a) := AV.c (D3 a)
abbrev P1 (a) := D5 a 1152921504606846976
def wA  (n : Nat) (p0 : (List Int)) : Option aO := (aS (fun (v3 : List Int) => some (aO.mk v3 0)) (fun (j1 : List Int → Option aO) => (if (decide ((List.length p0 : Int) > 4000)) = true then (Uc p0 0 4000).bind fun (l2 : List Int) => j1 l2 else j1 p0)))
theorem Mc  (n : Nat) (p0 : (K3)) (r : aO) (h : wA n p0 = some r) : cW E 9 0 [.c (D4 p0)] [] (B9 0 0) [E4 r] := by
 refine eV Tryz.func9 rfl ?_
 unfold wA at h
 refine za [0] ?_
 refine aQ h (fun A j => ∀ v3, j v3 = some r → A (mk [J6 0 v3] [] 0)) (fun v3 h => ?_) (fun j1 Aj1 hj1 h => ?_)
 refine za [2] ?_
 have h := Option.some.inj h
 subst h
 refine aH (uY rfl [(2, 0)] [2] (L2 := [J0]) (G2 := [(0, .blk 78 [D4 v3, I 0])]) (lim2 := 1) (by kernel_rfl)) ?_
 exact aD (Kn (.inl rfl) (by kernel_rfl) (by kernel_rfl))
 refine zx fun _ => ?_
 refine zk 1 ?_
 refine zl aN p0 ?_
 refine zk 1 ?_
 refine ze [0, 5] ?_
 refine zi h (fun h => ?_) fun h => ?_
 refine aW ?_
 refine zy fun _ => ?_
 refine zk 1 ?_
 obtain ⟨l2, he, h⟩ := aC h
 refine zw (v := .c (D4 l2)) [] (Iz (enc := aN) (l := p0) (p := 0) (q := 4000) (sz := 1) he (by kernel_rfl) (fun x => by kernel_rfl)) ?_
 clear he
 refine zk 1 ?_
 refine bV ?_
 exact dF (zv [] [0] 0) (hj1 _ h)
 exact aH (zv [] [0] 0) (aB (hj1 _ h))
def cK  (n : Nat) (p0 : aO) (p1 : Int) : Option (Int × aO) := (if ((decide (p0.At ≥ (List.length p0.L : Int))) || (decide (p1 < 1))) = true then some (0, p0) else (idx p0.L p0.At).bind fun (e1 : Int) => (nz p1).bind fun (d2 : Int) => (aS (fun (v4 : Int) => some (v4, (aO.mk p0.L (IntKind.wrap .i64 (p0.At + 1))))) (fun (j3 : Int → Option (Int × aO)) => (if (decide ((Int.tmod e1 p1) < 0)) = true then j3 (IntKind.wrap .i64 ((Int.tmod e1 p1) + p1)) else j3 (Int.tmod e1 p1)))))
theorem bJ  (n : Nat) (p0 : aO) (p1 : Int) (r : (Int × aO)) (h : cK n p0 p1 = some r) : cW E 15 1 [B9 0 0, B7 p1] [E4 p0] (B7 r.1) [E4 r.2] := by
 refine eV Tryz.func15 rfl ?_
 unfold cK at h
 refine za [0, 1] ?_
 refine aI ?_
 refine xI [[], [0], [1, 0], [2, 1, 0], [], [4], [5, 4], [6, 5, 4], [7, 6, 5, 4], [3, 8, 2, 1, 0, 7, 6, 5, 4], [9, 3, 8, 2, 1, 0, 7, 6, 5, 4], [10, 9, 3, 8, 2, 1, 0, 7, 6, 5, 4], [11, 10, 9, 3, 8, 2, 1, 0, 7, 6, 5, 4], [10, 12, 9, 3, 8, 2, 1, 0, 7, 6, 5, 4, 11]] fun _ => ?_
 refine zk 8 ?_
 refine zl aN p0.L ?_
 refine zk 2 ?_
 refine zE (B7 p1) ?_
 refine zE (H9 p1 1) ?_
 refine zP (.bool ((decide (p0.At ≥ (List.length p0.L : Int))) || (C1 p1 1))) ?_
 refine ze [0, 1, 19] ?_
 refine zi h (fun h => ?_) fun h => ?_
 refine za [4] ?_
 cases h
 exact aD zr
 refine aB ?_
 refine xI [[], [0], [1, 0], [2, 1, 0], [], [4], [5, 4], [6, 5, 4], [3, 7, 2, 1, 0, 6, 5, 4], [8, 3, 7, 2, 1, 0, 6, 5, 4], [], [9, 10, 8, 3, 7, 2, 1, 0, 6, 5, 4], [11, 0, 1, 2, 3, 4, 5, 6, 7, 8, 9, 10]] fun _ => ?_
 refine zk 8 ?_
 obtain ⟨e1, he, h⟩ := aC h
 refine zd aN he ?_
 clear he
 refine zk 2 ?_
 obtain ⟨d2, he, h⟩ := aC h
 refine cZ (v := .c (I (Int.tmod e1 p1))) (foot := []) (Qj (k := .i64) (x := e1) (y := p1) he (by kernel_rfl)) (by kernel_rfl) rfl rfl ?_
 clear he
 refine zk 1 ?_
 refine jY [0, 1, 5] (L2 := [I3, A6 1 p1, A6 5 (Int.tmod e1 p1)]) (G2 := [E4 p0]) 29 ?_
 refine za [1, 5] ?_
 refine aQ h (fun A j => ∀ v4, j v4 = some r → A (mk [A6 5 v4] [A5 p0.L (D9 p0.At 1)] 1)) (fun v4 h => ?_) (fun j3 Aj3 hj3 h => ?_)
 refine za [4] ?_
 cases h
 exact aD zr
 refine za [1, 5, 40] ?_
 refine zi h (fun h => ?_) fun h => ?_
 refine aW ?_
 refine zb ?_
 exact dF (zv [(0, 0)] [5] 1) (hj3 _ h)
 exact aH (zv [(0, 0)] [5] 1) (aB (hj3 _ h))
def oO  (n : Nat) (p0 : ByteArray) : Option aJ := some (aJ.mk 3 0 p0 ([] : List aJ))
theorem nP  (n : Nat) (p0 : ByteArray) (r : aJ) (h : oO n p0 = some r) : cW E 116 0 [F0 p0] [] (B8 r) [] := by
 refine eV Tryz.func116 rfl ?_
 unfold oO at h
 refine za [0, 2] ?_
 refine za [2] ?_
 cases h
 exact aD zr
def qL  (n : Nat) (p0 : Int) : Option aJ := some (aJ.mk 2 p0 (⟨#[]⟩ : ByteArray) ([] : List aJ))
theorem qF  (n : Nat) (p0 : Int) (r : aJ) (h : qL n p0 = some r) : cW E 117 0 [B7 p0] [] (B8 r) [] := by
 refine eV Tryz.func117 rfl ?_
 unfold qL at h
 refine za [0, 2] ?_
 refine za [2] ?_
 cases h
 exact aD zr
def nV  (n : Nat) (p0 : aO) : Option (ByteArray × aO) := (cK n p0 (List.length [(⟨#[97]⟩ : ByteArray), (⟨#[98]⟩ : ByteArray), (⟨#[99]⟩ : ByteArray), (⟨#[100]⟩ : ByteArray), (⟨#[120]⟩ : ByteArray), (⟨#[121]⟩ : ByteArray), (⟨#[105, 116, 101, 109]⟩ : ByteArray), (⟨#[110, 45, 49]⟩ : ByteArray)] : Int)).bind fun (y1 : (Int × aO)) => (idx [(⟨#[97]⟩ : ByteArray), (⟨#[98]⟩ : ByteArray), (⟨#[99]⟩ : ByteArray), (⟨#[100]⟩ : ByteArray), (⟨#[120]⟩ : ByteArray), (⟨#[121]⟩ : ByteArray), (⟨#[105, 116, 101, 109]⟩ : ByteArray), (⟨#[110, 45, 49]⟩ : ByteArray)] y1.1).bind fun (e2 : ByteArray) => some (e2, y1.2)
theorem vS  (n : Nat) (p0 : aO) (r : (ByteArray × aO)) (h : nV n p0 = some r) : cW E 32 1 [B9 0 0] [E4 p0] (F0 r.1) [E4 r.2] := by
 refine eV Tryz.func32 rfl ?_
 unfold nV at h
 refine za [0] ?_
 refine za [0, 3] ?_
 refine zx fun _ => ?_
 refine zk 3 ?_
 refine zl eS [(⟨#[97]⟩ : ByteArray), (⟨#[98]⟩ : ByteArray), (⟨#[99]⟩ : ByteArray), (⟨#[100]⟩ : ByteArray), (⟨#[120]⟩ : ByteArray), (⟨#[121]⟩ : ByteArray), (⟨#[105, 116, 101, 109]⟩ : ByteArray), (⟨#[110, 45, 49]⟩ : ByteArray)] ?_
 obtain ⟨y1, he, h⟩ := aC h
 refine zo [(0, 0)] cP (bJ n _ _ y1 he) ?_
 clear he
 obtain ⟨e2, he, h⟩ := aC h
 refine zd eS he ?_
 clear he
 refine zk 2 ?_
 refine ze [2] ?_
 cases h
 exact aD zr
def mM  (n : Nat) (p0 : aO) (p1 : Int) (p2 : Int) : Option (Int × aO) := (cK n p0 (IntKind.wrap .i64 ((IntKind.wrap .i64 (p2 - p1)) + 1))).bind fun (y1 : (Int × aO)) => some ((IntKind.wrap .i64 (p1 + y1.1)), y1.2)
theorem nU  (n : Nat) (p0 : aO) (p1 : Int) (p2 : Int) (r : (Int × aO)) (h : mM n p0 p1 p2 = some r) : cW E 16 1 [B9 0 0, B7 p1, B7 p2] [E4 p0] (B7 r.1) [E4 r.2] := by
 refine eV Tryz.func16 rfl ?_
 unfold mM at h
 refine za [0, 1, 2] ?_
 refine zx fun _ => ?_
 refine zk 6 ?_
 obtain ⟨y1, he, h⟩ := aC h
 refine zo [(0, 0)] cP (bJ n _ _ y1 he) ?_
 clear he
 refine zk 2 ?_
 refine ze [6] ?_
 cases h
 exact aD zr
def kE  (n : Nat) (p0 : Int) : Option aJ := some (aJ.mk 1 p0 (⟨#[]⟩ : ByteArray) ([] : List aJ))
theorem jX  (n : Nat) (p0 : Int) (r : aJ) (h : kE n p0 = some r) : cW E 118 0 [B7 p0] [] (B8 r) [] := by
 refine eV Tryz.func118 rfl ?_
 unfold kE at h
 refine za [0, 2] ?_
 refine za [2] ?_
 cases h
 exact aD zr
def oY  (n : Nat)  : Option (List Int) := some [97, 98, 102, 105, 88, 49, 50, 32, 32, 46, 44, 45, 39, 34, 40, 41, 91, 93, 60, 33, 58, 95, 37, 43, 47, 9, 10, 13, 11, 133, 160, 173, 183, 769, 1488, 1489, 1470, 1456, 1536, 1575, 1576, 1587, 1600, 1611, 1633, 1642, 1548, 1564, 1777, 2307, 2309, 2364, 4352, 4449, 4520, 44032, 44033, 8201, 8203, 8204, 8205, 8206, 8207, 8217, 8232, 8233, 8234, 8235, 8236, 8237, 8238, 8288, 8294, 8295, 8296, 8297, 9728, 12288, 12289, 12300, 12301, 12450, 19968, 65039, 127462, 127463, 127995, 128104, 1114111]
theorem Ae  (n : Nat)  (r : (K3)) (h : oY n  = some r) : cW E 140 0 [] [] (.c (.lit (List.map oI r))) [] := by
 refine eV Tryz.func140 rfl ?_
 unfold oY at h
 refine za [] ?_
 refine za [0] ?_
 cases h
 exact aD zr
def rA  (n : Nat) (p0 : aO) (p1 : Int) : Option (Bool × aO) := (cK n p0 p1).bind fun (y1 : (Int × aO)) => some ((y1.1 == (IntKind.wrap .i64 (p1 - 1))), y1.2)
theorem Hx  (n : Nat) (p0 : aO) (p1 : Int) (r : (Bool × aO)) (h : rA n p0 p1 = some r) : cW E 141 1 [B9 0 0, B7 p1] [E4 p0] (B3 r.1) [E4 r.2] := by
 refine eV Tryz.func141 rfl ?_
 unfold rA at h
 refine za [0, 1] ?_
 refine zx fun _ => ?_
 refine zk 2 ?_
 obtain ⟨y1, he, h⟩ := aC h
 refine zo [(0, 0)] cP (bJ n _ _ y1 he) ?_
 clear he
 refine zk 4 ?_
 refine ze [4] ?_
 cases h
 exact aD zr
def yV  (n : Nat) (p0 : aO) : Option (Int × aO) := (if (decide (p0.At ≥ (List.length p0.L : Int))) = true then some (0, p0) else (idx p0.L (IntKind.wrap .i64 ((IntKind.wrap .i64 (p0.At + 1)) - 1))).bind fun (e1 : Int) => some (e1, (aO.mk p0.L (IntKind.wrap .i64 (p0.At + 1)))))
theorem Qm  (n : Nat) (p0 : aO) (r : (Int × aO)) (h : yV n p0 = some r) : cW E 142 1 [B9 0 0] [E4 p0] (B7 r.1) [E4 r.2] := by
 refine eV Tryz.func142 rfl ?_
 unfold yV at h
 refine za [0] ?_
 refine aI ?_
 refine xI [[], [0], [1, 0], [2, 1, 0], [], [4], [5, 4], [6, 5, 4], [7, 6, 5, 4], [3, 8, 2, 1, 0, 7, 6, 5, 4]] fun _ => ?_
 refine zk 8 ?_
 refine zl aN p0.L ?_
 refine zk 1 ?_
 refine ze [0, 12] ?_
 refine zi h (fun h => ?_) fun h => ?_
 refine za [2] ?_
 cases h
 exact aD zr
 refine aB ?_
 refine za [0] ?_
 refine xI [[], [0], [1, 0], [2, 1, 0], [], [4], [5, 4], [6, 5, 4], [7, 6, 5, 4], [3, 8, 2, 1, 0, 7, 6, 5, 4], [9, 3, 8, 2, 1, 0, 7, 6, 5, 4], [10, 0, 1, 2, 3, 4, 5, 6, 7, 8, 9]] fun _ => ?_
 refine zk 9 ?_
 obtain ⟨e1, he, h⟩ := aC h
 refine zd aN he ?_
 clear he
 refine zk 2 ?_
 refine ze [2] ?_
 cases h
 exact aD zr
def sY  (n : Nat) (p0 : aO) : Option (Int × aO) := (oY n).bind fun (y1 : (List Int)) => (rA n p0 40).bind fun (y2 : (Bool × aO)) => (if y2.1 = true then (yV n y2.2).bind fun (y3 : (Int × aO)) => some ((IntKind.wrap .i32 y3.1), y3.2) else (cK n y2.2 (List.length y1 : Int)).bind fun (y4 : (Int × aO)) => (idx y1 y4.1).bind fun (e5 : Int) => some (e5, y4.2))
theorem Cp  (n : Nat) (p0 : aO) (r : (Int × aO)) (h : sY n p0 = some r) : cW E 133 1 [B9 0 0] [E4 p0] (.c (I32 r.1)) [E4 r.2] := by
 refine eV Tryz.func133 rfl ?_
 unfold sY at h
 refine za [0] ?_
 refine zx fun _ => ?_
 obtain ⟨y1, he, h⟩ := aC h
 refine zc fok140 (Ae n  y1 he) ?_
 clear he
 refine zk 1 ?_
 refine ze [0, 3] ?_
 refine aI ?_
 refine zx fun _ => ?_
 refine zk 1 ?_
 obtain ⟨y2, he, h⟩ := aC h
 refine zo [(0, 0)] fok141 (Hx n _ _ y2 he) ?_
 clear he
 refine ze [0, 3, 6] ?_
 refine zi h (fun h => ?_) fun h => ?_
 refine zx fun _ => ?_
 refine zk 1 ?_
 obtain ⟨y3, he, h⟩ := aC h
 refine zo [(0, 0)] fok142 (Qm n _ y3 he) ?_
 clear he
 refine zk 2 ?_
 refine ze [2] ?_
 cases h
 exact aD zr
 refine aB ?_
 refine zx fun _ => ?_
 refine zk 3 ?_
 refine zl oI y1 ?_
 obtain ⟨y4, he, h⟩ := aC h
 refine zo [(0, 0)] cP (bJ n _ _ y4 he) ?_
 clear he
 obtain ⟨e5, he, h⟩ := aC h
 refine zd oI he ?_
 clear he
 refine zk 2 ?_
 refine jY [2] (L2 := [(2, .c (I32 e5))]) (G2 := [E4 y4.2]) 14 ?_
 cases h
 exact aD zr
def lL (y1 : (Int × aO)) (y2 : (Int × aO)) (v16 : List Int) (j19 : List Int → List Int → Int → Option ((List Int) × aO)) : Nat → List Int → Int → List Int → Int → Option ((List Int) × aO)
 | 0, _, _, _, _ => none
 | n + 1, v29, v30, v31, v32 => (if (decide (v30 < y1.1)) = true then (aS (fun (v39 : List Int) (v40 : List Int) (v41 : Int) => lL y1 y2 v16 j19 n v39 (IntKind.wrap .i64 (v30 + 1)) v40 v41) (fun (j33 : List Int → List Int → Int → Option ((List Int) × aO)) => (if (decide (y2.1 > 0)) = true then (cK n (aO.mk v31 v32) 5).bind fun (y34 : (Int × aO)) => (idx v16 y34.1).bind fun (e35 : Int) => (pV 4 v29 [e35]).bind fun (l36 : List Int) => j33 l36 y34.2.L y34.2.At else (sY n (aO.mk v31 v32)).bind fun (y37 : (Int × aO)) => (pV 4 v29 [y37.1]).bind fun (l38 : List Int) => j33 l38 y37.2.L y37.2.At))) else j19 v29 v31 v32)
def lT (j3 : List Int → List Int → Int → Option ((List Int) × aO)) (y1 : (Int × aO)) (y2 : (Int × aO)) : Nat → List Int → Int → List Int → Int → Option ((List Int) × aO)
 | 0, _, _, _, _ => none
 | n + 1, v6, v7, v8, v9 => (if (decide (v7 < 5)) = true then (sY n (aO.mk v8 v9)).bind fun (y10 : (Int × aO)) => (pV 4 v6 [y10.1]).bind fun (l11 : List Int) => lT j3 y1 y2 n l11 (IntKind.wrap .i64 (v7 + 1)) y10.2.L y10.2.At else j3 v6 v8 v9)
def vA  (n : Nat) (p0 : aO) (p1 : Int) : Option ((List Int) × aO) := (cK n p0 (IntKind.wrap .i64 (p1 + 1))).bind fun (y1 : (Int × aO)) => (cK n y1.2 3).bind fun (y2 : (Int × aO)) => (aS (fun (v16 : List Int) (v17 : List Int) (v18 : Int) => (aS (fun (v46 : List Int) (v47 : List Int) (v48 : Int) => some (v46, (aO.mk v47 v48))) (fun (j19 : List Int → List Int → Int → Option ((List Int) × aO)) => lL y1 y2 v16 j19 n ([] : List Int) 0 v17 v18))) (fun (j3 : List Int → List Int → Int → Option ((List Int) × aO)) => lT j3 y1 y2 n ([] : List Int) 0 y2.2.L y2.2.At))
theorem Om  (n : Nat) (p0 : aO) (p1 : Int) (r : ((K3) × aO)) (h : vA n p0 p1 = some r) : cW E 120 1 [B9 0 0, B7 p1] [E4 p0] (.c (.lit (List.map oI r.1))) [E4 r.2] := by
 refine eV Tryz.func120 rfl ?_
 unfold vA at h
 refine za [0, 1] ?_
 refine zx fun _ => ?_
 refine zk 3 ?_
 obtain ⟨y1, he, h⟩ := aC h
 refine zo [(0, 0)] cP (bJ n _ _ y1 he) ?_
 clear he
 refine zk 1 ?_
 refine ze [0, 5] ?_
 refine za [0, 5, 6] ?_
 refine zx fun _ => ?_
 refine zk 1 ?_
 obtain ⟨y2, he, h⟩ := aC h
 refine zo [(0, 0)] cP (bJ n _ _ y2 he) ?_
 clear he
 refine zk 1 ?_
 refine ze [0, 5, 6, 7] ?_
 refine za [0, 5, 6, 7, 8] ?_
 refine aQ h (fun A j => ∀ v16 v17 v18, j v16 v17 v18 = some r → A (mk [I3, A6 5 y1.1, (6, .c (cE)), A6 7 y2.1, L7 8 1 v16] [A5 v17 v18, C4 1 21 1 v16] 2)) (fun v16 v17 v18 h => ?_) (fun j3 Aj3 hj3 h => ?_)
 refine aQ h (fun A j => ∀ v46 v47 v48, j v46 v47 v48 = some r → A (mk [L7 6 1 v46] [A5 v47 v48, C4 1 21 1 v46] 2)) (fun v46 v47 v48 h => ?_) (fun j19 Aj19 hj19 h => ?_)
 refine za [4] ?_
 cases h
 exact aD zr
 refine za [0, 5, 6, 7, 8, 10] ?_
 refine aG ?_
 refine bA (fun n s => ∃ v29 v30 v31 v32, lL y1 y2 v16 j19 n v29 v30 v31 v32 = some r ∧ s = mk [I3, A6 5 y1.1, L7 6 1 v29, A6 7 y2.1, L7 8 2 v16, A6 10 v30] [A5 v31 v32, C4 1 21 1 v29, C4 2 21 1 v16] 3) n _ (dT.trans (mO (L2 := [I3, A6 5 y1.1, (6, .c (.app 3 (List.map oI ([] : List Int)))), A6 7 y2.1, L7 8 1 v16, I5 10]) (G2 := [A5 v17 v18, C4 1 21 1 v16, (3, .tok 21 1 (List.length ([] : List Int)))]) (lim2 := 4) 6 21 1 (by kernel_rfl) (by kernel_rfl) (by kernel_rfl) (by kernel_rfl)) (zv [(0, 0), (3, 1), (1, 2)] [0, 5, 6, 7, 8, 10] 3)) ⟨_, _, _, _, h, rfl⟩ (fun s ⟨v29, v30, v31, v32, h, _⟩ => nomatch h) ?_
 rintro n s ⟨v29, v30, v31, v32, h, rfl⟩
 rw [lL] at h
 refine aI ?_
 refine za [0, 5, 6, 7, 8, 10, 28] ?_
 refine zi h (fun h => ?_) fun h => ?_
 refine aB ?_
 refine aQ h (fun A j => ∀ v39 v40 v41, j v39 v40 v41 = some r → A (mk [I3, A6 5 y1.1, L7 6 1 v39, A6 7 y2.1, L7 8 2 v16, A6 10 v30] [A5 v40 v41, C4 1 21 1 v39, C4 2 21 1 v16] 3)) (fun v39 v40 v41 h => ?_) (fun j33 Aj33 hj33 h => ?_)
 refine aW ?_
 refine zb ?_
 exact dF (zv [(0, 0), (1, 1), (2, 2)] [0, 5, 6, 7, 8, 10] 3) (⟨_, _, _, _, h, rfl⟩)
 refine aG ?_
 refine za [0, 5, 6, 7, 8, 10, 32] ?_
 refine zi h (fun h => ?_) fun h => ?_
 refine aW ?_
 refine zy fun _ => ?_
 refine zk 3 ?_
 obtain ⟨y34, he, h⟩ := aC h
 refine zo [(0, 0)] cP (bJ n _ _ y34 he) ?_
 clear he
 obtain ⟨e35, he, h⟩ := aC h
 refine zd oI he ?_
 clear he
 refine zk 2 ?_
 obtain ⟨l36, he, h⟩ := aC h
 refine cH (enc := oI) (l := v29) (els := [e35]) (r := l36) (old := some 1) (e := 21) (sz := 1) (bytes := 4) (k := (H1 v29)) (nm := 15) he (by kernel_rfl) (by kernel_rfl) (fun x => by kernel_rfl) (by kernel_rfl) (by kernel_rfl) rfl rfl rfl ?_
 clear he
 refine zk 1 ?_
 refine bV ?_
 exact dF (zv [(0, 0), (15, 1), (2, 2)] [0, 5, 6, 7, 8, 10] 3) (hj33 _ _ _ h)
 refine aW ?_
 refine zy fun _ => ?_
 refine zk 2 ?_
 obtain ⟨y37, he, h⟩ := aC h
 refine zo [(0, 0)] Xc (Cp n _ y37 he) ?_
 clear he
 refine zk 1 ?_
 obtain ⟨l38, he, h⟩ := aC h
 refine cH (enc := oI) (l := v29) (els := [y37.1]) (r := l38) (old := some 1) (e := 21) (sz := 1) (bytes := 4) (k := (H1 v29)) (nm := 12) he (by kernel_rfl) (by kernel_rfl) (fun x => by kernel_rfl) (by kernel_rfl) (by kernel_rfl) rfl rfl rfl ?_
 clear he
 refine zk 1 ?_
 refine bV ?_
 exact dF (zv [(0, 0), (12, 1), (2, 2)] [0, 5, 6, 7, 8, 10] 3) (hj33 _ _ _ h)
 exact aH (zv [(0, 0), (1, 1)] [6] 2) (bG (hj19 _ _ _ h))
 refine za [0, 5, 6, 7, 8, 9] ?_
 refine aG ?_
 refine bA (fun n s => ∃ v6 v7 v8 v9, lT j3 y1 y2 n v6 v7 v8 v9 = some r ∧ s = mk [I3, A6 5 y1.1, (6, .c (cE)), A6 7 y2.1, L7 8 1 v6, A6 9 v7] [A5 v8 v9, C4 1 21 1 v6] 2) n _ (dT.trans (mO (L2 := [I3, A6 5 y1.1, (6, .c (cE)), A6 7 y2.1, (8, .c (.app 13 (List.map oI ([] : List Int)))), I5 9]) (G2 := [E4 y2.2, (13, .tok 21 1 (List.length ([] : List Int)))]) (lim2 := 14) 8 21 1 (by kernel_rfl) (by kernel_rfl) (by kernel_rfl) (by kernel_rfl)) (zv [(0, 0), (13, 1)] [0, 5, 6, 7, 8, 9] 2)) ⟨_, _, _, _, h, rfl⟩ (fun s ⟨v6, v7, v8, v9, h, _⟩ => nomatch h) ?_
 rintro n s ⟨v6, v7, v8, v9, h, rfl⟩
 rw [lT] at h
 refine aI ?_
 refine za [0, 5, 6, 7, 8, 9, 18] ?_
 refine zi h (fun h => ?_) fun h => ?_
 refine aB ?_
 refine aI ?_
 refine aG ?_
 refine zy fun _ => ?_
 refine zk 2 ?_
 obtain ⟨y10, he, h⟩ := aC h
 refine zo [(0, 0)] Xc (Cp n _ y10 he) ?_
 clear he
 refine zk 1 ?_
 obtain ⟨l11, he, h⟩ := aC h
 refine cH (enc := oI) (l := v6) (els := [y10.1]) (r := l11) (old := some 1) (e := 21) (sz := 1) (bytes := 4) (k := (H1 v6)) (nm := 8) he (by kernel_rfl) (by kernel_rfl) (fun x => by kernel_rfl) (by kernel_rfl) (by kernel_rfl) rfl rfl rfl ?_
 clear he
 refine zk 1 ?_
 refine bV ?_
 refine aW ?_
 refine zb ?_
 exact dF (zv [(0, 0), (8, 1)] [0, 5, 6, 7, 8, 9] 2) (⟨_, _, _, _, h, rfl⟩)
 exact aH (zv [(0, 0), (1, 1)] [0, 5, 6, 7, 8] 2) (bG (hj3 _ _ _ h))
def sZ  (n : Nat) (p0 : aO) (p1 : (List Int)) : Option ((List Int) × aO) := (Al (runesBytes p1)).bind fun (l1 : List Int) => some (l1, p0)
theorem Kw  (n : Nat) (p0 : aO) (p1 : (K3)) (r : ((K3) × aO)) (h : sZ n p0 p1 = some r) : cW E 119 1 [B9 0 0, .c (.lit (List.map oI p1))] [E4 p0] (.c (.lit (List.map oI r.1))) [E4 r.2] := by
 refine eV Tryz.func119 rfl ?_
 unfold sZ at h
 refine za [1] ?_
 refine zx fun _ => ?_
 refine zk 1 ?_
 refine zw (v := .c (Sx (runesBytes p1))) [] (rX (ns := p1) (by kernel_rfl)) ?_
 obtain ⟨l1, he, h⟩ := aC h
 refine rx_O (v := .c (.lit (List.map oI l1))) (foot := []) (Jn (s := (runesBytes p1)) he (by kernel_rfl)) (by kernel_rfl) rfl rfl ?_
 clear he
 refine zk 1 ?_
 refine ze [4] ?_
 cases h
 exact aD zr
def kL (j37 : List Int → Int → List aJ → Option ((List bF) × aO)) (p1 : Int) (v32 : List bF) : Nat → Int → List Int → Int → List aJ → Option ((List bF) × aO)
 | 0, _, _, _, _ => none
 | n + 1, v46, v47, v48, v49 => (if (decide (v46 > 0)) = true then (cK n (aO.mk v47 v48) 6).bind fun (y50 : (Int × aO)) => (idx [0, 0, 30, 50, (-1 : Int), (-2 : Int)] y50.1).bind fun (e51 : Int) => (kE n e51).bind fun (y52 : aJ) => (pV 56 v49 [y52]).bind fun (l53 : List aJ) => kL j37 p1 v32 n (IntKind.wrap .i64 (v46 - 1)) y50.2.L y50.2.At l53 else j37 v47 v48 v49)
def sA  (n : Nat) (p0 : aO) (p1 : Int) : Option ((List bF) × aO) := (aS (fun (v7 : List bF) (v8 : List Int) (v9 : Int) => (aS (fun (v16 : List bF) (v17 : List Int) (v18 : Int) => (aS (fun (v24 : List bF) (v25 : List Int) (v26 : Int) => (aS (fun (v32 : List bF) (v33 : List Int) (v34 : Int) => (aS (fun (v65 : List bF) (v66 : List Int) (v67 : Int) => (aS (fun (v73 : List bF) (v74 : List Int) (v75 : Int) => (aS (fun (v81 : List bF) (v82 : List Int) (v83 : Int) => (aS (fun (v89 : List bF) (v90 : List Int) (v91 : Int) => (aS (fun (v98 : List bF) (v99 : List Int) (v100 : Int) => (aS (fun (v105 : List bF) (v106 : List Int) (v107 : Int) => (aS (fun (v113 : List bF) (v114 : List Int) (v115 : Int) => (aS (fun (v121 : List bF) (v122 : List Int) (v123 : Int) => (aS (fun (v130 : List bF) (v131 : List Int) (v132 : Int) => (aS (fun (v138 : List bF) (v139 : List Int) (v140 : Int) => (aS (fun (v146 : List bF) (v147 : List Int) (v148 : Int) => some (v146, (aO.mk v147 v148))) (fun (j141 : List bF → List Int → Int → Option ((List bF) × aO)) => (Zw [(!((p1 == 5) || (p1 == 13)))] (cK n (aO.mk v139 v140) 9) ((default : Int), (aO.mk v139 v140))).bind fun (y142 : (Int × aO)) => (if (((p1 == 5) || (p1 == 13)) || (y142.1 == 0)) = true then (cK n y142.2 90).bind fun (y143 : (Int × aO)) => (kE n y143.1).bind fun (y144 : aJ) => (pV 72 v138 [(bF.mk (⟨#[119, 105, 100, 116, 104]⟩ : ByteArray) y144)]).bind fun (l145 : List bF) => j141 l145 y143.2.L y143.2.At else j141 v138 y142.2.L y142.2.At)))) (fun (j133 : List bF → List Int → Int → Option ((List bF) × aO)) => (cK n (aO.mk v131 v132) 8).bind fun (y134 : (Int × aO)) => (if (y134.1 == 0) = true then (cK n y134.2 5).bind fun (y135 : (Int × aO)) => (kE n y135.1).bind fun (y136 : aJ) => (pV 72 v130 [(bF.mk (⟨#[116, 117, 114, 110]⟩ : ByteArray) y136)]).bind fun (l137 : List bF) => j133 l137 y135.2.L y135.2.At else j133 v130 y134.2.L y134.2.At)))) (fun (j124 : List bF → List Int → Int → Option ((List bF) × aO)) => (cK n (aO.mk v122 v123) 2).bind fun (y125 : (Int × aO)) => (if (y125.1 == 0) = true then (vA n y125.2 8).bind fun (y126 : ((List Int) × aO)) => (sZ n y126.2 y126.1).bind fun (y127 : ((List Int) × aO)) => (oO n (runesBytes y127.1)).bind fun (y128 : aJ) => (pV 72 v121 [(bF.mk (⟨#[116, 101, 120, 116]⟩ : ByteArray) y128)]).bind fun (l129 : List bF) => j124 l129 y127.2.L y127.2.At else j124 v121 y125.2.L y125.2.At)))) (fun (j116 : List bF → List Int → Int → Option ((List bF) × aO)) => (cK n (aO.mk v114 v115) 6).bind fun (y117 : (Int × aO)) => (if (y117.1 == 0) = true then (cK n y117.2 4).bind fun (y118 : (Int × aO)) => (kE n y118.1).bind fun (y119 : aJ) => (pV 72 v113 [(bF.mk (⟨#[115, 112, 97, 110]⟩ : ByteArray) y119)]).bind fun (l120 : List bF) => j116 l120 y118.2.L y118.2.At else j116 v113 y117.2.L y117.2.At)))) (fun (j108 : List bF → List Int → Int → Option ((List bF) × aO)) => (cK n (aO.mk v106 v107) 8).bind fun (y109 : (Int × aO)) => (if (y109.1 == 0) = true then (cK n y109.2 4).bind fun (y110 : (Int × aO)) => (kE n y110.1).bind fun (y111 : aJ) => (pV 72 v105 [(bF.mk (⟨#[115, 99, 97, 108, 101]⟩ : ByteArray) y111)]).bind fun (l112 : List bF) => j108 l112 y110.2.L y110.2.At else j108 v105 y109.2.L y109.2.At)))) (fun (j101 : List bF → List Int → Int → Option ((List bF) × aO)) => (cK n (aO.mk v99 v100) 6).bind fun (y102 : (Int × aO)) => (if (y102.1 == 0) = true then (qL n 1).bind fun (y103 : aJ) => (pV 72 v98 [(bF.mk (⟨#[112, 105, 110, 110, 101, 100]⟩ : ByteArray) y103)]).bind fun (l104 : List bF) => j101 l104 y102.2.L y102.2.At else j101 v98 y102.2.L y102.2.At)))) (fun (j92 : List bF → List Int → Int → Option ((List bF) × aO)) => (cK n (aO.mk v90 v91) 6).bind fun (y93 : (Int × aO)) => (if (y93.1 == 0) = true then (cK n y93.2 6).bind fun (y94 : (Int × aO)) => (Tv (⟨#[107]⟩ : ByteArray) (dG [(IntKind.wrap .u8 (IntKind.wrap .i64 (97 + y94.1)))])).bind fun (s95 : ByteArray) => (oO n s95).bind fun (y96 : aJ) => (pV 72 v89 [(bF.mk (⟨#[108, 101, 102, 116]⟩ : ByteArray) y96)]).bind fun (l97 : List bF) => j92 l97 y94.2.L y94.2.At else j92 v89 y93.2.L y93.2.At)))) (fun (j84 : List bF → List Int → Int → Option ((List bF) × aO)) => (cK n (aO.mk v82 v83) 12).bind fun (y85 : (Int × aO)) => (if (y85.1 == 0) = true then (cK n y85.2 2).bind fun (y86 : (Int × aO)) => (qL n y86.1).bind fun (y87 : aJ) => (pV 72 v81 [(bF.mk (⟨#[104, 105, 100, 100, 101, 110]⟩ : ByteArray) y87)]).bind fun (l88 : List bF) => j84 l88 y86.2.L y86.2.At else j84 v81 y85.2.L y85.2.At)))) (fun (j76 : List bF → List Int → Int → Option ((List bF) × aO)) => (Zw [(!((p1 == 5) || (p1 == 13)))] (cK n (aO.mk v74 v75) 9) ((default : Int), (aO.mk v74 v75))).bind fun (y77 : (Int × aO)) => (if (((p1 == 5) || (p1 == 13)) || (y77.1 == 0)) = true then (cK n y77.2 60).bind fun (y78 : (Int × aO)) => (kE n y78.1).bind fun (y79 : aJ) => (pV 72 v73 [(bF.mk (⟨#[104, 101, 105, 103, 104, 116]⟩ : ByteArray) y79)]).bind fun (l80 : List bF) => j76 l80 y78.2.L y78.2.At else j76 v73 y77.2.L y77.2.At)))) (fun (j68 : List bF → List Int → Int → Option ((List bF) × aO)) => (cK n (aO.mk v66 v67) 9).bind fun (y69 : (Int × aO)) => (if (y69.1 == 0) = true then (cK n y69.2 2).bind fun (y70 : (Int × aO)) => (qL n y70.1).bind fun (y71 : aJ) => (pV 72 v65 [(bF.mk (⟨#[100, 105, 115, 97, 98, 108, 101, 100]⟩ : ByteArray) y71)]).bind fun (l72 : List bF) => j68 l72 y70.2.L y70.2.At else j68 v65 y69.2.L y69.2.At)))) (fun (j35 : List bF → List Int → Int → Option ((List bF) × aO)) => (cK n (aO.mk v33 v34) 4).bind fun (y36 : (Int × aO)) => (if (y36.1 == 0) = true then (aS (fun (v61 : List Int) (v62 : Int) (v63 : List aJ) => (pV 72 v32 [(bF.mk (⟨#[99, 111, 108, 117, 109, 110, 115]⟩ : ByteArray) (aJ.mk 4 0 (⟨#[]⟩ : ByteArray) v63))]).bind fun (l64 : List bF) => j35 l64 v61 v62) (fun (j37 : List Int → Int → List aJ → Option ((List bF) × aO)) => (mM n y36.2 1 3).bind fun (y38 : (Int × aO)) => kL j37 p1 v32 n y38.1 y38.2.L y38.2.At ([] : List aJ))) else j35 v32 y36.2.L y36.2.At)))) (fun (j27 : List bF → List Int → Int → Option ((List bF) × aO)) => (cK n (aO.mk v25 v26) 3).bind fun (y28 : (Int × aO)) => (if (y28.1 == 0) = true then (nV n y28.2).bind fun (y29 : (ByteArray × aO)) => (oO n y29.1).bind fun (y30 : aJ) => (pV 72 v24 [(bF.mk (⟨#[99, 108, 97, 115, 115]⟩ : ByteArray) y30)]).bind fun (l31 : List bF) => j27 l31 y29.2.L y29.2.At else j27 v24 y28.2.L y28.2.At)))) (fun (j19 : List bF → List Int → Int → Option ((List bF) × aO)) => (cK n (aO.mk v17 v18) 9).bind fun (y20 : (Int × aO)) => (if (y20.1 == 0) = true then (cK n y20.2 2).bind fun (y21 : (Int × aO)) => (qL n y21.1).bind fun (y22 : aJ) => (pV 72 v16 [(bF.mk (⟨#[99, 104, 101, 99, 107, 101, 100]⟩ : ByteArray) y22)]).bind fun (l23 : List bF) => j19 l23 y21.2.L y21.2.At else j19 v16 y20.2.L y20.2.At)))) (fun (j10 : List bF → List Int → Int → Option ((List bF) × aO)) => (cK n (aO.mk v8 v9) 9).bind fun (y11 : (Int × aO)) => (if (y11.1 == 0) = true then (cK n y11.2 6).bind fun (y12 : (Int × aO)) => (Tv (⟨#[107]⟩ : ByteArray) (dG [(IntKind.wrap .u8 (IntKind.wrap .i64 (97 + y12.1)))])).bind fun (s13 : ByteArray) => (oO n s13).bind fun (y14 : aJ) => (pV 72 v7 [(bF.mk (⟨#[97, 108, 105, 103, 110, 108, 101, 102, 116]⟩ : ByteArray) y14)]).bind fun (l15 : List bF) => j10 l15 y12.2.L y12.2.At else j10 v7 y11.2.L y11.2.At)))) (fun (j1 : List bF → List Int → Int → Option ((List bF) × aO)) => (cK n p0 6).bind fun (y2 : (Int × aO)) => (if (y2.1 == 0) = true then (cK n y2.2 6).bind fun (y3 : (Int × aO)) => (Tv (⟨#[107]⟩ : ByteArray) (dG [(IntKind.wrap .u8 (IntKind.wrap .i64 (97 + y3.1)))])).bind fun (s4 : ByteArray) => (oO n s4).bind fun (y5 : aJ) => (pV 72 ([] : List bF) [(bF.mk (⟨#[97, 98, 111, 118, 101]⟩ : ByteArray) y5)]).bind fun (l6 : List bF) => j1 l6 y3.2.L y3.2.At else j1 ([] : List bF) y2.2.L y2.2.At)))
theorem Kj  (n : Nat) (p0 : aO) (p1 : Int) (r : ((List bF) × aO)) (h : sA n p0 p1 = some r) : cW E 96 1 [B9 0 0, B7 p1] [E4 p0] (.c (C7 r.1)) [E4 r.2] := by
 refine eV Tryz.func96 rfl ?_
 unfold sA at h
 refine za [0, 1] ?_
 refine za [0, 1, 5] ?_
 refine aQ h (fun A j => ∀ v7 v8 v9, j v7 v8 v9 = some r → A (E0 p1 v7 v8 v9)) (fun v7 v8 v9 h => ?_) (fun j1 Aj1 hj1 h => ?_)
 refine aQ h (fun A j => ∀ v16 v17 v18, j v16 v17 v18 = some r → A (E0 p1 v16 v17 v18)) (fun v16 v17 v18 h => ?_) (fun j10 Aj10 hj10 h => ?_)
 refine aQ h (fun A j => ∀ v24 v25 v26, j v24 v25 v26 = some r → A (E0 p1 v24 v25 v26)) (fun v24 v25 v26 h => ?_) (fun j19 Aj19 hj19 h => ?_)
 refine aQ h (fun A j => ∀ v32 v33 v34, j v32 v33 v34 = some r → A (E0 p1 v32 v33 v34)) (fun v32 v33 v34 h => ?_) (fun j27 Aj27 hj27 h => ?_)
 refine aQ h (fun A j => ∀ v65 v66 v67, j v65 v66 v67 = some r → A (E0 p1 v65 v66 v67)) (fun v65 v66 v67 h => ?_) (fun j35 Aj35 hj35 h => ?_)
 refine aQ h (fun A j => ∀ v73 v74 v75, j v73 v74 v75 = some r → A (E0 p1 v73 v74 v75)) (fun v73 v74 v75 h => ?_) (fun j68 Aj68 hj68 h => ?_)
 refine aQ h (fun A j => ∀ v81 v82 v83, j v81 v82 v83 = some r → A (E0 p1 v81 v82 v83)) (fun v81 v82 v83 h => ?_) (fun j76 Aj76 hj76 h => ?_)
 refine aQ h (fun A j => ∀ v89 v90 v91, j v89 v90 v91 = some r → A (E0 p1 v89 v90 v91)) (fun v89 v90 v91 h => ?_) (fun j84 Aj84 hj84 h => ?_)
 refine aQ h (fun A j => ∀ v98 v99 v100, j v98 v99 v100 = some r → A (E0 p1 v98 v99 v100)) (fun v98 v99 v100 h => ?_) (fun j92 Aj92 hj92 h => ?_)
 refine aQ h (fun A j => ∀ v105 v106 v107, j v105 v106 v107 = some r → A (E0 p1 v105 v106 v107)) (fun v105 v106 v107 h => ?_) (fun j101 Aj101 hj101 h => ?_)
 refine aQ h (fun A j => ∀ v113 v114 v115, j v113 v114 v115 = some r → A (E0 p1 v113 v114 v115)) (fun v113 v114 v115 h => ?_) (fun j108 Aj108 hj108 h => ?_)
 refine aQ h (fun A j => ∀ v121 v122 v123, j v121 v122 v123 = some r → A (E0 p1 v121 v122 v123)) (fun v121 v122 v123 h => ?_) (fun j116 Aj116 hj116 h => ?_)
 refine aQ h (fun A j => ∀ v130 v131 v132, j v130 v131 v132 = some r → A (E0 p1 v130 v131 v132)) (fun v130 v131 v132 h => ?_) (fun j124 Aj124 hj124 h => ?_)
 refine aQ h (fun A j => ∀ v138 v139 v140, j v138 v139 v140 = some r → A (E0 p1 v138 v139 v140)) (fun v138 v139 v140 h => ?_) (fun j133 Aj133 hj133 h => ?_)
 refine aQ h (fun A j => ∀ v146 v147 v148, j v146 v147 v148 = some r → A (mk [(5, .c (.app 1 (List.map aM v146)))] [A5 v147 v148, C4 1 172 5 v146] 2)) (fun v146 v147 v148 h => ?_) (fun j141 Aj141 hj141 h => ?_)
 refine za [4] ?_
 cases h
 exact aD zr
 refine zx fun _ => ?_
 refine zk 3 ?_
 refine zE (B7 p1) ?_
 refine zE (B3 (p1 == 13)) ?_
 refine zP (.bool ((p1 == 5) || (p1 == 13))) ?_
 refine zk 1 ?_
 refine zE (B9 0 0) ?_
 obtain ⟨y142, he, h⟩ := aC h
 refine Bw (e := [!((p1 == 5) || (p1 == 13))]) [(195, B9 0 0, some 1)] (F := 15) (As := [B9 0 0, .c (I 9)]) (Bs := [B9 0 0, .c (I 9)]) (σ := [(0, 0)]) (k := 1) (Gc := [A5 v139 v140]) (Gf := [E4 y142.2]) (r := .c (I y142.1)) (v := .c (I y142.1)) (by kernel_rfl) (by kernel_rfl) (by kernel_rfl) (by kernel_rfl) (by kernel_rfl) (by kernel_rfl) cP ⟨.inr ⟨(by kernel_rfl), (by kernel_rfl)⟩, ⟨.inl (by kernel_rfl), trivial⟩⟩ (fun hg => bJ n _ _ y142 (Xv he hg)) (by kernel_rfl) (by kernel_rfl) (by kernel_rfl) (fun hg => by rw [Wk he hg]; kernel_rfl) (by kernel_rfl) rfl rfl rfl ?_
 clear he
 refine zE (B3 (y142.1 == 0)) ?_
 refine zP (.bool (((p1 == 5) || (p1 == 13)) || (y142.1 == 0))) ?_
 refine ze [0, 5, 198] ?_
 refine zi h (fun h => ?_) fun h => ?_
 refine aW ?_
 refine zy fun _ => ?_
 refine zk 2 ?_
 obtain ⟨y143, he, h⟩ := aC h
 refine zo [(0, 0)] cP (bJ n _ _ y143 he) ?_
 clear he
 obtain ⟨y144, he, h⟩ := aC h
 refine zc Ay (jX n _ y144 he) ?_
 clear he
 refine zk 2 ?_
 obtain ⟨l145, he, h⟩ := aC h
 refine cH (enc := aM) (l := v138) (els := [(bF.mk (⟨#[119, 105, 100, 116, 104]⟩ : ByteArray) y144)]) (r := l145) (old := some 1) (e := 172) (sz := 5) (bytes := 72) (k := (H1 v138)) (nm := 19) he (by kernel_rfl) (by kernel_rfl) (fun x => by kernel_rfl) (by kernel_rfl) (by kernel_rfl) rfl rfl rfl ?_
 clear he
 refine zk 1 ?_
 refine bV ?_
 exact dF (zv [(0, 0), (19, 1)] [5] 2) (hj141 _ _ _ h)
 exact aH (zv [(0, 0), (1, 1)] [5] 2) (aB (hj141 _ _ _ h))
 refine zx fun _ => ?_
 refine zk 1 ?_
 obtain ⟨y134, he, h⟩ := aC h
 refine zo [(0, 0)] cP (bJ n _ _ y134 he) ?_
 clear he
 refine zk 1 ?_
 refine ze [0, 1, 5, 180] ?_
 refine zi h (fun h => ?_) fun h => ?_
 refine aW ?_
 refine zy fun _ => ?_
 refine zk 2 ?_
 obtain ⟨y135, he, h⟩ := aC h
 refine zo [(0, 0)] cP (bJ n _ _ y135 he) ?_
 clear he
 obtain ⟨y136, he, h⟩ := aC h
 refine zc Ay (jX n _ y136 he) ?_
 clear he
 refine zk 2 ?_
 obtain ⟨l137, he, h⟩ := aC h
 refine cH (enc := aM) (l := v130) (els := [(bF.mk (⟨#[116, 117, 114, 110]⟩ : ByteArray) y136)]) (r := l137) (old := some 1) (e := 172) (sz := 5) (bytes := 72) (k := (H1 v130)) (nm := 11) he (by kernel_rfl) (by kernel_rfl) (fun x => by kernel_rfl) (by kernel_rfl) (by kernel_rfl) rfl rfl rfl ?_
 clear he
 refine zk 1 ?_
 refine bV ?_
 exact dF (zv [(0, 0), (11, 1)] [0, 1, 5] 2) (hj133 _ _ _ h)
 exact aH (zv [(0, 0), (1, 1)] [0, 1, 5] 2) (aB (hj133 _ _ _ h))
 refine zx fun _ => ?_
 refine zk 1 ?_
 obtain ⟨y125, he, h⟩ := aC h
 refine zo [(0, 0)] cP (bJ n _ _ y125 he) ?_
 clear he
 refine zk 1 ?_
 refine ze [0, 1, 5, 167] ?_
 refine zi h (fun h => ?_) fun h => ?_
 refine aW ?_
 refine zy fun _ => ?_
 refine zk 3 ?_
 obtain ⟨y126, he, h⟩ := aC h
 refine zo [(0, 0)] fok120 (Om n _ _ y126 he) ?_
 clear he
 obtain ⟨y127, he, h⟩ := aC h
 refine zo [(0, 0)] fok119 (Kw n _ _ y127 he) ?_
 clear he
 refine zw (v := .c (Sx (runesBytes y127.1))) [] (rX (ns := y127.1) (by kernel_rfl)) ?_
 obtain ⟨y128, he, h⟩ := aC h
 refine zc Fb (nP n _ y128 he) ?_
 clear he
 refine zk 2 ?_
 obtain ⟨l129, he, h⟩ := aC h
 refine cH (enc := aM) (l := v121) (els := [(bF.mk (⟨#[116, 101, 120, 116]⟩ : ByteArray) y128)]) (r := l129) (old := some 1) (e := 172) (sz := 5) (bytes := 72) (k := (H1 v121)) (nm := 14) he (by kernel_rfl) (by kernel_rfl) (fun x => by kernel_rfl) (by kernel_rfl) (by kernel_rfl) rfl rfl rfl ?_
 clear he
 refine zk 1 ?_
 refine bV ?_
 exact dF (zv [(0, 0), (14, 1)] [0, 1, 5] 2) (hj124 _ _ _ h)
 exact aH (zv [(0, 0), (1, 1)] [0, 1, 5] 2) (aB (hj124 _ _ _ h))
 refine zx fun _ => ?_
 refine zk 1 ?_
 obtain ⟨y117, he, h⟩ := aC h
 refine zo [(0, 0)] cP (bJ n _ _ y117 he) ?_
 clear he
 refine zk 1 ?_
 refine ze [0, 1, 5, 157] ?_
 refine zi h (fun h => ?_) fun h => ?_
 refine aW ?_
 refine zy fun _ => ?_
 refine zk 2 ?_
 obtain ⟨y118, he, h⟩ := aC h
 refine zo [(0, 0)] cP (bJ n _ _ y118 he) ?_
 clear he
 obtain ⟨y119, he, h⟩ := aC h
 refine zc Ay (jX n _ y119 he) ?_
 clear he
 refine zk 2 ?_
 obtain ⟨l120, he, h⟩ := aC h
 refine cH (enc := aM) (l := v113) (els := [(bF.mk (⟨#[115, 112, 97, 110]⟩ : ByteArray) y119)]) (r := l120) (old := some 1) (e := 172) (sz := 5) (bytes := 72) (k := (H1 v113)) (nm := 11) he (by kernel_rfl) (by kernel_rfl) (fun x => by kernel_rfl) (by kernel_rfl) (by kernel_rfl) rfl rfl rfl ?_
 clear he
 refine zk 1 ?_
 refine bV ?_
 exact dF (zv [(0, 0), (11, 1)] [0, 1, 5] 2) (hj116 _ _ _ h)
 exact aH (zv [(0, 0), (1, 1)] [0, 1, 5] 2) (aB (hj116 _ _ _ h))
 refine zx fun _ => ?_
 refine zk 1 ?_
 obtain ⟨y109, he, h⟩ := aC h
 refine zo [(0, 0)] cP (bJ n _ _ y109 he) ?_
 clear he
 refine zk 1 ?_
 refine ze [0, 1, 5, 147] ?_
 refine zi h (fun h => ?_) fun h => ?_
 refine aW ?_
 refine zy fun _ => ?_
 refine zk 2 ?_
 obtain ⟨y110, he, h⟩ := aC h
 refine zo [(0, 0)] cP (bJ n _ _ y110 he) ?_
 clear he
 obtain ⟨y111, he, h⟩ := aC h
 refine zc Ay (jX n _ y111 he) ?_
 clear he
 refine zk 2 ?_
 obtain ⟨l112, he, h⟩ := aC h
 refine cH (enc := aM) (l := v105) (els := [(bF.mk (⟨#[115, 99, 97, 108, 101]⟩ : ByteArray) y111)]) (r := l112) (old := some 1) (e := 172) (sz := 5) (bytes := 72) (k := (H1 v105)) (nm := 11) he (by kernel_rfl) (by kernel_rfl) (fun x => by kernel_rfl) (by kernel_rfl) (by kernel_rfl) rfl rfl rfl ?_
 clear he
 refine zk 1 ?_
 refine bV ?_
 exact dF (zv [(0, 0), (11, 1)] [0, 1, 5] 2) (hj108 _ _ _ h)
 exact aH (zv [(0, 0), (1, 1)] [0, 1, 5] 2) (aB (hj108 _ _ _ h))
 refine zx fun _ => ?_
 refine zk 1 ?_
 obtain ⟨y102, he, h⟩ := aC h
 refine zo [(0, 0)] cP (bJ n _ _ y102 he) ?_
 clear he
 refine zk 1 ?_
 refine ze [0, 1, 5, 139] ?_
 refine zi h (fun h => ?_) fun h => ?_
 refine aW ?_
 refine zy fun _ => ?_
 refine zk 1 ?_
 obtain ⟨y103, he, h⟩ := aC h
 refine zc La (qF n _ y103 he) ?_
 clear he
 refine zk 2 ?_
 obtain ⟨l104, he, h⟩ := aC h
 refine cH (enc := aM) (l := v98) (els := [(bF.mk (⟨#[112, 105, 110, 110, 101, 100]⟩ : ByteArray) y103)]) (r := l104) (old := some 1) (e := 172) (sz := 5) (bytes := 72) (k := (H1 v98)) (nm := 9) he (by kernel_rfl) (by kernel_rfl) (fun x => by kernel_rfl) (by kernel_rfl) (by kernel_rfl) rfl rfl rfl ?_
 clear he
 refine zk 1 ?_
 refine bV ?_
 exact dF (zv [(0, 0), (9, 1)] [0, 1, 5] 2) (hj101 _ _ _ h)
 exact aH (zv [(0, 0), (1, 1)] [0, 1, 5] 2) (aB (hj101 _ _ _ h))
 refine zx fun _ => ?_
 refine zk 1 ?_
 obtain ⟨y93, he, h⟩ := aC h
 refine zo [(0, 0)] cP (bJ n _ _ y93 he) ?_
 clear he
 refine zk 1 ?_
 refine ze [0, 1, 5, 124] ?_
 refine zi h (fun h => ?_) fun h => ?_
 refine aW ?_
 refine zy fun _ => ?_
 refine zk 2 ?_
 obtain ⟨y94, he, h⟩ := aC h
 refine zo [(0, 0)] cP (bJ n _ _ y94 he) ?_
 clear he
 refine zk 3 ?_
 refine zw (v := .c (Sx (dG [H7 y94.1]))) [] (mW (ns := [H7 y94.1]) (by kernel_rfl)) ?_
 obtain ⟨s95, he, h⟩ := aC h
 refine zw (v := .c (Sx s95)) [] (Km (p := (⟨#[107]⟩ : ByteArray)) (q := (dG [H7 y94.1])) he (by kernel_rfl)) ?_
 clear he
 obtain ⟨y96, he, h⟩ := aC h
 refine zc Fb (nP n _ y96 he) ?_
 clear he
 refine zk 2 ?_
 obtain ⟨l97, he, h⟩ := aC h
 refine cH (enc := aM) (l := v89) (els := [(bF.mk (⟨#[108, 101, 102, 116]⟩ : ByteArray) y96)]) (r := l97) (old := some 1) (e := 172) (sz := 5) (bytes := 72) (k := (H1 v89)) (nm := 16) he (by kernel_rfl) (by kernel_rfl) (fun x => by kernel_rfl) (by kernel_rfl) (by kernel_rfl) rfl rfl rfl ?_
 clear he
 refine zk 1 ?_
 refine bV ?_
 exact dF (zv [(0, 0), (16, 1)] [0, 1, 5] 2) (hj92 _ _ _ h)
 exact aH (zv [(0, 0), (1, 1)] [0, 1, 5] 2) (aB (hj92 _ _ _ h))
 refine zx fun _ => ?_
 refine zk 1 ?_
 obtain ⟨y85, he, h⟩ := aC h
 refine zo [(0, 0)] cP (bJ n _ _ y85 he) ?_
 clear he
 refine zk 1 ?_
 refine ze [0, 1, 5, 114] ?_
 refine zi h (fun h => ?_) fun h => ?_
 refine aW ?_
 refine zy fun _ => ?_
 refine zk 2 ?_
 obtain ⟨y86, he, h⟩ := aC h
 refine zo [(0, 0)] cP (bJ n _ _ y86 he) ?_
 clear he
 obtain ⟨y87, he, h⟩ := aC h
 refine zc La (qF n _ y87 he) ?_
 clear he
 refine zk 2 ?_
 obtain ⟨l88, he, h⟩ := aC h
 refine cH (enc := aM) (l := v81) (els := [(bF.mk (⟨#[104, 105, 100, 100, 101, 110]⟩ : ByteArray) y87)]) (r := l88) (old := some 1) (e := 172) (sz := 5) (bytes := 72) (k := (H1 v81)) (nm := 11) he (by kernel_rfl) (by kernel_rfl) (fun x => by kernel_rfl) (by kernel_rfl) (by kernel_rfl) rfl rfl rfl ?_
 clear he
 refine zk 1 ?_
 refine bV ?_
 exact dF (zv [(0, 0), (11, 1)] [0, 1, 5] 2) (hj84 _ _ _ h)
 exact aH (zv [(0, 0), (1, 1)] [0, 1, 5] 2) (aB (hj84 _ _ _ h))
 refine zx fun _ => ?_
 refine zk 3 ?_
 refine zE (B7 p1) ?_
 refine zE (B3 (p1 == 13)) ?_
 refine zP (.bool ((p1 == 5) || (p1 == 13))) ?_
 refine zk 1 ?_
 refine zE (B9 0 0) ?_
 obtain ⟨y77, he, h⟩ := aC h
 refine Bw (e := [!((p1 == 5) || (p1 == 13))]) [(101, B9 0 0, some 1)] (F := 15) (As := [B9 0 0, .c (I 9)]) (Bs := [B9 0 0, .c (I 9)]) (σ := [(0, 0)]) (k := 1) (Gc := [A5 v74 v75]) (Gf := [E4 y77.2]) (r := .c (I y77.1)) (v := .c (I y77.1)) (by kernel_rfl) (by kernel_rfl) (by kernel_rfl) (by kernel_rfl) (by kernel_rfl) (by kernel_rfl) cP ⟨.inr ⟨(by kernel_rfl), (by kernel_rfl)⟩, ⟨.inl (by kernel_rfl), trivial⟩⟩ (fun hg => bJ n _ _ y77 (Xv he hg)) (by kernel_rfl) (by kernel_rfl) (by kernel_rfl) (fun hg => by rw [Wk he hg]; kernel_rfl) (by kernel_rfl) rfl rfl rfl ?_
 clear he
 refine zE (B3 (y77.1 == 0)) ?_
 refine zP (.bool (((p1 == 5) || (p1 == 13)) || (y77.1 == 0))) ?_
 refine ze [0, 1, 5, 104] ?_
 refine zi h (fun h => ?_) fun h => ?_
 refine aW ?_
 refine zy fun _ => ?_
 refine zk 2 ?_
 obtain ⟨y78, he, h⟩ := aC h
 refine zo [(0, 0)] cP (bJ n _ _ y78 he) ?_
 clear he
 obtain ⟨y79, he, h⟩ := aC h
 refine zc Ay (jX n _ y79 he) ?_
 clear he
 refine zk 2 ?_
 obtain ⟨l80, he, h⟩ := aC h
 refine cH (enc := aM) (l := v73) (els := [(bF.mk (⟨#[104, 101, 105, 103, 104, 116]⟩ : ByteArray) y79)]) (r := l80) (old := some 1) (e := 172) (sz := 5) (bytes := 72) (k := (H1 v73)) (nm := 19) he (by kernel_rfl) (by kernel_rfl) (fun x => by kernel_rfl) (by kernel_rfl) (by kernel_rfl) rfl rfl rfl ?_
 clear he
 refine zk 1 ?_
 refine bV ?_
 exact dF (zv [(0, 0), (19, 1)] [0, 1, 5] 2) (hj76 _ _ _ h)
 exact aH (zv [(0, 0), (1, 1)] [0, 1, 5] 2) (aB (hj76 _ _ _ h))
 refine zx fun _ => ?_
 refine zk 1 ?_
 obtain ⟨y69, he, h⟩ := aC h
 refine zo [(0, 0)] cP (bJ n _ _ y69 he) ?_
 clear he
 refine zk 1 ?_
 refine ze [0, 1, 5, 86] ?_
 refine zi h (fun h => ?_) fun h => ?_
 refine aW ?_
 refine zy fun _ => ?_
 refine zk 2 ?_
 obtain ⟨y70, he, h⟩ := aC h
 refine zo [(0, 0)] cP (bJ n _ _ y70 he) ?_
 clear he
 obtain ⟨y71, he, h⟩ := aC h
 refine zc La (qF n _ y71 he) ?_
 clear he
 refine zk 2 ?_
 obtain ⟨l72, he, h⟩ := aC h
 refine cH (enc := aM) (l := v65) (els := [(bF.mk (⟨#[100, 105, 115, 97, 98, 108, 101, 100]⟩ : ByteArray) y71)]) (r := l72) (old := some 1) (e := 172) (sz := 5) (bytes := 72) (k := (H1 v65)) (nm := 11) he (by kernel_rfl) (by kernel_rfl) (fun x => by kernel_rfl) (by kernel_rfl) (by kernel_rfl) rfl rfl rfl ?_
 clear he
 refine zk 1 ?_
 refine bV ?_
 exact dF (zv [(0, 0), (11, 1)] [0, 1, 5] 2) (hj68 _ _ _ h)
 exact aH (zv [(0, 0), (1, 1)] [0, 1, 5] 2) (aB (hj68 _ _ _ h))
 refine zx fun _ => ?_
 refine zk 1 ?_
 obtain ⟨y36, he, h⟩ := aC h
 refine zo [(0, 0)] cP (bJ n _ _ y36 he) ?_
 clear he
 refine zk 1 ?_
 refine ze [0, 1, 5, 60] ?_
 refine zi h (fun h => ?_) fun h => ?_
 refine za [0, 1, 5, 6] ?_
 refine aQ h (fun A j => ∀ v61 v62 v63, j v61 v62 v63 = some r → A (mk [I3, A6 1 p1, (5, .c (.app 1 (List.map aM v32))), O9] [A5 v61 v62, C4 1 172 5 v32, (2, .blk 152 [I 4, I 0, Sx (⟨#[]⟩ : ByteArray), N4 3 v63]), C4 3 152 4 v63] 4)) (fun v61 v62 v63 h => ?_) (fun j37 Aj37 hj37 h => ?_)
 refine aW ?_
 refine zy fun _ => ?_
 refine zk 4 ?_
 obtain ⟨l64, he, h⟩ := aC h
 refine cH (enc := aM) (l := v32) (els := [(bF.mk (⟨#[99, 111, 108, 117, 109, 110, 115]⟩ : ByteArray) (aJ.mk 4 0 (⟨#[]⟩ : ByteArray) v63))]) (r := l64) (old := some 1) (e := 172) (sz := 5) (bytes := 72) (k := (H1 v32)) (nm := 8) he (by kernel_rfl) (by kernel_rfl) (fun x => by kernel_rfl) (by kernel_rfl) (by kernel_rfl) rfl rfl rfl ?_
 clear he
 refine zk 1 ?_
 refine bV ?_
 exact dF (zv [(0, 0), (8, 1)] [0, 1, 5] 2) (hj35 _ _ _ h)
 refine zx fun _ => ?_
 refine zk 1 ?_
 obtain ⟨y38, he, h⟩ := aC h
 refine zo [(0, 0)] Ol (nU n _ _ _ y38 he) ?_
 clear he
 refine zk 1 ?_
 refine ze [0, 1, 5, 6, 7] ?_
 refine aG ?_
 refine bA (fun n s => ∃ v46 v47 v48 v49, kL j37 p1 v32 n v46 v47 v48 v49 = some r ∧ s = mk [I3, A6 1 p1, (5, .c (.app 1 (List.map aM v32))), O9, A6 7 v46] [A5 v47 v48, C4 1 172 5 v32, (2, .blk 152 [I 4, I 0, Sx (⟨#[]⟩ : ByteArray), N4 3 v49]), C4 3 152 4 v49] 4) n _ (dT.trans (lF (n := 6) (T0 := 152) (l := [I 4, I 0, Sx (⟨#[]⟩ : ByteArray), cE]) (G2 := [E4 y38.2, C4 1 172 5 v32, (6, .blk 152 [I 4, I 0, Sx (⟨#[]⟩ : ByteArray), .app 11 (List.map aP ([] : List aJ))]), (11, .tok 152 4 (List.length ([] : List aJ)))]) (lim2 := 12) 3 152 4 (by kernel_rfl) (by kernel_rfl) (by kernel_rfl) (by kernel_rfl)) (zv [(0, 0), (1, 1), (6, 2), (11, 3)] [0, 1, 5, 6, 7] 4)) ⟨_, _, _, _, h, rfl⟩ (fun s ⟨v46, v47, v48, v49, h, _⟩ => nomatch h) ?_
 rintro n s ⟨v46, v47, v48, v49, h, rfl⟩
 rw [kL] at h
 refine aI ?_
 refine za [0, 1, 5, 6, 7, 65] ?_
 refine zi h (fun h => ?_) fun h => ?_
 refine aB ?_
 refine aI ?_
 refine aG ?_
 refine Rg [[], [0], [], [], [3], [2, 4, 3], [5, 2, 4, 3], [6, 4, 5, 2, 3], [7, 6, 4, 5, 2, 3], [1, 8, 7, 0, 6, 4, 5, 2, 3], [0, 1, 2, 3, 4, 5, 6, 7, 8, 9], [10, 9, 0, 1, 2, 3, 4, 5, 6, 7, 8]] fun _ => ?_
 refine zk 4 ?_
 obtain ⟨y50, he, h⟩ := aC h
 refine zo [(0, 0)] cP (bJ n _ _ y50 he) ?_
 clear he
 obtain ⟨e51, he, h⟩ := aC h
 refine zd aN he ?_
 clear he
 refine zk 1 ?_
 obtain ⟨y52, he, h⟩ := aC h
 refine zc Ay (jX n _ y52 he) ?_
 clear he
 refine qR (e := 152) (sz := 4) (len := 1) (r := [I y52.Kind, I y52.N, Sx y52.S, D2 y52.L]) (l' := List.map aP [y52]) (nm := 14) (by kernel_rfl) (by simp only [List.map_cons, List.map_nil, dR]; kernel_rfl) (by kernel_rfl) (by kernel_rfl) rfl rfl rfl ?_
 obtain ⟨l53, he, h⟩ := aC h
 refine cH (enc := aP) (l := v49) (els := [y52]) (r := l53) (old := some 3) (e := 152) (sz := 4) (bytes := 56) (k := (H1 v49)) (nm := 15) he (by kernel_rfl) (by kernel_rfl) (fun x => by rw [dR]; rfl) (by kernel_rfl) (by kernel_rfl) rfl rfl rfl ?_
 clear he
 refine zk 2 ?_
 refine bV ?_
 refine aW ?_
 refine zb ?_
 exact dF (zv [(0, 0), (1, 1), (2, 2), (15, 3)] [0, 1, 5, 6, 7] 4) (⟨_, _, _, _, h, rfl⟩)
 exact aH (zv [(0, 0), (1, 1), (2, 2), (3, 3)] [0, 1, 5, 6] 4) (bG (hj37 _ _ _ h))
 exact aH (zv [(0, 0), (1, 1)] [0, 1, 5] 2) (aB (hj35 _ _ _ h))
 refine zx fun _ => ?_
 refine zk 1 ?_
 obtain ⟨y28, he, h⟩ := aC h
 refine zo [(0, 0)] cP (bJ n _ _ y28 he) ?_
 clear he
 refine zk 1 ?_
 refine ze [0, 1, 5, 50] ?_
 refine zi h (fun h => ?_) fun h => ?_
 refine aW ?_
 refine zy fun _ => ?_
 refine zk 2 ?_
 obtain ⟨y29, he, h⟩ := aC h
 refine zo [(0, 0)] Yn (vS n _ y29 he) ?_
 clear he
 obtain ⟨y30, he, h⟩ := aC h
 refine zc Fb (nP n _ y30 he) ?_
 clear he
 refine zk 2 ?_
 obtain ⟨l31, he, h⟩ := aC h
 refine cH (enc := aM) (l := v24) (els := [(bF.mk (⟨#[99, 108, 97, 115, 115]⟩ : ByteArray) y30)]) (r := l31) (old := some 1) (e := 172) (sz := 5) (bytes := 72) (k := (H1 v24)) (nm := 11) he (by kernel_rfl) (by kernel_rfl) (fun x => by kernel_rfl) (by kernel_rfl) (by kernel_rfl) rfl rfl rfl ?_
 clear he
 refine zk 1 ?_
 refine bV ?_
 exact dF (zv [(0, 0), (11, 1)] [0, 1, 5] 2) (hj27 _ _ _ h)
 exact aH (zv [(0, 0), (1, 1)] [0, 1, 5] 2) (aB (hj27 _ _ _ h))
 refine zx fun _ => ?_
 refine zk 1 ?_
 obtain ⟨y20, he, h⟩ := aC h
 refine zo [(0, 0)] cP (bJ n _ _ y20 he) ?_
 clear he
 refine zk 1 ?_
 refine ze [0, 1, 5, 40] ?_
 refine zi h (fun h => ?_) fun h => ?_
 refine aW ?_
 refine zy fun _ => ?_
 refine zk 2 ?_
 obtain ⟨y21, he, h⟩ := aC h
 refine zo [(0, 0)] cP (bJ n _ _ y21 he) ?_
 clear he
 obtain ⟨y22, he, h⟩ := aC h
 refine zc La (qF n _ y22 he) ?_
 clear he
 refine zk 2 ?_
 obtain ⟨l23, he, h⟩ := aC h
 refine cH (enc := aM) (l := v16) (els := [(bF.mk (⟨#[99, 104, 101, 99, 107, 101, 100]⟩ : ByteArray) y22)]) (r := l23) (old := some 1) (e := 172) (sz := 5) (bytes := 72) (k := (H1 v16)) (nm := 11) he (by kernel_rfl) (by kernel_rfl) (fun x => by kernel_rfl) (by kernel_rfl) (by kernel_rfl) rfl rfl rfl ?_
 clear he
 refine zk 1 ?_
 refine bV ?_
 exact dF (zv [(0, 0), (11, 1)] [0, 1, 5] 2) (hj19 _ _ _ h)
 exact aH (zv [(0, 0), (1, 1)] [0, 1, 5] 2) (aB (hj19 _ _ _ h))
 refine zx fun _ => ?_
 refine zk 1 ?_
 obtain ⟨y11, he, h⟩ := aC h
 refine zo [(0, 0)] cP (bJ n _ _ y11 he) ?_
 clear he
 refine zk 1 ?_
 refine ze [0, 1, 5, 25] ?_
 refine zi h (fun h => ?_) fun h => ?_
 refine aW ?_
 refine zy fun _ => ?_
 refine zk 2 ?_
 obtain ⟨y12, he, h⟩ := aC h
 refine zo [(0, 0)] cP (bJ n _ _ y12 he) ?_
 clear he
 refine zk 3 ?_
 refine zw (v := .c (Sx (dG [H7 y12.1]))) [] (mW (ns := [H7 y12.1]) (by kernel_rfl)) ?_
 obtain ⟨s13, he, h⟩ := aC h
 refine zw (v := .c (Sx s13)) [] (Km (p := (⟨#[107]⟩ : ByteArray)) (q := (dG [H7 y12.1])) he (by kernel_rfl)) ?_
 clear he
 obtain ⟨y14, he, h⟩ := aC h
 refine zc Fb (nP n _ y14 he) ?_
 clear he
 refine zk 2 ?_
 obtain ⟨l15, he, h⟩ := aC h
 refine cH (enc := aM) (l := v7) (els := [(bF.mk (⟨#[97, 108, 105, 103, 110, 108, 101, 102, 116]⟩ : ByteArray) y14)]) (r := l15) (old := some 1) (e := 172) (sz := 5) (bytes := 72) (k := (H1 v7)) (nm := 16) he (by kernel_rfl) (by kernel_rfl) (fun x => by kernel_rfl) (by kernel_rfl) (by kernel_rfl) rfl rfl rfl ?_
 clear he
 refine zk 1 ?_
 refine bV ?_
 exact dF (zv [(0, 0), (16, 1)] [0, 1, 5] 2) (hj10 _ _ _ h)
 exact aH (zv [(0, 0), (1, 1)] [0, 1, 5] 2) (aB (hj10 _ _ _ h))
 refine zx fun _ => ?_
 refine zk 1 ?_
 obtain ⟨y2, he, h⟩ := aC h
 refine zo [(0, 0)] cP (bJ n _ _ y2 he) ?_
 clear he
 refine zk 1 ?_
 refine ze [0, 1, 5, 10] ?_
 refine zi h (fun h => ?_) fun h => ?_
 refine aW ?_
 refine zy fun _ => ?_
 refine zk 2 ?_
 obtain ⟨y3, he, h⟩ := aC h
 refine zo [(0, 0)] cP (bJ n _ _ y3 he) ?_
 clear he
 refine zk 3 ?_
 refine zw (v := .c (Sx (dG [H7 y3.1]))) [] (mW (ns := [H7 y3.1]) (by kernel_rfl)) ?_
 obtain ⟨s4, he, h⟩ := aC h
 refine zw (v := .c (Sx s4)) [] (Km (p := (⟨#[107]⟩ : ByteArray)) (q := (dG [H7 y3.1])) he (by kernel_rfl)) ?_
 clear he
 obtain ⟨y5, he, h⟩ := aC h
 refine zc Fb (nP n _ y5 he) ?_
 clear he
 refine zk 2 ?_
 obtain ⟨l6, he, h⟩ := aC h
 refine cH (enc := aM) (l := ([] : List bF)) (els := [(bF.mk (⟨#[97, 98, 111, 118, 101]⟩ : ByteArray) y5)]) (r := l6) (old := none) (e := 172) (sz := 5) (bytes := 72) (k := 0) (nm := 17) he (by kernel_rfl) (by kernel_rfl) (fun x => by kernel_rfl) (by kernel_rfl) (by kernel_rfl) rfl rfl rfl ?_
 clear he
 refine zk 1 ?_
 refine bV ?_
 exact dF (zv [(0, 0), (17, 1)] [0, 1, 5] 2) (hj1 _ _ _ h)
 exact aH (dT.trans (mO (L2 := [I3, A6 1 p1, (5, .c (.app 6 (List.map aM ([] : List bF)))), (10, B3 (y2.1 == 0))]) (G2 := [E4 y2.2, (6, .tok 172 5 (List.length ([] : List bF)))]) (lim2 := 7) 5 172 5 (by kernel_rfl) (by kernel_rfl) (by kernel_rfl) (by kernel_rfl)) (zv [(0, 0), (6, 1)] [0, 1, 5] 2)) (aB (hj1 _ _ _ h))
end Go.Proofs.YtojkihhnioeggaaGreatDoor.S
