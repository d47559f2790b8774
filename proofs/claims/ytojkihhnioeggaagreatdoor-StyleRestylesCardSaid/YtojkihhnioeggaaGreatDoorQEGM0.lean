import Derived.Test.YtojkihhnioeggaaGreatDoorQEGVs
set_option linter.all false
set_option maxRecDepth 100000
set_option maxHeartbeats 4000000
namespace Go.Proofs.YtojkihhnioeggaaGreatDoor.S
open Go Go.Bm
abbrev A0 (a : aB) := bH.blk 52 [I a.x0,I a.x1,I a.x2,I a.x3,I a.x4,I a.x5,I a.x6,I a.x7,I a.x8,I a.x9,I a.x10,I a.x11,I a.x12,I a.x13,I a.x14,I a.x15,I a.x16,I a.x17,I a.x18,I a.x19,I a.x20,I a.x21]
abbrev A1 (a b c) := ((a,AV.c (CV.ptr b c)) : Nat × _)
abbrev A2 (a : aU) := bH.blk 58 [I a.ID,I a.Parent,I a.Kind,Sx a.Key,CV.lit (List.map aF a.Attrs),CV.lit (List.map aC a.Actions),CV.lit (List.map aL a.Kids)]
abbrev A3 (a : bA) := bH.blk 27 [I a.Root,I a.Next,CV.lit (List.map aE a.Nodes)]
abbrev A4 (a : fO) := bH.blk 92 [CV.lmap true (List.map (eM (Value.int .i64) aE) a.nodes),CV.lmap false (List.map (eM (Value.int .i64) eS) a.class_),CV.lmap false (List.map (eM (Value.int .i64) aL) a.states)]
abbrev A5 (a : cM) := bH.blk 63 [I a.Kind,Sx a.Class,I a.States,I a.UnderKind,Sx a.UnderClass,CV.lit (List.map bL a.Decls)]
abbrev A6 (a b) := (0,bH.blk 78 [CV.lit (List.map aL a),I b])
abbrev A7 (a b) := ((a,AV.c (I b)) : Nat × _)
abbrev A8 (a : aN) := bH.blk 70 [I a.Kind,Sx a.Key,CV.lit (List.map aF a.Attrs),CV.lit (List.map aC a.Actions),CV.lit (List.map aQ a.Kids)]
abbrev A9 (a : aN) := AV.agg [I a.Kind,Sx a.Key,CV.lit (List.map aF a.Attrs),CV.lit (List.map aC a.Actions),CV.lit (List.map aQ a.Kids)]
abbrev B0 (a b c : Int) := (decide (a < b)) || (decide (a > c))
abbrev B1 := bH.blk 52 [I 0,I 0,I 0,I 0,I 0,I 0,I 0,I 0,I 0,I 0,I 0,I 0,I 0,I 0,I 0,I 0,I 0,I 0,I 0,I 0,I 0,I 0]
abbrev B2 (a : aU) := AV.agg [I a.ID,I a.Parent,I a.Kind,Sx a.Key,CV.lit (List.map aF a.Attrs),CV.lit (List.map aC a.Actions),CV.lit (List.map aL a.Kids)]
abbrev B3 (a : fO) (b c d e f g) := bH.blk 95 [CV.lmap true (List.map (eM (Value.int .i64) aE) a.nodes),CV.lmap false (List.map (eM (Value.int .i64) eS) a.class_),CV.lmap false (List.map (eM (Value.int .i64) aL) a.states),CV.lit (List.map aY b),CV.lit (List.map aL c),CV.lit (List.map bC d),Bo e,Bo f,I g]
abbrev B4 (a b) := ((a,AV.c (Bo b)) : Nat × _)
abbrev B5 (a : bA) := AV.agg [I a.Root,I a.Next,CV.lit (List.map aE a.Nodes)]
abbrev B6 := Value.int .i64
abbrev B7 (a) := AV.c (CV.lit (List.map aH a))
abbrev B8 (a) (b : aB) := CV.imm [I a,I b.x0,I b.x1,I b.x2,I b.x3,I b.x4,I b.x5,I b.x6,I b.x7,I b.x8,I b.x9,I b.x10,I b.x11,I b.x12,I b.x13,I b.x14,I b.x15,I b.x16,I b.x17,I b.x18,I b.x19,I b.x20,I b.x21]
abbrev B9 (a : cX) := bH.blk 38 [Bo a.Dark,Bo a.High,I a.Scale]
abbrev C0 (a : aP) := AV.agg [I a.Kind,I a.N,Sx a.S,CV.lit (List.map aT a.L)]
abbrev C1 {α3 : Type} (a b c) (d : List α3) := ((a,bH.tok b c (List.length d)) : Nat × _)
abbrev C2 (a) := CV.lit (List.map aL a)
abbrev C3 (a) := AV.c (CV.lit (List.map aX a))
abbrev C4 (a) := CV.lit (List.map aY a)
abbrev C5 (a) := CV.lit (List.map aF a)
abbrev C6 (a) := CV.lit (List.map aC a)
abbrev C7 (a) := AV.c (I a)
abbrev C8 (a : aB) := AV.agg [I a.x0,I a.x1,I a.x2,I a.x3,I a.x4,I a.x5,I a.x6,I a.x7,I a.x8,I a.x9,I a.x10,I a.x11,I a.x12,I a.x13,I a.x14,I a.x15,I a.x16,I a.x17,I a.x18,I a.x19,I a.x20,I a.x21]
abbrev C9 (a) := bH.blk 35 [CV.lit (List.map bC a)]
abbrev D2 (a) := CV.lmap true (List.map (eM (B6) aE) a)
abbrev D3 (a : bD) := AV.agg [I a.Kind,CV.lit (List.map bN a.Of)]
abbrev D4 (a b : Int) := decide (a < b)
abbrev D5 (a) := CV.lmap false (List.map (eM (B6) eS) a)
abbrev D6 (a b) := AV.c (CV.ptr a b)
abbrev D7 (a) := AV.c (Bo a)
abbrev D8 (a) := CV.lit (List.map aT a)
abbrev D9 (a : aW) := A6 a.L a.At
abbrev E0 (a : cM) := AV.agg [I a.Kind,Sx a.Class,I a.States,I a.UnderKind,Sx a.UnderClass,CV.lit (List.map bL a.Decls)]
abbrev E1 (a) := CV.lmap false (List.map (eM (B6) aL) a)
abbrev E2 (a) (b : aB) := AV.agg [I a,I b.x0,I b.x1,I b.x2,I b.x3,I b.x4,I b.x5,I b.x6,I b.x7,I b.x8,I b.x9,I b.x10,I b.x11,I b.x12,I b.x13,I b.x14,I b.x15,I b.x16,I b.x17,I b.x18,I b.x19,I b.x20,I b.x21]
abbrev E3 := bH.blk 70 [I 0,Sx nB,bV,bV,bV]
abbrev E4 (a : bW) := bH.blk 81 [I a.Prop_,I a.Source,I a.N,Sx a.Token]
abbrev E5 (a) := (0,bH.blk 31 [C4 a])
abbrev E6 (a) := CV.lit (List.map aQ a)
abbrev E7 (a : aP) := bH.blk 152 [I a.Kind,I a.N,Sx a.S,D8 a.L]
abbrev E8 (a) := bH.vec 3 1 (List.map aL a)
abbrev E9 (a b c) := aB.set a b c
abbrev F0 (a : Int) := ((decide (a ≥ 97)) && (decide (a ≤ 122))) || ((decide (a ≥ 65)) && (decide (a ≤ 90)))
abbrev F1 (a b) := ((a,AV.c (CV.mapr b)) : Nat × _)
abbrev F2 (a b : Int) := decide (a > b)
abbrev F3 (a : cX) := AV.agg [Bo a.Dark,Bo a.High,I a.Scale]
abbrev F4 (a) := (5,AV.c (CV.app 1 (List.map aF a)))
abbrev F5 (a) := CV.lit (List.map bN a)
abbrev F6 (a : aN) := CV.imm [I a.Kind,Sx a.Key,C5 a.Attrs,C6 a.Actions,E6 a.Kids]
abbrev F7 (a) := CV.lit (List.map bC a)
abbrev F8 (a b) := ((a,AV.c (C2 b)) : Nat × _)
abbrev F9 (a) := CV.lit (List.map aE a)
abbrev G0 (a) := AV.c (Sx a)
abbrev G3 (a b) := AV.c (CV.app a (List.map aL b))
abbrev G4 (a b) := ((a,A3 b) : Nat × _)
abbrev G5 := bH.blk 152 [I 0,I 0,Sx nB,bV]
abbrev G6 (a) := List.map (eM (B6) eB) a
abbrev G7 := A1 0 0 0
abbrev G8 (a b c d e) (f : cX) := ((a,B3 b c d e f.Dark f.High f.Scale) : Nat × _)
abbrev G9 (a) := bP a nB
abbrev H0 (a) := (0,bH.blk 3 [I a])
abbrev H1 := bH.blk 190 [I 0,bV]
abbrev H3 (a : cS) := bH.blk 159 [Sx a.Event,Sx a.Instance,Sx a.Handler,D8 a.Args]
abbrev H4 := A1 4 1 0
abbrev H5 := A1 4 0 0
abbrev H6 {α0 : Type} (a : List α0) := List.length a
abbrev H7 (a) := B0 a 97 122
abbrev H8 (a) := List.map (eM (B6) bL) a
abbrev H9 := A1 1 0 0
abbrev I0 (a : fJ) := bH.blk 85 [Sx a.Name,I a.Light,I a.Dark,I a.HighLight,I a.HighDark]
abbrev I1 (a b c) := ((a,bH.blk b [CV.row c]) : Nat × _)
abbrev I2 (a) := bH.vec 58 7 (List.map aE a)
abbrev I3 (a) := AV.c (CV.fn 38 [CV.imm [C4 a]])
abbrev I4 (a) := ((a,AV.c (I 0)) : Nat × _)
abbrev I5 (a b) := ((a,B7 b) : Nat × _)
abbrev I6 (a b c d e f g h) := ((a,bH.blk b [I c,Sx nB,C5 d,CV.app e (List.map aC f),CV.app g (List.map aQ h)]) : Nat × _)
abbrev I7 (a) := List.map (eM (B6) aE) a
abbrev I8 := A1 3 0 0
abbrev I9 (a b c d) := ((a,bH.blk b [I 4,I 0,Sx nB,CV.app c (List.map aT d)]) : Nat × _)
abbrev J0 := A1 6 1 0
abbrev J1 (a : bD) := bH.blk 190 [I a.Kind,F5 a.Of]
abbrev J2 := A1 2 0 0
abbrev J3 := A1 14 4 0
abbrev J4 (a) := bH.vec 63 6 (List.map aY a)
abbrev J5 (a) := (1,C9 a)
abbrev J6 (a) := (2,B9 a)
abbrev J7 (a b c d e) := bH.blk 70 [I a,Sx b,C5 c,C6 d,E6 e]
abbrev J8 := A1 11 3 0
abbrev J9 (a) := AV.c (CV.row a)
abbrev K0 (a : fO) := AV.agg [D2 a.nodes,D5 a.class_,E1 a.states]
abbrev K1 (a : aP) := CV.imm [I a.Kind,I a.N,Sx a.S,D8 a.L]
abbrev K2 := A1 10 2 0
abbrev K3 (a b) := ((a,A2 b) : Nat × _)
abbrev K4 := List Int
abbrev K5 (a b c d e f g) := bH.blk 58 [I a,I b,I c,Sx d,C5 e,C6 f,C2 g]
abbrev K6 (a b) := ((a,A0 b) : Nat × _)
abbrev K7 (a b) := ((a,A5 b) : Nat × _)
abbrev K8 := cM.mk 2 nB 0 0 nB [bW.mk 9 0 7 nB]
abbrev K9 (a b) := ((a,AV.c (CV.lit (List.map bL b))) : Nat × _)
abbrev L0 := A1 16 5 0
abbrev L3 := A1 17 6 0
abbrev L4 := (1,bH.blk 92 [CV.mapr 2,CV.mapr 3,CV.mapr 4])
abbrev L5 := A1 3 2 0
abbrev L6 := A1 8 0 0
abbrev L7 (a b c) := ((a,AV.c (CV.app b (List.map pU c))) : Nat × _)
abbrev L8 (a) := B0 a 65 90
abbrev L9 (a b) := ((a,C3 b) : Nat × _)
abbrev M0 (a) := ((a,AV.c (Bo false)) : Nat × _)
abbrev M1 := (1,bH.blk 81 [I 0,I 0,I 0,Sx nB])
abbrev M2 := A1 9 1 0
abbrev M3 := List (Int × aU)
abbrev M4 (a b) (c : fO) (d e f g h i) := ((a,bH.blk b [D2 c.nodes,D5 c.class_,E1 c.states,C4 d,CV.row e,F7 f,Bo g,Bo h,I i]) : Nat × _)
abbrev M5 := mk [] [] 0
abbrev M6 (a : bD) := CV.imm [I a.Kind,F5 a.Of]
abbrev M7 (a : bW) := AV.agg [I a.Prop_,I a.Source,I a.N,Sx a.Token]
abbrev M8 (a) := (0,A4 a)
abbrev M9 (a : aW) := (2,bH.blk 78 [C2 a.L,I a.At])
abbrev N0 := A1 3 1 0
abbrev N1 (a) := AV.c (CV.lmap true (H8 a))
abbrev N2 (a b c d) := ((a,AV.cnd [b] (D6 c d)) : Nat × _)
abbrev N3 (a) (b : aP) := CV.imm [Sx a,I b.Kind,I b.N,Sx b.S,D8 b.L]
abbrev N4 := bH.blk 97 [I 0,I 0]
abbrev N5 (a b c) := ((a,AV.cnd [!(D4 b c)] (C7 b)) : Nat × _)
abbrev N6 (a b c) := ((a,AV.cnd [b] (C7 c)) : Nat × _)
abbrev N7 := A1 2 1 0
abbrev N8 (a) := AV.c (CV.fn 101 [CV.imm [CV.lit (List.map aH a)]])
abbrev N9 (a b) := ((a,A8 b) : Nat × _)
abbrev O0 (a) := F2 a 1099511627776
abbrev O1 := A1 5 1 0
abbrev O2 (a) := List.map (eM Value.string eB) a
abbrev O3 := Int × Int
abbrev O4 (a) := AV.c (D2 a)
abbrev O5 := A1 6 2 0
abbrev O6 (a) := A7 18 a
abbrev O7 (a) := AV.c (D8 a)
abbrev O8 (a) := AV.agg [F7 a]
abbrev O9 := A1 5 2 0
abbrev P0 (a) := AV.c (U8 a)
abbrev P1 (a) := AV.c (F9 a)
abbrev P2 (a) := List.map (eM (B6) eS) a
abbrev P3 (a) := (0,E8 a)
abbrev P4 := bD × Int × Int
abbrev P5 (a b c) := AV.agg [I a,I b,CV.row c]
abbrev P6 := A1 21 0 0
abbrev P7 := A1 22 1 0
abbrev P8 (a b c) := (4,bH.blk 27 [I a,I b,F9 c])
abbrev P9 (a b : Int) := decide (a ≥ b)
abbrev Q0 (a b : Int) := decide (a ≤ b)
abbrev Q1 (a) := B0 a 1 4
abbrev Q2 (a) := D4 a 48
abbrev Q3 (a) := bH.vec 70 5 (List.map aQ a)
abbrev Q4 (a) := (9,G3 2 a)
abbrev Q5 (a b) := ((a,AV.c (C6 b)) : Nat × _)
abbrev Q6 (a) := [D6 0 0,C7 a]
abbrev Q7 (a) := CV.lit (List.map pU a)
abbrev Q8 (a) := B0 a 2 1099511627776
abbrev Q9 := A1 29 21 0
abbrev R0 (a) := AV.agg [C4 a]
abbrev R1 (a) := (2,bH.blk 97 [I a,I 0])
abbrev R2 (a) := AV.c (D5 a)
abbrev R3 (a b c d e f g h) := ((a,bH.blk b [I c,Sx d,C5 e,C6 f,CV.app g (List.map aQ h)]) : Nat × _)
abbrev R4 (a b) := CV.app a (List.map bN b)
abbrev R5 (a) := AV.c (C5 a)
abbrev R6 := (0,J9 0)
abbrev R7 (a) := (16,bH.blk 31 [CV.app 14 (List.map aY a)])
abbrev R8 (a) := A7 19 a
abbrev R9 (a) := A7 26 a
def xW (n : Nat) (p0 : (List Int)) : Option aW := (aS (fun (v3 : List Int) => some (aW.mk v3 0)) (fun (j1 : List Int → Option aW) => (if (decide ((List.length p0 : Int) > 4000)) = true then (Bm.Fd p0 0 4000).bind fun l2 => j1 l2 else j1 p0)))
theorem Oy (n : Nat) (p0 : (K4)) (r : aW) (h : xW n p0 = some r) : dC E 9 0 [.c (C2 p0)] [] (D6 0 0) [D9 r] := by
 refine eO Tryz.func9 rfl ?_
 unfold xW at h
 refine za [0] (aR h (fun A j => ∀ v3,j v3 = some r → A (mk [F8 0 v3] [] 0)) (fun v3 h => ?_) (fun j1 Aj1 hj1 h => ?_))
 refine za [2] ?_
 have h := Option.some.inj h
 subst h
 exact aJ (tX rfl [(2,0)] [2] (L2 := [J2]) (G2 := [(0,.blk 78 [C2 v3,I 0])]) (lim2 := 1) (by kernel_rfl)) (aG (Ng (.inl rfl) (by kernel_rfl) (by kernel_rfl)))
 refine zx fun _ => zk 1 (zl aL p0 (zk 1 (ze [0,5] (zi h (fun h => ?_) fun h => ?_))))
 exact aV (zy fun _ => zk 1 (bK h fun l2 he h => zw (v := .c (C2 l2)) [] (rZ (enc := aL) (l := p0) (p := 0) (q := 4000) (sz := 1) he (by kernel_rfl) (fun x => by kernel_rfl)) (zk 1 (bT (dI zI (hj1 _ h))))))
 exact aJ zI (aD (hj1 _ h))
def cF (n : Nat) (p0 : aW) (p1 : Int) : Option (Int × aW) := (if ((decide (p0.At ≥ (List.length p0.L : Int))) || (decide (p1 < 1))) = true then some (0,p0) else (idx p0.L p0.At).bind fun e1 => (nz p1).bind fun d2 => (aS (fun (v4 : Int) => some (v4,(aW.mk p0.L (w6 (p0.At + 1))))) (fun (j3 : Int → Option (Int × aW)) => (if (decide ((Int.tmod e1 p1) < 0)) = true then j3 (w6 ((Int.tmod e1 p1) + p1)) else j3 (Int.tmod e1 p1)))))
theorem bI (n : Nat) (p0 : aW) (p1 : Int) (r : (Int × aW)) (h : cF n p0 p1 = some r) : dC E 15 1 (Q6 p1) [D9 p0] (C7 r.1) [D9 r.2] := by
 refine eO Tryz.func15 rfl ?_
 unfold cF at h
 refine za [0,1] (aM (vK [[],[0],[1,0],[2,1,0],[],[4],[5,4],[6,5,4],[7,6,5,4],[3,8,2,1,0,7,6,5,4],[9,3,8,2,1,0,7,6,5,4],[10,9,3,8,2,1,0,7,6,5,4],[11,10,9,3,8,2,1,0,7,6,5,4],[10,12,9,3,8,2,1,0,7,6,5,4,11]] fun _ => zk 8 (zl aL p0.L (zk 2 (zq (zq (zp (ze [0,1,19] (zi h (fun h => ?_) fun h => ?_)))))))))
 refine za [4] ?_
 cases h
 exact aG zr
 refine aD (vK [[],[0],[1,0],[2,1,0],[],[4],[5,4],[6,5,4],[3,7,2,1,0,6,5,4],[8,3,7,2,1,0,6,5,4],[],[9,10,8,3,7,2,1,0,6,5,4],[11,0,1,2,3,4,5,6,7,8,9,10]] fun _ => zk 8 (bK h fun e1 he h => zd aL he (zk 2 (bK h fun d2 he h => cY (v := .c (I (Int.tmod e1 p1))) (foot := []) (Te (k := .i64) (x := e1) (y := p1) he (by kernel_rfl)) (by kernel_rfl) rfl rfl (zk 1 (kS [0,1,5] (L2 := [G7,A7 1 p1,A7 5 (Int.tmod e1 p1)]) (G2 := [D9 p0]) 29 (za [1,5] (aR h (fun A j => ∀ v4,j v4 = some r → A (mk [A7 5 v4] [A6 p0.L (w6 (p0.At + 1))] 1)) (fun v4 h => ?_) (fun j3 Aj3 hj3 h => ?_)))))))))
 refine za [4] ?_
 cases h
 exact aG zr
 refine za [1,5,40] (zi h (fun h => ?_) fun h => ?_)
 exact aV (zb (dI zI (hj3 _ h)))
 exact aJ zI (aD (hj3 _ h))
def qB (n : Nat) (p0 : ByteArray) : Option aP := some (aP.mk 3 0 p0 ([] : List aP))
theorem oW (n : Nat) (p0 : ByteArray) (r : aP) (h : qB n p0 = some r) : dC E 116 0 [G0 p0] [] (C0 r) [] := by
 refine eO Tryz.func116 rfl ?_
 unfold qB at h
 refine za [0,2] (za [2] ?_)
 cases h
 exact aG zr
def sD (n : Nat) (p0 : Int) : Option aP := some (aP.mk 2 p0 nB ([] : List aP))
theorem rT (n : Nat) (p0 : Int) (r : aP) (h : sD n p0 = some r) : dC E 117 0 [C7 p0] [] (C0 r) [] := by
 refine eO Tryz.func117 rfl ?_
 unfold sD at h
 refine za [0,2] (za [2] ?_)
 cases h
 exact aG zr
def oZ (n : Nat) (p0 : aW) : Option (ByteArray × aW) := (cF n p0 (List.length [(⟨#[97]⟩ : ByteArray),(⟨#[98]⟩ : ByteArray),(⟨#[99]⟩ : ByteArray),(⟨#[100]⟩ : ByteArray),(⟨#[120]⟩ : ByteArray),(⟨#[121]⟩ : ByteArray),(⟨#[105,116,101,109]⟩ : ByteArray),(⟨#[110,45,49]⟩ : ByteArray)] : Int)).bind fun y1 => (idx [(⟨#[97]⟩ : ByteArray),(⟨#[98]⟩ : ByteArray),(⟨#[99]⟩ : ByteArray),(⟨#[100]⟩ : ByteArray),(⟨#[120]⟩ : ByteArray),(⟨#[121]⟩ : ByteArray),(⟨#[105,116,101,109]⟩ : ByteArray),(⟨#[110,45,49]⟩ : ByteArray)] y1.1).bind fun e2 => some (e2,y1.2)
theorem xQ (n : Nat) (p0 : aW) (r : (ByteArray × aW)) (h : oZ n p0 = some r) : dC E 32 1 [D6 0 0] [D9 p0] (G0 r.1) [D9 r.2] := by
 refine eO Tryz.func32 rfl ?_
 unfold oZ at h
 refine za [0] (za [0,3] (zx fun _ => zk 3 (zl eS [(⟨#[97]⟩ : ByteArray),(⟨#[98]⟩ : ByteArray),(⟨#[99]⟩ : ByteArray),(⟨#[100]⟩ : ByteArray),(⟨#[120]⟩ : ByteArray),(⟨#[121]⟩ : ByteArray),(⟨#[105,116,101,109]⟩ : ByteArray),(⟨#[110,45,49]⟩ : ByteArray)] (bK h fun y1 he h => zo [(0,0)] cK (bI n _ _ y1 he) (bK h fun e2 he h => zd eS he (zk 2 (ze [2] ?_)))))))
 cases h
 exact aG zr
def oR (n : Nat) (p0 : aW) (p1 : Int) (p2 : Int) : Option (Int × aW) := (cF n p0 (w6 ((w6 (p2 - p1)) + 1))).bind fun y1 => some ((w6 (p1 + y1.1)),y1.2)
theorem rK (n : Nat) (p0 : aW) (p1 : Int) (p2 : Int) (r : (Int × aW)) (h : oR n p0 p1 p2 = some r) : dC E 16 1 [D6 0 0,C7 p1,C7 p2] [D9 p0] (C7 r.1) [D9 r.2] := by
 refine eO Tryz.func16 rfl ?_
 unfold oR at h
 refine za [0,1,2] (zx fun _ => zk 6 (bK h fun y1 he h => zo [(0,0)] cK (bI n _ _ y1 he) (zk 2 (ze [6] ?_))))
 cases h
 exact aG zr
def lC (n : Nat) (p0 : Int) : Option aP := some (aP.mk 1 p0 nB ([] : List aP))
theorem kW (n : Nat) (p0 : Int) (r : aP) (h : lC n p0 = some r) : dC E 118 0 [C7 p0] [] (C0 r) [] := by
 refine eO Tryz.func118 rfl ?_
 unfold lC at h
 refine za [0,2] (za [2] ?_)
 cases h
 exact aG zr
def qN (n : Nat)  : Option (List Int) := some [97,98,102,105,88,49,50,32,32,46,44,45,39,34,40,41,91,93,60,33,58,95,37,43,47,9,10,13,11,133,160,173,183,769,1488,1489,1470,1456,1536,1575,1576,1587,1600,1611,1633,1642,1548,1564,1777,2307,2309,2364,4352,4449,4520,44032,44033,8201,8203,8204,8205,8206,8207,8217,8232,8233,8234,8235,8236,8237,8238,8288,8294,8295,8296,8297,9728,12288,12289,12300,12301,12450,19968,65039,127462,127463,127995,128104,1114111]
theorem Cr (n : Nat)  (r : (K4)) (h : qN n  = some r) : dC E 140 0 [] [] (.c (Q7 r)) [] := by
 refine eO Tryz.func140 rfl ?_
 unfold qN at h
 refine za [] (za [0] ?_)
 cases h
 exact aG zr
def sR (n : Nat) (p0 : aW) (p1 : Int) : Option (Bool × aW) := (cF n p0 p1).bind fun y1 => some ((y1.1 == (w6 (p1 - 1))),y1.2)
theorem Ko (n : Nat) (p0 : aW) (p1 : Int) (r : (Bool × aW)) (h : sR n p0 p1 = some r) : dC E 141 1 (Q6 p1) [D9 p0] (D7 r.1) [D9 r.2] := by
 refine eO Tryz.func141 rfl ?_
 unfold sR at h
 refine za [0,1] (zx fun _ => zk 2 (bK h fun y1 he h => zo [(0,0)] cK (bI n _ _ y1 he) (zk 4 (ze [4] ?_))))
 cases h
 exact aG zr
def Bc (n : Nat) (p0 : aW) : Option (Int × aW) := (if (decide (p0.At ≥ (List.length p0.L : Int))) = true then some (0,p0) else (idx p0.L (w6 ((w6 (p0.At + 1)) - 1))).bind fun e1 => some (e1,(aW.mk p0.L (w6 (p0.At + 1)))))
theorem Ti (n : Nat) (p0 : aW) (r : (Int × aW)) (h : Bc n p0 = some r) : dC E 142 1 [D6 0 0] [D9 p0] (C7 r.1) [D9 r.2] := by
 refine eO Tryz.func142 rfl ?_
 unfold Bc at h
 refine za [0] (aM (vK [[],[0],[1,0],[2,1,0],[],[4],[5,4],[6,5,4],[7,6,5,4],[3,8,2,1,0,7,6,5,4]] fun _ => zk 8 (zl aL p0.L (zk 1 (ze [0,12] (zi h (fun h => ?_) fun h => ?_))))))
 refine za [2] ?_
 cases h
 exact aG zr
 refine aD (za [0] (vK [[],[0],[1,0],[2,1,0],[],[4],[5,4],[6,5,4],[7,6,5,4],[3,8,2,1,0,7,6,5,4],[9,3,8,2,1,0,7,6,5,4],[10,0,1,2,3,4,5,6,7,8,9]] fun _ => zk 9 (bK h fun e1 he h => zd aL he (zk 2 (ze [2] ?_)))))
 cases h
 exact aG zr
def uU (n : Nat) (p0 : aW) : Option (Int × aW) := (qN n).bind fun y1 => (sR n p0 40).bind fun y2 => (if y2.1 = true then (Bc n y2.2).bind fun y3 => some ((IntKind.wrap .i32 y3.1),y3.2) else (cF n y2.2 (List.length y1 : Int)).bind fun y4 => (idx y1 y4.1).bind fun e5 => some (e5,y4.2))
theorem Ev (n : Nat) (p0 : aW) (r : (Int × aW)) (h : uU n p0 = some r) : dC E 133 1 [D6 0 0] [D9 p0] (.c (I32 r.1)) [D9 r.2] := by
 refine eO Tryz.func133 rfl ?_
 unfold uU at h
 refine za [0] (zx fun _ => bK h fun y1 he h => zc fok140 (Cr n  y1 he) (zk 1 (ze [0,3] (aM (zx fun _ => zk 1 (bK h fun y2 he h => zo [(0,0)] fok141 (Ko n _ _ y2 he) (ze [0,3,6] (zi h (fun h => ?_) fun h => ?_))))))))
 refine zx fun _ => zk 1 (bK h fun y3 he h => zo [(0,0)] fok142 (Ti n _ y3 he) (zk 2 (ze [2] ?_)))
 cases h
 exact aG zr
 refine aD (zx fun _ => zk 3 (zl pU y1 (bK h fun y4 he h => zo [(0,0)] cK (bI n _ _ y4 he) (bK h fun e5 he h => zd pU he (zk 2 (kS [2] (L2 := [(2,.c (I32 e5))]) (G2 := [D9 y4.2]) 14 ?_))))))
 cases h
 exact aG zr
def mM (y1 : (Int × aW)) (y2 : (Int × aW)) (v16 : List Int) (j19 : List Int → List Int → Int → Option ((List Int) × aW)) : Nat → List Int → Int → List Int → Int → Option ((List Int) × aW)
 | 0,_,_,_,_ => none
 | n + 1,v29,v30,v31,v32 => (if (decide (v30 < y1.1)) = true then (aS (fun (v39 : List Int) (v40 : List Int) (v41 : Int) => mM y1 y2 v16 j19 n v39 (w6 (v30 + 1)) v40 v41) (fun (j33 : List Int → List Int → Int → Option ((List Int) × aW)) => (if (decide (y2.1 > 0)) = true then (cF n (aW.mk v31 v32) 5).bind fun y34 => (idx v16 y34.1).bind fun e35 => (pA 4 v29 [e35]).bind fun l36 => j33 l36 y34.2.L y34.2.At else (uU n (aW.mk v31 v32)).bind fun y37 => (pA 4 v29 [y37.1]).bind fun l38 => j33 l38 y37.2.L y37.2.At))) else j19 v29 v31 v32)
def mW (j3 : List Int → List Int → Int → Option ((List Int) × aW)) (y1 : (Int × aW)) (y2 : (Int × aW)) : Nat → List Int → Int → List Int → Int → Option ((List Int) × aW)
 | 0,_,_,_,_ => none
 | n + 1,v6,v7,v8,v9 => (if (decide (v7 < 5)) = true then (uU n (aW.mk v8 v9)).bind fun y10 => (pA 4 v6 [y10.1]).bind fun l11 => mW j3 y1 y2 n l11 (w6 (v7 + 1)) y10.2.L y10.2.At else j3 v6 v8 v9)
def wY (n : Nat) (p0 : aW) (p1 : Int) : Option ((List Int) × aW) := (cF n p0 (w6 (p1 + 1))).bind fun y1 => (cF n y1.2 3).bind fun y2 => (aS (fun (v16 : List Int) (v17 : List Int) (v18 : Int) => (aS (fun (v46 : List Int) (v47 : List Int) (v48 : Int) => some (v46,(aW.mk v47 v48))) (fun (j19 : List Int → List Int → Int → Option ((List Int) × aW)) => mM y1 y2 v16 j19 n ([] : List Int) 0 v17 v18))) (fun (j3 : List Int → List Int → Int → Option ((List Int) × aW)) => mW j3 y1 y2 n ([] : List Int) 0 y2.2.L y2.2.At))
theorem Rf (n : Nat) (p0 : aW) (p1 : Int) (r : ((K4) × aW)) (h : wY n p0 p1 = some r) : dC E 120 1 (Q6 p1) [D9 p0] (.c (Q7 r.1)) [D9 r.2] := by
 refine eO Tryz.func120 rfl ?_
 unfold wY at h
 refine za [0,1] (zx fun _ => zk 3 (bK h fun y1 he h => zo [(0,0)] cK (bI n _ _ y1 he) (zk 1 (ze [0,5] (za [0,5,6] (zx fun _ => zk 1 (bK h fun y2 he h => zo [(0,0)] cK (bI n _ _ y2 he) (zk 1 (ze [0,5,6,7] (za [0,5,6,7,8] (aR h (fun A j => ∀ v16 v17 v18,j v16 v17 v18 = some r → A (mk [G7,A7 5 y1.1,(6,.c (bV)),A7 7 y2.1,L7 8 1 v16] [A6 v17 v18,C1 1 21 1 v16] 2)) (fun v16 v17 v18 h => ?_) (fun j3 Aj3 hj3 h => ?_))))))))))))
 refine aR h (fun A j => ∀ v46 v47 v48,j v46 v47 v48 = some r → A (mk [L7 6 1 v46] [A6 v47 v48,C1 1 21 1 v46] 2)) (fun v46 v47 v48 h => ?_) (fun j19 Aj19 hj19 h => ?_)
 refine za [4] ?_
 cases h
 exact aG zr
 refine za [0,5,6,7,8,10] (aI (bB (fun n s => ∃ v29 v30 v31 v32,mM y1 y2 v16 j19 n v29 v30 v31 v32 = some r ∧ s = mk [G7,A7 5 y1.1,L7 6 1 v29,A7 7 y2.1,L7 8 2 v16,A7 10 v30] [A6 v31 v32,C1 1 21 1 v29,C1 2 21 1 v16] 3) n _ (dZ.trans (mB (L2 := [G7,A7 5 y1.1,(6,.c (.app 3 (List.map pU ([] : List Int)))),A7 7 y2.1,L7 8 1 v16,I4 10]) (G2 := [A6 v17 v18,C1 1 21 1 v16,(3,.tok 21 1 (List.length ([] : List Int)))]) (lim2 := 4) 6 21 1 (by kernel_rfl) (by kernel_rfl) (by kernel_rfl) (by kernel_rfl)) (zv [(0,0),(3,1),(1,2)] [0,5,6,7,8,10] 3)) ⟨_,_,_,_,h,rfl⟩ (fun s ⟨v29,v30,v31,v32,h,_⟩ => nomatch h) ?_))
 rintro n s ⟨v29,v30,v31,v32,h,rfl⟩
 rw [mM] at h
 refine aM (za [0,5,6,7,8,10,28] (zi h (fun h => ?_) fun h => ?_))
 refine aD (aR h (fun A j => ∀ v39 v40 v41,j v39 v40 v41 = some r → A (mk [G7,A7 5 y1.1,L7 6 1 v39,A7 7 y2.1,L7 8 2 v16,A7 10 v30] [A6 v40 v41,C1 1 21 1 v39,C1 2 21 1 v16] 3)) (fun v39 v40 v41 h => ?_) (fun j33 Aj33 hj33 h => ?_))
 exact aV (zb (dI zI (⟨_,_,_,_,h,rfl⟩)))
 refine aI (za [0,5,6,7,8,10,32] (zi h (fun h => ?_) fun h => ?_))
 exact aV (zy fun _ => zk 3 (bK h fun y34 he h => zo [(0,0)] cK (bI n _ _ y34 he) (bK h fun e35 he h => zd pU he (zk 2 (bK h fun l36 he h => cI (enc := pU) (l := v29) (els := [e35]) (r := l36) (old := some 1) (e := 21) (sz := 1) (bytes := 4) (k := (H6 v29)) (nm := 15) he (by kernel_rfl) (by kernel_rfl) (fun x => by kernel_rfl) (by kernel_rfl) (by kernel_rfl) rfl rfl rfl (zk 1 (bT (dI (zv [(0,0),(15,1),(2,2)] [0,5,6,7,8,10] 3) (hj33 _ _ _ h)))))))))
 exact aV (zy fun _ => zk 2 (bK h fun y37 he h => zo [(0,0)] fok133 (Ev n _ y37 he) (zk 1 (bK h fun l38 he h => cI (enc := pU) (l := v29) (els := [y37.1]) (r := l38) (old := some 1) (e := 21) (sz := 1) (bytes := 4) (k := (H6 v29)) (nm := 12) he (by kernel_rfl) (by kernel_rfl) (fun x => by kernel_rfl) (by kernel_rfl) (by kernel_rfl) rfl rfl rfl (zk 1 (bT (dI (zv [(0,0),(12,1),(2,2)] [0,5,6,7,8,10] 3) (hj33 _ _ _ h))))))))
 exact aJ zI (bF (hj19 _ _ _ h))
 refine za [0,5,6,7,8,9] (aI (bB (fun n s => ∃ v6 v7 v8 v9,mW j3 y1 y2 n v6 v7 v8 v9 = some r ∧ s = mk [G7,A7 5 y1.1,(6,.c (bV)),A7 7 y2.1,L7 8 1 v6,A7 9 v7] [A6 v8 v9,C1 1 21 1 v6] 2) n _ (dZ.trans (mB (L2 := [G7,A7 5 y1.1,(6,.c (bV)),A7 7 y2.1,(8,.c (.app 13 (List.map pU ([] : List Int)))),I4 9]) (G2 := [D9 y2.2,(13,.tok 21 1 (List.length ([] : List Int)))]) (lim2 := 14) 8 21 1 (by kernel_rfl) (by kernel_rfl) (by kernel_rfl) (by kernel_rfl)) (zv [(0,0),(13,1)] [0,5,6,7,8,9] 2)) ⟨_,_,_,_,h,rfl⟩ (fun s ⟨v6,v7,v8,v9,h,_⟩ => nomatch h) ?_))
 rintro n s ⟨v6,v7,v8,v9,h,rfl⟩
 rw [mW] at h
 refine aM (za [0,5,6,7,8,9,18] (zi h (fun h => ?_) fun h => ?_))
 exact aD (aM (aI (zy fun _ => zk 2 (bK h fun y10 he h => zo [(0,0)] fok133 (Ev n _ y10 he) (zk 1 (bK h fun l11 he h => cI (enc := pU) (l := v6) (els := [y10.1]) (r := l11) (old := some 1) (e := 21) (sz := 1) (bytes := 4) (k := (H6 v6)) (nm := 8) he (by kernel_rfl) (by kernel_rfl) (fun x => by kernel_rfl) (by kernel_rfl) (by kernel_rfl) rfl rfl rfl (zk 1 (bT (aV (zb (dI (zv [(0,0),(8,1)] [0,5,6,7,8,9] 2) (⟨_,_,_,_,h,rfl⟩))))))))))))
 exact aJ zI (bF (hj3 _ _ _ h))
def uV (n : Nat) (p0 : aW) (p1 : (List Int)) : Option ((List Int) × aW) := (Da (runesBytes p1)).bind fun l1 => some (l1,p0)
theorem Nq (n : Nat) (p0 : aW) (p1 : (K4)) (r : ((K4) × aW)) (h : uV n p0 p1 = some r) : dC E 119 1 [D6 0 0,.c (Q7 p1)] [D9 p0] (.c (Q7 r.1)) [D9 r.2] := by
 refine eO Tryz.func119 rfl ?_
 unfold uV at h
 refine za [1] (zx fun _ => zk 1 (zw (v := .c (Sx (runesBytes p1))) [] (tU (ns := p1) (by kernel_rfl)) (bK h fun l1 he h => rx_O (v := .c (Q7 l1)) (foot := []) (Mg (s := (runesBytes p1)) he (by kernel_rfl)) (by kernel_rfl) rfl rfl (zk 1 (ze [4] ?_)))))
 cases h
 exact aG zr
def lK (j37 : List Int → Int → List aP → Option ((List bJ) × aW)) (p1 : Int) (v32 : List bJ) : Nat → Int → List Int → Int → List aP → Option ((List bJ) × aW)
 | 0,_,_,_,_ => none
 | n + 1,v46,v47,v48,v49 => (if (decide (v46 > 0)) = true then (cF n (aW.mk v47 v48) 6).bind fun y50 => (idx [0,0,30,50,(-1 : Int),(-2 : Int)] y50.1).bind fun e51 => (lC n e51).bind fun y52 => (pA 56 v49 [y52]).bind fun l53 => lK j37 p1 v32 n (w6 (v46 - 1)) y50.2.L y50.2.At l53 else j37 v47 v48 v49)
def rX (n : Nat) (p0 : aW) (p1 : Int) : Option ((List bJ) × aW) := (aS (fun (v7 : List bJ) (v8 : List Int) (v9 : Int) => (aS (fun (v16 : List bJ) (v17 : List Int) (v18 : Int) => (aS (fun (v24 : List bJ) (v25 : List Int) (v26 : Int) => (aS (fun (v32 : List bJ) (v33 : List Int) (v34 : Int) => (aS (fun (v65 : List bJ) (v66 : List Int) (v67 : Int) => (aS (fun (v73 : List bJ) (v74 : List Int) (v75 : Int) => (aS (fun (v81 : List bJ) (v82 : List Int) (v83 : Int) => (aS (fun (v89 : List bJ) (v90 : List Int) (v91 : Int) => (aS (fun (v98 : List bJ) (v99 : List Int) (v100 : Int) => (aS (fun (v105 : List bJ) (v106 : List Int) (v107 : Int) => (aS (fun (v113 : List bJ) (v114 : List Int) (v115 : Int) => (aS (fun (v121 : List bJ) (v122 : List Int) (v123 : Int) => (aS (fun (v130 : List bJ) (v131 : List Int) (v132 : Int) => (aS (fun (v138 : List bJ) (v139 : List Int) (v140 : Int) => (aS (fun (v146 : List bJ) (v147 : List Int) (v148 : Int) => some (v146,(aW.mk v147 v148))) (fun (j141 : List bJ → List Int → Int → Option ((List bJ) × aW)) => (ifO [(!((p1 == 5) || (p1 == 13)))] (cF n (aW.mk v139 v140) 9) ((default : Int),(aW.mk v139 v140))).bind fun y142 => (if (((p1 == 5) || (p1 == 13)) || (y142.1 == 0)) = true then (cF n y142.2 90).bind fun y143 => (lC n y143.1).bind fun y144 => (pA 72 v138 [(bJ.mk (⟨#[119,105,100,116,104]⟩ : ByteArray) y144)]).bind fun l145 => j141 l145 y143.2.L y143.2.At else j141 v138 y142.2.L y142.2.At)))) (fun (j133 : List bJ → List Int → Int → Option ((List bJ) × aW)) => (cF n (aW.mk v131 v132) 8).bind fun y134 => (if (y134.1 == 0) = true then (cF n y134.2 5).bind fun y135 => (lC n y135.1).bind fun y136 => (pA 72 v130 [(bJ.mk (⟨#[116,117,114,110]⟩ : ByteArray) y136)]).bind fun l137 => j133 l137 y135.2.L y135.2.At else j133 v130 y134.2.L y134.2.At)))) (fun (j124 : List bJ → List Int → Int → Option ((List bJ) × aW)) => (cF n (aW.mk v122 v123) 2).bind fun y125 => (if (y125.1 == 0) = true then (wY n y125.2 8).bind fun y126 => (uV n y126.2 y126.1).bind fun y127 => (qB n (runesBytes y127.1)).bind fun y128 => (pA 72 v121 [(bJ.mk (⟨#[116,101,120,116]⟩ : ByteArray) y128)]).bind fun l129 => j124 l129 y127.2.L y127.2.At else j124 v121 y125.2.L y125.2.At)))) (fun (j116 : List bJ → List Int → Int → Option ((List bJ) × aW)) => (cF n (aW.mk v114 v115) 6).bind fun y117 => (if (y117.1 == 0) = true then (cF n y117.2 4).bind fun y118 => (lC n y118.1).bind fun y119 => (pA 72 v113 [(bJ.mk (⟨#[115,112,97,110]⟩ : ByteArray) y119)]).bind fun l120 => j116 l120 y118.2.L y118.2.At else j116 v113 y117.2.L y117.2.At)))) (fun (j108 : List bJ → List Int → Int → Option ((List bJ) × aW)) => (cF n (aW.mk v106 v107) 8).bind fun y109 => (if (y109.1 == 0) = true then (cF n y109.2 4).bind fun y110 => (lC n y110.1).bind fun y111 => (pA 72 v105 [(bJ.mk (⟨#[115,99,97,108,101]⟩ : ByteArray) y111)]).bind fun l112 => j108 l112 y110.2.L y110.2.At else j108 v105 y109.2.L y109.2.At)))) (fun (j101 : List bJ → List Int → Int → Option ((List bJ) × aW)) => (cF n (aW.mk v99 v100) 6).bind fun y102 => (if (y102.1 == 0) = true then (sD n 1).bind fun y103 => (pA 72 v98 [(bJ.mk (⟨#[112,105,110,110,101,100]⟩ : ByteArray) y103)]).bind fun l104 => j101 l104 y102.2.L y102.2.At else j101 v98 y102.2.L y102.2.At)))) (fun (j92 : List bJ → List Int → Int → Option ((List bJ) × aW)) => (cF n (aW.mk v90 v91) 6).bind fun y93 => (if (y93.1 == 0) = true then (cF n y93.2 6).bind fun y94 => (Xd (⟨#[107]⟩ : ByteArray) (dQ [(IntKind.wrap .u8 (w6 (97 + y94.1)))])).bind fun s95 => (qB n s95).bind fun y96 => (pA 72 v89 [(bJ.mk (⟨#[108,101,102,116]⟩ : ByteArray) y96)]).bind fun l97 => j92 l97 y94.2.L y94.2.At else j92 v89 y93.2.L y93.2.At)))) (fun (j84 : List bJ → List Int → Int → Option ((List bJ) × aW)) => (cF n (aW.mk v82 v83) 12).bind fun y85 => (if (y85.1 == 0) = true then (cF n y85.2 2).bind fun y86 => (sD n y86.1).bind fun y87 => (pA 72 v81 [(bJ.mk (⟨#[104,105,100,100,101,110]⟩ : ByteArray) y87)]).bind fun l88 => j84 l88 y86.2.L y86.2.At else j84 v81 y85.2.L y85.2.At)))) (fun (j76 : List bJ → List Int → Int → Option ((List bJ) × aW)) => (ifO [(!((p1 == 5) || (p1 == 13)))] (cF n (aW.mk v74 v75) 9) ((default : Int),(aW.mk v74 v75))).bind fun y77 => (if (((p1 == 5) || (p1 == 13)) || (y77.1 == 0)) = true then (cF n y77.2 60).bind fun y78 => (lC n y78.1).bind fun y79 => (pA 72 v73 [(bJ.mk (⟨#[104,101,105,103,104,116]⟩ : ByteArray) y79)]).bind fun l80 => j76 l80 y78.2.L y78.2.At else j76 v73 y77.2.L y77.2.At)))) (fun (j68 : List bJ → List Int → Int → Option ((List bJ) × aW)) => (cF n (aW.mk v66 v67) 9).bind fun y69 => (if (y69.1 == 0) = true then (cF n y69.2 2).bind fun y70 => (sD n y70.1).bind fun y71 => (pA 72 v65 [(bJ.mk (⟨#[100,105,115,97,98,108,101,100]⟩ : ByteArray) y71)]).bind fun l72 => j68 l72 y70.2.L y70.2.At else j68 v65 y69.2.L y69.2.At)))) (fun (j35 : List bJ → List Int → Int → Option ((List bJ) × aW)) => (cF n (aW.mk v33 v34) 4).bind fun y36 => (if (y36.1 == 0) = true then (aS (fun (v61 : List Int) (v62 : Int) (v63 : List aP) => (pA 72 v32 [(bJ.mk (⟨#[99,111,108,117,109,110,115]⟩ : ByteArray) (aP.mk 4 0 nB v63))]).bind fun l64 => j35 l64 v61 v62) (fun (j37 : List Int → Int → List aP → Option ((List bJ) × aW)) => (oR n y36.2 1 3).bind fun y38 => lK j37 p1 v32 n y38.1 y38.2.L y38.2.At ([] : List aP))) else j35 v32 y36.2.L y36.2.At)))) (fun (j27 : List bJ → List Int → Int → Option ((List bJ) × aW)) => (cF n (aW.mk v25 v26) 3).bind fun y28 => (if (y28.1 == 0) = true then (oZ n y28.2).bind fun y29 => (qB n y29.1).bind fun y30 => (pA 72 v24 [(bJ.mk (⟨#[99,108,97,115,115]⟩ : ByteArray) y30)]).bind fun l31 => j27 l31 y29.2.L y29.2.At else j27 v24 y28.2.L y28.2.At)))) (fun (j19 : List bJ → List Int → Int → Option ((List bJ) × aW)) => (cF n (aW.mk v17 v18) 9).bind fun y20 => (if (y20.1 == 0) = true then (cF n y20.2 2).bind fun y21 => (sD n y21.1).bind fun y22 => (pA 72 v16 [(bJ.mk (⟨#[99,104,101,99,107,101,100]⟩ : ByteArray) y22)]).bind fun l23 => j19 l23 y21.2.L y21.2.At else j19 v16 y20.2.L y20.2.At)))) (fun (j10 : List bJ → List Int → Int → Option ((List bJ) × aW)) => (cF n (aW.mk v8 v9) 9).bind fun y11 => (if (y11.1 == 0) = true then (cF n y11.2 6).bind fun y12 => (Xd (⟨#[107]⟩ : ByteArray) (dQ [(IntKind.wrap .u8 (w6 (97 + y12.1)))])).bind fun s13 => (qB n s13).bind fun y14 => (pA 72 v7 [(bJ.mk (⟨#[97,108,105,103,110,108,101,102,116]⟩ : ByteArray) y14)]).bind fun l15 => j10 l15 y12.2.L y12.2.At else j10 v7 y11.2.L y11.2.At)))) (fun (j1 : List bJ → List Int → Int → Option ((List bJ) × aW)) => (cF n p0 6).bind fun y2 => (if (y2.1 == 0) = true then (cF n y2.2 6).bind fun y3 => (Xd (⟨#[107]⟩ : ByteArray) (dQ [(IntKind.wrap .u8 (w6 (97 + y3.1)))])).bind fun s4 => (qB n s4).bind fun y5 => (pA 72 ([] : List bJ) [(bJ.mk (⟨#[97,98,111,118,101]⟩ : ByteArray) y5)]).bind fun l6 => j1 l6 y3.2.L y3.2.At else j1 ([] : List bJ) y2.2.L y2.2.At)))
theorem Aw (n : Nat) (p0 : aW) (p1 : Int) (r : ((List bJ) × aW)) (h : rX n p0 p1 = some r) : dC E 96 1 (Q6 p1) [D9 p0] (R5 r.1) [D9 r.2] := by
 refine eO Tryz.func96 rfl ?_
 unfold rX at h
 refine za [0,1] (za [0,1,5] (aR h (fun A j => ∀ v7 v8 v9,j v7 v8 v9 = some r → A (mk [G7,A7 1 p1,F4 v7] [A6 v8 v9,C1 1 172 5 v7] 2)) (fun v7 v8 v9 h => ?_) (fun j1 Aj1 hj1 h => ?_)))
 refine aR h (fun A j => ∀ v16 v17 v18,j v16 v17 v18 = some r → A (mk [G7,A7 1 p1,F4 v16] [A6 v17 v18,C1 1 172 5 v16] 2)) (fun v16 v17 v18 h => ?_) (fun j10 Aj10 hj10 h => ?_)
 refine aR h (fun A j => ∀ v24 v25 v26,j v24 v25 v26 = some r → A (mk [G7,A7 1 p1,F4 v24] [A6 v25 v26,C1 1 172 5 v24] 2)) (fun v24 v25 v26 h => ?_) (fun j19 Aj19 hj19 h => ?_)
 refine aR h (fun A j => ∀ v32 v33 v34,j v32 v33 v34 = some r → A (mk [G7,A7 1 p1,F4 v32] [A6 v33 v34,C1 1 172 5 v32] 2)) (fun v32 v33 v34 h => ?_) (fun j27 Aj27 hj27 h => ?_)
 refine aR h (fun A j => ∀ v65 v66 v67,j v65 v66 v67 = some r → A (mk [G7,A7 1 p1,F4 v65] [A6 v66 v67,C1 1 172 5 v65] 2)) (fun v65 v66 v67 h => ?_) (fun j35 Aj35 hj35 h => ?_)
 refine aR h (fun A j => ∀ v73 v74 v75,j v73 v74 v75 = some r → A (mk [G7,A7 1 p1,F4 v73] [A6 v74 v75,C1 1 172 5 v73] 2)) (fun v73 v74 v75 h => ?_) (fun j68 Aj68 hj68 h => ?_)
 refine aR h (fun A j => ∀ v81 v82 v83,j v81 v82 v83 = some r → A (mk [G7,A7 1 p1,F4 v81] [A6 v82 v83,C1 1 172 5 v81] 2)) (fun v81 v82 v83 h => ?_) (fun j76 Aj76 hj76 h => ?_)
 refine aR h (fun A j => ∀ v89 v90 v91,j v89 v90 v91 = some r → A (mk [G7,A7 1 p1,F4 v89] [A6 v90 v91,C1 1 172 5 v89] 2)) (fun v89 v90 v91 h => ?_) (fun j84 Aj84 hj84 h => ?_)
 refine aR h (fun A j => ∀ v98 v99 v100,j v98 v99 v100 = some r → A (mk [G7,A7 1 p1,F4 v98] [A6 v99 v100,C1 1 172 5 v98] 2)) (fun v98 v99 v100 h => ?_) (fun j92 Aj92 hj92 h => ?_)
 refine aR h (fun A j => ∀ v105 v106 v107,j v105 v106 v107 = some r → A (mk [G7,A7 1 p1,F4 v105] [A6 v106 v107,C1 1 172 5 v105] 2)) (fun v105 v106 v107 h => ?_) (fun j101 Aj101 hj101 h => ?_)
 refine aR h (fun A j => ∀ v113 v114 v115,j v113 v114 v115 = some r → A (mk [G7,A7 1 p1,F4 v113] [A6 v114 v115,C1 1 172 5 v113] 2)) (fun v113 v114 v115 h => ?_) (fun j108 Aj108 hj108 h => ?_)
 refine aR h (fun A j => ∀ v121 v122 v123,j v121 v122 v123 = some r → A (mk [G7,A7 1 p1,F4 v121] [A6 v122 v123,C1 1 172 5 v121] 2)) (fun v121 v122 v123 h => ?_) (fun j116 Aj116 hj116 h => ?_)
 refine aR h (fun A j => ∀ v130 v131 v132,j v130 v131 v132 = some r → A (mk [G7,A7 1 p1,F4 v130] [A6 v131 v132,C1 1 172 5 v130] 2)) (fun v130 v131 v132 h => ?_) (fun j124 Aj124 hj124 h => ?_)
 refine aR h (fun A j => ∀ v138 v139 v140,j v138 v139 v140 = some r → A (mk [G7,A7 1 p1,F4 v138] [A6 v139 v140,C1 1 172 5 v138] 2)) (fun v138 v139 v140 h => ?_) (fun j133 Aj133 hj133 h => ?_)
 refine aR h (fun A j => ∀ v146 v147 v148,j v146 v147 v148 = some r → A (mk [F4 v146] [A6 v147 v148,C1 1 172 5 v146] 2)) (fun v146 v147 v148 h => ?_) (fun j141 Aj141 hj141 h => ?_)
 refine za [4] ?_
 cases h
 exact aG zr
 refine zx fun _ => zk 3 (zq (zq (zp (zk 1 (zq (bK h fun y142 he h => yQ (e := [!((p1 == 5) || (p1 == 13))]) [(195,D6 0 0,some 1)] (F := 15) (As := [D6 0 0,.c (I 9)]) (Bs := [D6 0 0,.c (I 9)]) (σ := [(0,0)]) (k := 1) (Gc := [A6 v139 v140]) (Gf := [D9 y142.2]) (r := .c (I y142.1)) (v := .c (I y142.1)) (by kernel_rfl) (by kernel_rfl) (by kernel_rfl) (by kernel_rfl) (by kernel_rfl) (by kernel_rfl) cK ⟨.inr ⟨(by kernel_rfl),(by kernel_rfl)⟩,⟨.inl (by kernel_rfl),trivial⟩⟩ (fun hg => bI n _ _ y142 (Vw he hg)) (by kernel_rfl) (by kernel_rfl) (by kernel_rfl) (fun hg => by rw [Vg he hg]; kernel_rfl) (by kernel_rfl) rfl rfl rfl (zq (zp (ze [0,5,198] (zi h (fun h => ?_) fun h => ?_))))))))))
 exact aV (zy fun _ => zk 2 (bK h fun y143 he h => zo [(0,0)] cK (bI n _ _ y143 he) (bK h fun y144 he h => zc Dj (kW n _ y144 he) (zk 2 (bK h fun l145 he h => cI (enc := aF) (l := v138) (els := [(bJ.mk (⟨#[119,105,100,116,104]⟩ : ByteArray) y144)]) (r := l145) (old := some 1) (e := 172) (sz := 5) (bytes := 72) (k := (H6 v138)) (nm := 19) he (by kernel_rfl) (by kernel_rfl) (fun x => by kernel_rfl) (by kernel_rfl) (by kernel_rfl) rfl rfl rfl (zk 1 (bT (dI (zv [(0,0),(19,1)] [5] 2) (hj141 _ _ _ h)))))))))
 exact aJ zI (aD (hj141 _ _ _ h))
 refine zx fun _ => zk 1 (bK h fun y134 he h => zo [(0,0)] cK (bI n _ _ y134 he) (zk 1 (ze [0,1,5,180] (zi h (fun h => ?_) fun h => ?_))))
 exact aV (zy fun _ => zk 2 (bK h fun y135 he h => zo [(0,0)] cK (bI n _ _ y135 he) (bK h fun y136 he h => zc Dj (kW n _ y136 he) (zk 2 (bK h fun l137 he h => cI (enc := aF) (l := v130) (els := [(bJ.mk (⟨#[116,117,114,110]⟩ : ByteArray) y136)]) (r := l137) (old := some 1) (e := 172) (sz := 5) (bytes := 72) (k := (H6 v130)) (nm := 11) he (by kernel_rfl) (by kernel_rfl) (fun x => by kernel_rfl) (by kernel_rfl) (by kernel_rfl) rfl rfl rfl (zk 1 (bT (dI (zv [(0,0),(11,1)] [0,1,5] 2) (hj133 _ _ _ h)))))))))
 exact aJ zI (aD (hj133 _ _ _ h))
 refine zx fun _ => zk 1 (bK h fun y125 he h => zo [(0,0)] cK (bI n _ _ y125 he) (zk 1 (ze [0,1,5,167] (zi h (fun h => ?_) fun h => ?_))))
 exact aV (zy fun _ => zk 3 (bK h fun y126 he h => zo [(0,0)] fok120 (Rf n _ _ y126 he) (bK h fun y127 he h => zo [(0,0)] fok119 (Nq n _ _ y127 he) (zw (v := .c (Sx (runesBytes y127.1))) [] (tU (ns := y127.1) (by kernel_rfl)) (bK h fun y128 he h => zc Hu (oW n _ y128 he) (zk 2 (bK h fun l129 he h => cI (enc := aF) (l := v121) (els := [(bJ.mk (⟨#[116,101,120,116]⟩ : ByteArray) y128)]) (r := l129) (old := some 1) (e := 172) (sz := 5) (bytes := 72) (k := (H6 v121)) (nm := 14) he (by kernel_rfl) (by kernel_rfl) (fun x => by kernel_rfl) (by kernel_rfl) (by kernel_rfl) rfl rfl rfl (zk 1 (bT (dI (zv [(0,0),(14,1)] [0,1,5] 2) (hj124 _ _ _ h)))))))))))
 exact aJ zI (aD (hj124 _ _ _ h))
 refine zx fun _ => zk 1 (bK h fun y117 he h => zo [(0,0)] cK (bI n _ _ y117 he) (zk 1 (ze [0,1,5,157] (zi h (fun h => ?_) fun h => ?_))))
 exact aV (zy fun _ => zk 2 (bK h fun y118 he h => zo [(0,0)] cK (bI n _ _ y118 he) (bK h fun y119 he h => zc Dj (kW n _ y119 he) (zk 2 (bK h fun l120 he h => cI (enc := aF) (l := v113) (els := [(bJ.mk (⟨#[115,112,97,110]⟩ : ByteArray) y119)]) (r := l120) (old := some 1) (e := 172) (sz := 5) (bytes := 72) (k := (H6 v113)) (nm := 11) he (by kernel_rfl) (by kernel_rfl) (fun x => by kernel_rfl) (by kernel_rfl) (by kernel_rfl) rfl rfl rfl (zk 1 (bT (dI (zv [(0,0),(11,1)] [0,1,5] 2) (hj116 _ _ _ h)))))))))
 exact aJ zI (aD (hj116 _ _ _ h))
 refine zx fun _ => zk 1 (bK h fun y109 he h => zo [(0,0)] cK (bI n _ _ y109 he) (zk 1 (ze [0,1,5,147] (zi h (fun h => ?_) fun h => ?_))))
 exact aV (zy fun _ => zk 2 (bK h fun y110 he h => zo [(0,0)] cK (bI n _ _ y110 he) (bK h fun y111 he h => zc Dj (kW n _ y111 he) (zk 2 (bK h fun l112 he h => cI (enc := aF) (l := v105) (els := [(bJ.mk (⟨#[115,99,97,108,101]⟩ : ByteArray) y111)]) (r := l112) (old := some 1) (e := 172) (sz := 5) (bytes := 72) (k := (H6 v105)) (nm := 11) he (by kernel_rfl) (by kernel_rfl) (fun x => by kernel_rfl) (by kernel_rfl) (by kernel_rfl) rfl rfl rfl (zk 1 (bT (dI (zv [(0,0),(11,1)] [0,1,5] 2) (hj108 _ _ _ h)))))))))
 exact aJ zI (aD (hj108 _ _ _ h))
 refine zx fun _ => zk 1 (bK h fun y102 he h => zo [(0,0)] cK (bI n _ _ y102 he) (zk 1 (ze [0,1,5,139] (zi h (fun h => ?_) fun h => ?_))))
 exact aV (zy fun _ => zk 1 (bK h fun y103 he h => zc Nu (rT n _ y103 he) (zk 2 (bK h fun l104 he h => cI (enc := aF) (l := v98) (els := [(bJ.mk (⟨#[112,105,110,110,101,100]⟩ : ByteArray) y103)]) (r := l104) (old := some 1) (e := 172) (sz := 5) (bytes := 72) (k := (H6 v98)) (nm := 9) he (by kernel_rfl) (by kernel_rfl) (fun x => by kernel_rfl) (by kernel_rfl) (by kernel_rfl) rfl rfl rfl (zk 1 (bT (dI (zv [(0,0),(9,1)] [0,1,5] 2) (hj101 _ _ _ h))))))))
 exact aJ zI (aD (hj101 _ _ _ h))
 refine zx fun _ => zk 1 (bK h fun y93 he h => zo [(0,0)] cK (bI n _ _ y93 he) (zk 1 (ze [0,1,5,124] (zi h (fun h => ?_) fun h => ?_))))
 exact aV (zy fun _ => zk 2 (bK h fun y94 he h => zo [(0,0)] cK (bI n _ _ y94 he) (zk 3 (zw (v := .c (Sx (dQ [IntKind.wrap .u8 (w6 (97 + y94.1))]))) [] (nV (ns := [IntKind.wrap .u8 (w6 (97 + y94.1))]) (by kernel_rfl)) (bK h fun s95 he h => zw (v := .c (Sx s95)) [] (Nf (p := (⟨#[107]⟩ : ByteArray)) (q := (dQ [IntKind.wrap .u8 (w6 (97 + y94.1))])) he (by kernel_rfl)) (bK h fun y96 he h => zc Hu (oW n _ y96 he) (zk 2 (bK h fun l97 he h => cI (enc := aF) (l := v89) (els := [(bJ.mk (⟨#[108,101,102,116]⟩ : ByteArray) y96)]) (r := l97) (old := some 1) (e := 172) (sz := 5) (bytes := 72) (k := (H6 v89)) (nm := 16) he (by kernel_rfl) (by kernel_rfl) (fun x => by kernel_rfl) (by kernel_rfl) (by kernel_rfl) rfl rfl rfl (zk 1 (bT (dI (zv [(0,0),(16,1)] [0,1,5] 2) (hj92 _ _ _ h))))))))))))
 exact aJ zI (aD (hj92 _ _ _ h))
 refine zx fun _ => zk 1 (bK h fun y85 he h => zo [(0,0)] cK (bI n _ _ y85 he) (zk 1 (ze [0,1,5,114] (zi h (fun h => ?_) fun h => ?_))))
 exact aV (zy fun _ => zk 2 (bK h fun y86 he h => zo [(0,0)] cK (bI n _ _ y86 he) (bK h fun y87 he h => zc Nu (rT n _ y87 he) (zk 2 (bK h fun l88 he h => cI (enc := aF) (l := v81) (els := [(bJ.mk (⟨#[104,105,100,100,101,110]⟩ : ByteArray) y87)]) (r := l88) (old := some 1) (e := 172) (sz := 5) (bytes := 72) (k := (H6 v81)) (nm := 11) he (by kernel_rfl) (by kernel_rfl) (fun x => by kernel_rfl) (by kernel_rfl) (by kernel_rfl) rfl rfl rfl (zk 1 (bT (dI (zv [(0,0),(11,1)] [0,1,5] 2) (hj84 _ _ _ h)))))))))
 exact aJ zI (aD (hj84 _ _ _ h))
 refine zx fun _ => zk 3 (zq (zq (zp (zk 1 (zq (bK h fun y77 he h => yQ (e := [!((p1 == 5) || (p1 == 13))]) [(101,D6 0 0,some 1)] (F := 15) (As := [D6 0 0,.c (I 9)]) (Bs := [D6 0 0,.c (I 9)]) (σ := [(0,0)]) (k := 1) (Gc := [A6 v74 v75]) (Gf := [D9 y77.2]) (r := .c (I y77.1)) (v := .c (I y77.1)) (by kernel_rfl) (by kernel_rfl) (by kernel_rfl) (by kernel_rfl) (by kernel_rfl) (by kernel_rfl) cK ⟨.inr ⟨(by kernel_rfl),(by kernel_rfl)⟩,⟨.inl (by kernel_rfl),trivial⟩⟩ (fun hg => bI n _ _ y77 (Vw he hg)) (by kernel_rfl) (by kernel_rfl) (by kernel_rfl) (fun hg => by rw [Vg he hg]; kernel_rfl) (by kernel_rfl) rfl rfl rfl (zq (zp (ze [0,1,5,104] (zi h (fun h => ?_) fun h => ?_))))))))))
 exact aV (zy fun _ => zk 2 (bK h fun y78 he h => zo [(0,0)] cK (bI n _ _ y78 he) (bK h fun y79 he h => zc Dj (kW n _ y79 he) (zk 2 (bK h fun l80 he h => cI (enc := aF) (l := v73) (els := [(bJ.mk (⟨#[104,101,105,103,104,116]⟩ : ByteArray) y79)]) (r := l80) (old := some 1) (e := 172) (sz := 5) (bytes := 72) (k := (H6 v73)) (nm := 19) he (by kernel_rfl) (by kernel_rfl) (fun x => by kernel_rfl) (by kernel_rfl) (by kernel_rfl) rfl rfl rfl (zk 1 (bT (dI (zv [(0,0),(19,1)] [0,1,5] 2) (hj76 _ _ _ h)))))))))
 exact aJ zI (aD (hj76 _ _ _ h))
 refine zx fun _ => zk 1 (bK h fun y69 he h => zo [(0,0)] cK (bI n _ _ y69 he) (zk 1 (ze [0,1,5,86] (zi h (fun h => ?_) fun h => ?_))))
 exact aV (zy fun _ => zk 2 (bK h fun y70 he h => zo [(0,0)] cK (bI n _ _ y70 he) (bK h fun y71 he h => zc Nu (rT n _ y71 he) (zk 2 (bK h fun l72 he h => cI (enc := aF) (l := v65) (els := [(bJ.mk (⟨#[100,105,115,97,98,108,101,100]⟩ : ByteArray) y71)]) (r := l72) (old := some 1) (e := 172) (sz := 5) (bytes := 72) (k := (H6 v65)) (nm := 11) he (by kernel_rfl) (by kernel_rfl) (fun x => by kernel_rfl) (by kernel_rfl) (by kernel_rfl) rfl rfl rfl (zk 1 (bT (dI (zv [(0,0),(11,1)] [0,1,5] 2) (hj68 _ _ _ h)))))))))
 exact aJ zI (aD (hj68 _ _ _ h))
 refine zx fun _ => zk 1 (bK h fun y36 he h => zo [(0,0)] cK (bI n _ _ y36 he) (zk 1 (ze [0,1,5,60] (zi h (fun h => ?_) fun h => ?_))))
 refine za [0,1,5,6] (aR h (fun A j => ∀ v61 v62 v63,j v61 v62 v63 = some r → A (mk [G7,A7 1 p1,F4 v32,O5] [A6 v61 v62,C1 1 172 5 v32,I9 2 152 3 v63,C1 3 152 4 v63] 4)) (fun v61 v62 v63 h => ?_) (fun j37 Aj37 hj37 h => ?_))
 exact aV (zy fun _ => zk 4 (bK h fun l64 he h => cI (enc := aF) (l := v32) (els := [(bJ.mk (⟨#[99,111,108,117,109,110,115]⟩ : ByteArray) (aP.mk 4 0 nB v63))]) (r := l64) (old := some 1) (e := 172) (sz := 5) (bytes := 72) (k := (H6 v32)) (nm := 8) he (by kernel_rfl) (by kernel_rfl) (fun x => by kernel_rfl) (by kernel_rfl) (by kernel_rfl) rfl rfl rfl (zk 1 (bT (dI (zv [(0,0),(8,1)] [0,1,5] 2) (hj35 _ _ _ h))))))
 refine zx fun _ => zk 1 (bK h fun y38 he h => zo [(0,0)] Vy (rK n _ _ _ y38 he) (zk 1 (ze [0,1,5,6,7] (aI (bB (fun n s => ∃ v46 v47 v48 v49,lK j37 p1 v32 n v46 v47 v48 v49 = some r ∧ s = mk [G7,A7 1 p1,F4 v32,O5,A7 7 v46] [A6 v47 v48,C1 1 172 5 v32,I9 2 152 3 v49,C1 3 152 4 v49] 4) n _ (dZ.trans (lZ (n := 6) (T0 := 152) (l := [I 4,I 0,Sx nB,bV]) (G2 := [D9 y38.2,C1 1 172 5 v32,(6,.blk 152 [I 4,I 0,Sx nB,.app 11 (List.map aT ([] : List aP))]),(11,.tok 152 4 (List.length ([] : List aP)))]) (lim2 := 12) 3 152 4 (by kernel_rfl) (by kernel_rfl) (by kernel_rfl) (by kernel_rfl)) (zv [(0,0),(1,1),(6,2),(11,3)] [0,1,5,6,7] 4)) ⟨_,_,_,_,h,rfl⟩ (fun s ⟨v46,v47,v48,v49,h,_⟩ => nomatch h) ?_)))))
 rintro n s ⟨v46,v47,v48,v49,h,rfl⟩
 rw [lK] at h
 refine aM (za [0,1,5,6,7,65] (zi h (fun h => ?_) fun h => ?_))
 exact aD (aM (aI (Ov [[],[0],[],[],[3],[2,4,3],[5,2,4,3],[6,4,5,2,3],[7,6,4,5,2,3],[1,8,7,0,6,4,5,2,3],[0,1,2,3,4,5,6,7,8,9],[10,9,0,1,2,3,4,5,6,7,8]] fun _ => zk 4 (bK h fun y50 he h => zo [(0,0)] cK (bI n _ _ y50 he) (bK h fun e51 he h => zd aL he (zk 1 (bK h fun y52 he h => zc Dj (kW n _ y52 he) (rF (e := 152) (sz := 4) (len := 1) (r := [I y52.Kind,I y52.N,Sx y52.S,D8 y52.L]) (l' := List.map aT [y52]) (nm := 14) (by kernel_rfl) (by simp only [List.map_cons,List.map_nil,eE]; kernel_rfl) (by kernel_rfl) (by kernel_rfl) rfl rfl rfl (bK h fun l53 he h => cI (enc := aT) (l := v49) (els := [y52]) (r := l53) (old := some 3) (e := 152) (sz := 4) (bytes := 56) (k := (H6 v49)) (nm := 15) he (by kernel_rfl) (by kernel_rfl) (fun x => by rw [eE]; rfl) (by kernel_rfl) (by kernel_rfl) rfl rfl rfl (zk 2 (bT (aV (zb (dI (zv [(0,0),(1,1),(2,2),(15,3)] [0,1,5,6,7] 4) (⟨_,_,_,_,h,rfl⟩)))))))))))))))
 exact aJ zI (bF (hj37 _ _ _ h))
 exact aJ zI (aD (hj35 _ _ _ h))
 refine zx fun _ => zk 1 (bK h fun y28 he h => zo [(0,0)] cK (bI n _ _ y28 he) (zk 1 (ze [0,1,5,50] (zi h (fun h => ?_) fun h => ?_))))
 exact aV (zy fun _ => zk 2 (bK h fun y29 he h => zo [(0,0)] fok32 (xQ n _ y29 he) (bK h fun y30 he h => zc Hu (oW n _ y30 he) (zk 2 (bK h fun l31 he h => cI (enc := aF) (l := v24) (els := [(bJ.mk (⟨#[99,108,97,115,115]⟩ : ByteArray) y30)]) (r := l31) (old := some 1) (e := 172) (sz := 5) (bytes := 72) (k := (H6 v24)) (nm := 11) he (by kernel_rfl) (by kernel_rfl) (fun x => by kernel_rfl) (by kernel_rfl) (by kernel_rfl) rfl rfl rfl (zk 1 (bT (dI (zv [(0,0),(11,1)] [0,1,5] 2) (hj27 _ _ _ h)))))))))
 exact aJ zI (aD (hj27 _ _ _ h))
 refine zx fun _ => zk 1 (bK h fun y20 he h => zo [(0,0)] cK (bI n _ _ y20 he) (zk 1 (ze [0,1,5,40] (zi h (fun h => ?_) fun h => ?_))))
 exact aV (zy fun _ => zk 2 (bK h fun y21 he h => zo [(0,0)] cK (bI n _ _ y21 he) (bK h fun y22 he h => zc Nu (rT n _ y22 he) (zk 2 (bK h fun l23 he h => cI (enc := aF) (l := v16) (els := [(bJ.mk (⟨#[99,104,101,99,107,101,100]⟩ : ByteArray) y22)]) (r := l23) (old := some 1) (e := 172) (sz := 5) (bytes := 72) (k := (H6 v16)) (nm := 11) he (by kernel_rfl) (by kernel_rfl) (fun x => by kernel_rfl) (by kernel_rfl) (by kernel_rfl) rfl rfl rfl (zk 1 (bT (dI (zv [(0,0),(11,1)] [0,1,5] 2) (hj19 _ _ _ h)))))))))
 exact aJ zI (aD (hj19 _ _ _ h))
 refine zx fun _ => zk 1 (bK h fun y11 he h => zo [(0,0)] cK (bI n _ _ y11 he) (zk 1 (ze [0,1,5,25] (zi h (fun h => ?_) fun h => ?_))))
 exact aV (zy fun _ => zk 2 (bK h fun y12 he h => zo [(0,0)] cK (bI n _ _ y12 he) (zk 3 (zw (v := .c (Sx (dQ [IntKind.wrap .u8 (w6 (97 + y12.1))]))) [] (nV (ns := [IntKind.wrap .u8 (w6 (97 + y12.1))]) (by kernel_rfl)) (bK h fun s13 he h => zw (v := .c (Sx s13)) [] (Nf (p := (⟨#[107]⟩ : ByteArray)) (q := (dQ [IntKind.wrap .u8 (w6 (97 + y12.1))])) he (by kernel_rfl)) (bK h fun y14 he h => zc Hu (oW n _ y14 he) (zk 2 (bK h fun l15 he h => cI (enc := aF) (l := v7) (els := [(bJ.mk (⟨#[97,108,105,103,110,108,101,102,116]⟩ : ByteArray) y14)]) (r := l15) (old := some 1) (e := 172) (sz := 5) (bytes := 72) (k := (H6 v7)) (nm := 16) he (by kernel_rfl) (by kernel_rfl) (fun x => by kernel_rfl) (by kernel_rfl) (by kernel_rfl) rfl rfl rfl (zk 1 (bT (dI (zv [(0,0),(16,1)] [0,1,5] 2) (hj10 _ _ _ h))))))))))))
 exact aJ zI (aD (hj10 _ _ _ h))
 refine zx fun _ => zk 1 (bK h fun y2 he h => zo [(0,0)] cK (bI n _ _ y2 he) (zk 1 (ze [0,1,5,10] (zi h (fun h => ?_) fun h => ?_))))
 exact aV (zy fun _ => zk 2 (bK h fun y3 he h => zo [(0,0)] cK (bI n _ _ y3 he) (zk 3 (zw (v := .c (Sx (dQ [IntKind.wrap .u8 (w6 (97 + y3.1))]))) [] (nV (ns := [IntKind.wrap .u8 (w6 (97 + y3.1))]) (by kernel_rfl)) (bK h fun s4 he h => zw (v := .c (Sx s4)) [] (Nf (p := (⟨#[107]⟩ : ByteArray)) (q := (dQ [IntKind.wrap .u8 (w6 (97 + y3.1))])) he (by kernel_rfl)) (bK h fun y5 he h => zc Hu (oW n _ y5 he) (zk 2 (bK h fun l6 he h => cI (enc := aF) (l := ([] : List bJ)) (els := [(bJ.mk (⟨#[97,98,111,118,101]⟩ : ByteArray) y5)]) (r := l6) (old := none) (e := 172) (sz := 5) (bytes := 72) (k := 0) (nm := 17) he (by kernel_rfl) (by kernel_rfl) (fun x => by kernel_rfl) (by kernel_rfl) (by kernel_rfl) rfl rfl rfl (zk 1 (bT (dI (zv [(0,0),(17,1)] [0,1,5] 2) (hj1 _ _ _ h))))))))))))
 exact aJ (dZ.trans (mB (L2 := [G7,A7 1 p1,(5,.c (.app 6 (List.map aF ([] : List bJ)))),B4 10 (y2.1 == 0)]) (G2 := [D9 y2.2,(6,.tok 172 5 (List.length ([] : List bJ)))]) (lim2 := 7) 5 172 5 (by kernel_rfl) (by kernel_rfl) (by kernel_rfl) (by kernel_rfl)) (zv [(0,0),(6,1)] [0,1,5] 2)) (aD (hj1 _ _ _ h))
end Go.Proofs.YtojkihhnioeggaaGreatDoor.S
