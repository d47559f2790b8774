import Derived.Test.YtojkihhnioeggaaGreatDoorQCGM7
set_option linter.unusedVariables false
set_option linter.unusedSimpArgs false
set_option maxRecDepth 100000
set_option maxHeartbeats 4000000
namespace Go.Proofs.YtojkihhnioeggaaGreatDoor.S
open Go Go.Bm
def fS (e32 : bZ) (p0 : iP) (j28 : List (Int × bN) → Option (List (Int × bN))) (p1 : Int) (v26 : Int) : Nat → Int → List (Int × bN) → Option (List (Int × bN))
 | 0, _, _ => none
 | n + 1, v40, v41 => (if (decide (v40 < (List.length e32.Decls : Int))) = true then (aS (fun (v48 : List (Int × bN)) => fS e32 p0 j28 p1 v26 n (IntKind.wrap .i64 (v40 + 1)) v48) (fun (j42 : List (Int × bN) → Option (List (Int × bN))) => (idx e32.Decls v40).bind fun (e43 : bN) => (aS (fun (v47 : Int) => j42 (iU e43.Prop_ (bN.mk e43.Prop_ e43.Source v47 e43.Token) v41)) (fun (j44 : Int → Option (List (Int × bN))) => (if (e43.Source == 1) = true then (oH n p0.th p0.m e43.Token).bind fun (y45 : (Int × Bool)) => (gd [(!(!y45.2))] (dB n e43.Prop_ y45.1)).bind fun (y46 : Bool) => (if ((!y45.2) || (!y46)) = true then j42 v41 else j44 y45.1) else j44 e43.N))))) else j28 v41)
def fO (p0 : iP) (p1 : Int) (j1 : List (Int × bN) → Option (List (Int × bN))) : Nat → Int → List (Int × bN) → Option (List (Int × bN))
 | 0, _, _ => none
 | n + 1, v26, v27 => (if (decide (v26 < (List.length p0.order : Int))) = true then (aS (fun (v51 : List (Int × bN)) => fO p0 p1 j1 n (IntKind.wrap .i64 (v26 + 1)) v51) (fun (j28 : List (Int × bN) → Option (List (Int × bN))) => (idx p0.order v26).bind fun (e29 : Int) => (idx p0.rules e29).bind fun (e30 : bZ) => (lA n p0.shape e30 p1).bind fun (y31 : Bool) => (if (!y31) = true then j28 v27 else (idx p0.rules e29).bind fun (e32 : bZ) => fS e32 p0 j28 p1 v26 n 0 v27))) else j1 v27)
def lR  (n : Nat) (p0 : iP) (p1 : Int) : Option (List (Int × bN)) := (aS (fun (v54 : List (Int × bN)) => some v54) (fun (j1 : List (Int × bN) → Option (List (Int × bN))) => fO p0 p1 j1 n 0 ([] : List (Int × bN))))
theorem yP  (n : Nat) (p0 : iP) (p1 : Int) (r : (List (Int × bN))) (h : lR n p0 p1 = some r) : cW E 75 0 [.agg [C8 p0.shape.nodes, E2 p0.shape.class_, F1 p0.shape.states, C5 p0.rules, D4 p0.order, F8 p0.th.Tokens, Bo p0.m.Dark, Bo p0.m.High, I p0.m.Scale], B7 p1] [] (N2 r) [] := by
 refine eV Tryz.func75 rfl ?_
 unfold lR at h
 refine za [1, 2] ?_
 refine za [1, 2, 5] ?_
 refine aQ h (fun A j => ∀ v54, j v54 = some r → A (mk [F6 5 0] [(0, .map true (H0 v54))] 1)) (fun v54 h => ?_) (fun j1 Aj1 hj1 h => ?_)
 refine za [4] ?_
 refine aH (sP 0 (ag := true) (l := List.map (eM (B4) bI) v54) (L2 := [(4, N2 v54)]) (G2 := []) (by kernel_rfl) (by kernel_rfl) (by kernel_rfl)) ?_
 cases h
 exact aD zr
 refine zx fun _ => ?_
 refine zk 2 ?_
 refine zl aN p0.order ?_
 refine zk 1 ?_
 refine ze [1, 2, 5, 14, 15, 16] ?_
 refine aG ?_
 refine bA (fun n s => ∃ v26 v27, fO p0 p1 j1 n v26 v27 = some r ∧ s = mk [A6 1 p1, J0, F6 5 1, J6 14 p0.order, (15, .c (I (List.length p0.order : Int))), A6 16 v26] [F7 0 p0.shape p0.rules p0.order p0.th.Tokens p0.m, (1, .map true (H0 v27))] 2) n _ (zv [(0, 0), (2, 1)] [1, 2, 5, 14, 15, 16] 2) ⟨_, _, h, rfl⟩ (fun s ⟨v26, v27, h, _⟩ => nomatch h) ?_
 rintro n s ⟨v26, v27, h, rfl⟩
 rw [fO] at h
 refine za [1, 2, 5, 14, 15, 16, 17] ?_
 refine aI ?_
 refine zi h (fun h => ?_) fun h => ?_
 refine aB ?_
 refine aQ h (fun A j => ∀ v51, j v51 = some r → A (mk [A6 1 p1, J0, F6 5 1, J6 14 p0.order, (15, .c (I (List.length p0.order : Int))), A6 16 v26] [F7 0 p0.shape p0.rules p0.order p0.th.Tokens p0.m, (1, .map true (H0 v51))] 2)) (fun v51 h => ?_) (fun j28 Aj28 hj28 h => ?_)
 refine aW ?_
 refine zb ?_
 exact dF (zv [(0, 0), (1, 1)] [1, 2, 5, 14, 15, 16] 2) (⟨_, _, h, rfl⟩)
 refine aG ?_
 refine zx fun _ => ?_
 obtain ⟨e29, he, h⟩ := aC h
 refine zd aN he ?_
 clear he
 refine zk 2 ?_
 refine ze [1, 2, 5, 7, 14, 15, 16] ?_
 refine aI ?_
 refine xI [[], [0], [], [2], [], [3, 4, 2], [5, 3, 4, 2], [], [1, 6, 7, 0, 5, 3, 4, 2], [8, 1, 6, 7, 0, 5, 3, 4, 2]] fun _ => ?_
 refine zk 5 ?_
 obtain ⟨e30, he, h⟩ := aC h
 refine zd aY he ?_
 clear he
 refine zk 2 ?_
 obtain ⟨y31, he, h⟩ := aC h
 refine zc fok51 (Bx n _ _ _ y31 he) ?_
 clear he
 refine zk 1 ?_
 refine ze [1, 2, 5, 7, 14, 15, 16, 29] ?_
 refine zi h (fun h => ?_) fun h => ?_
 exact aH (zv [(0, 0), (1, 1)] [1, 2, 5, 14, 15, 16] 2) (bG (hj28 _ h))
 refine aB ?_
 refine zx fun _ => ?_
 refine zk 3 ?_
 obtain ⟨e32, he, h⟩ := aC h
 refine zd aY he ?_
 clear he
 refine zk 2 ?_
 refine zl bI e32.Decls ?_
 refine zk 1 ?_
 refine jY [1, 2, 5, 14, 15, 16, 35, 36, 37] (L2 := [A6 1 p1, J0, F6 5 1, J6 14 p0.order, (15, .c (I (List.length p0.order : Int))), A6 16 v26, K7 35 e32.Decls, (36, .c (I (List.length e32.Decls : Int))), I5 37]) (G2 := [F7 0 p0.shape p0.rules p0.order p0.th.Tokens p0.m, (1, .map true (H0 v27))]) 24 ?_
 refine aG ?_
 refine bA (fun n s => ∃ v40 v41, fS e32 p0 j28 p1 v26 n v40 v41 = some r ∧ s = mk [A6 1 p1, J0, F6 5 1, J6 14 p0.order, (15, .c (I (List.length p0.order : Int))), A6 16 v26, K7 35 e32.Decls, (36, .c (I (List.length e32.Decls : Int))), A6 37 v40] [F7 0 p0.shape p0.rules p0.order p0.th.Tokens p0.m, (1, .map true (H0 v41))] 2) n _ (zv [(0, 0), (1, 1)] [1, 2, 5, 14, 15, 16, 35, 36, 37] 2) ⟨_, _, h, rfl⟩ (fun s ⟨v40, v41, h, _⟩ => nomatch h) ?_
 rintro n s ⟨v40, v41, h, rfl⟩
 rw [fS] at h
 refine za [1, 2, 5, 14, 15, 16, 35, 36, 37, 38] ?_
 refine aI ?_
 refine zi h (fun h => ?_) fun h => ?_
 refine aB ?_
 refine aQ h (fun A j => ∀ v48, j v48 = some r → A (mk [A6 1 p1, J0, F6 5 1, J6 14 p0.order, (15, .c (I (List.length p0.order : Int))), A6 16 v26, K7 35 e32.Decls, (36, .c (I (List.length e32.Decls : Int))), A6 37 v40] [F7 0 p0.shape p0.rules p0.order p0.th.Tokens p0.m, (1, .map true (H0 v48))] 2)) (fun v48 h => ?_) (fun j42 Aj42 hj42 h => ?_)
 refine aW ?_
 refine zb ?_
 exact dF (zv [(0, 0), (1, 1)] [1, 2, 5, 14, 15, 16, 35, 36, 37] 2) (⟨_, _, h, rfl⟩)
 refine aG ?_
 refine zx fun _ => ?_
 obtain ⟨e43, he, h⟩ := aC h
 refine zd bI he ?_
 clear he
 refine zk 3 ?_
 refine ze [1, 2, 5, 9, 14, 15, 16, 35, 36, 37] ?_
 refine aQ h (fun A j => ∀ v47, j v47 = some r → A (mk [A6 1 p1, J0, F6 5 1, J6 14 p0.order, (15, .c (I (List.length p0.order : Int))), A6 16 v26, K7 35 e32.Decls, (36, .c (I (List.length e32.Decls : Int))), A6 37 v40, A1 9 2 0] [F7 0 p0.shape p0.rules p0.order p0.th.Tokens p0.m, (1, .map true (H0 v41)), (2, .blk 81 [I e43.Prop_, I e43.Source, I v47, Sx e43.Token])] 3)) (fun v47 h => ?_) (fun j44 Aj44 hj44 h => ?_)
 refine aW ?_
 refine zy fun _ => ?_
 refine zk 4 ?_
 refine lB (kf := (B4)) (enc := bI) (l := v41) (k := e43.Prop_) (v := (bN.mk e43.Prop_ e43.Source v47 e43.Token)) (n := 1) (ag := true) (kk := .int .i64) (by kernel_rfl) iD (by kernel_rfl) (by kernel_rfl) rfl rfl ?_
 refine bV ?_
 exact dF (zv [(0, 0), (1, 1)] [1, 2, 5, 14, 15, 16, 35, 36, 37] 2) (hj42 _ h)
 refine za [1, 2, 5, 9, 14, 15, 16, 35, 36, 37, 43] ?_
 refine zi h (fun h => ?_) fun h => ?_
 refine zx fun _ => ?_
 refine zk 6 ?_
 obtain ⟨y45, he, h⟩ := aC h
 refine zc fok105 (Cu n _ _ _ y45 he) ?_
 clear he
 refine zk 5 ?_
 refine ze [1, 2, 5, 9, 10, 11, 14, 15, 16, 35, 36, 37] ?_
 refine aI ?_
 refine zx fun _ => ?_
 refine zk 3 ?_
 refine zE (B9 5 0) ?_
 refine zE (B7 e43.Prop_) ?_
 refine zE (B7 y45.1) ?_
 obtain ⟨y46, he, h⟩ := aC h
 refine An [!(!y45.2)] fok21 (fun hg => tH n _ _ y46 (bR he hg)) ?_
 clear he
 refine zE (B3 (!y46)) ?_
 refine zP (.bool ((!y45.2) || (!y46))) ?_
 refine jY [1, 2, 5, 9, 10, 14, 15, 16, 35, 36, 37, 62] (L2 := [A6 1 p1, J0, F6 5 1, J6 14 p0.order, (15, .c (I (List.length p0.order : Int))), A6 16 v26, K7 35 e32.Decls, (36, .c (I (List.length e32.Decls : Int))), A6 37 v40, A1 9 5 0, A6 10 y45.1, (62, B3 ((!y45.2) || (!y46)))]) (G2 := [F7 0 p0.shape p0.rules p0.order p0.th.Tokens p0.m, (1, .map true (H0 v41)), (5, E3 e43)]) 31 ?_
 refine zi h (fun h => ?_) fun h => ?_
 exact aH (zv [(0, 0), (1, 1)] [1, 2, 5, 14, 15, 16, 35, 36, 37] 2) (bG (hj42 _ h))
 refine aB ?_
 refine aW ?_
 refine zb ?_
 exact dF (zv [(0, 0), (1, 1), (5, 2)] [1, 2, 5, 14, 15, 16, 35, 36, 37, 9] 3) (hj44 _ h)
 exact aH (zv [(0, 0), (1, 1), (5, 2)] [1, 2, 5, 14, 15, 16, 35, 36, 37, 9] 3) (aB (hj44 _ h))
 exact aH (zv [(0, 0), (1, 1)] [1, 2, 5, 14, 15, 16] 2) (bG (hj28 _ h))
 exact aH (zv [(1, 0)] [5] 1) (bG (hj1 _ h))
def gW  (n : Nat) (p0 : Int) : Option Bool := (iB n p0).bind fun (y1 : Bool) => (gd [y1] (idx aZ p0)).bind fun (e2 : cB) => some (y1 && e2.inherited)
theorem yE  (n : Nat) (p0 : Int) (r : Bool) (h : gW n p0 = some r) : cW E 76 0 [B7 p0] [] (B3 r) [] := by
 refine eV Tryz.func76 rfl ?_
 unfold gW at h
 refine za [0] ?_
 refine zx fun _ => ?_
 refine zk 1 ?_
 obtain ⟨y1, he, h⟩ := aC h
 refine zc Vh (pR n _ y1 he) ?_
 clear he
 refine zk 1 ?_
 refine zE (B7 p0) ?_
 obtain ⟨e2, he, h⟩ := aC h
 refine Du (es := [y1]) [(6, B7 p0, some 1)] (enc := jL) (xs := aZ) (ix := p0) (e := e2) (c := [Bo e2.inherited, I e2.low, I e2.high, I e2.start]) (len := 22) (sz := 4) (fun hg => bR he hg) (by kernel_rfl) (by kernel_rfl) (by kernel_rfl) (by kernel_rfl) (by kernel_rfl) (by kernel_rfl) (fun x => by kernel_rfl) rfl rfl ?_
 clear he
 refine zE (.c (.imm [Bo e2.inherited, I e2.low, I e2.high, I e2.start])) ?_
 refine zE (B3 e2.inherited) ?_
 refine zP (.bool (y1 && e2.inherited)) ?_
 refine zk 1 ?_
 refine jY [2] (L2 := [(2, B3 (y1 && e2.inherited))]) (G2 := []) 10 ?_
 cases h
 exact aD zr
def yN  (n : Nat) (p0 : Int) (p1 : Int) : Option Bool := some (((((p1 != 0) && (decide (p0 ≥ (-1152921504606846976 : Int)))) && (decide (p0 ≤ 1152921504606846976))) && (decide (p1 ≥ (-1152921504606846976 : Int)))) && (decide (p1 ≤ 1152921504606846976)))
theorem Nm  (n : Nat) (p0 : Int) (p1 : Int) (r : Bool) (h : yN n p0 p1 = some r) : cW E 137 0 [B7 p0, B7 p1] [] (B3 r) [] := by
 refine eV Tryz.func137 rfl ?_
 unfold yN at h
 refine za [0, 1] ?_
 refine zx fun _ => ?_
 refine zk 3 ?_
 refine zE (B7 p0) ?_
 refine zE (.c (Bo (decide (p0 ≥ (-1152921504606846976 : Int))))) ?_
 refine zP (.bool ((p1 != 0) && (decide (p0 ≥ (-1152921504606846976 : Int))))) ?_
 refine zk 1 ?_
 refine zE (B7 p0) ?_
 refine zE (B3 (M0 p0)) ?_
 refine zP (.bool (((p1 != 0) && (decide (p0 ≥ (-1152921504606846976 : Int)))) && (M0 p0))) ?_
 refine zk 1 ?_
 refine zE (B7 p1) ?_
 refine zE (.c (Bo (decide (p1 ≥ (-1152921504606846976 : Int))))) ?_
 refine zP (.bool ((((p1 != 0) && (decide (p0 ≥ (-1152921504606846976 : Int)))) && (M0 p0)) && (decide (p1 ≥ (-1152921504606846976 : Int))))) ?_
 refine zk 1 ?_
 refine zE (B7 p1) ?_
 refine zE (B3 (M0 p1)) ?_
 refine zP (.bool (((((p1 != 0) && (decide (p0 ≥ (-1152921504606846976 : Int)))) && (M0 p0)) && (decide (p1 ≥ (-1152921504606846976 : Int)))) && (M0 p1))) ?_
 refine zk 1 ?_
 refine jY [4] (L2 := [(4, .c (Bo (((((p1 != 0) && (decide (p0 ≥ (-1152921504606846976 : Int)))) && (M0 p0)) && (decide (p1 ≥ (-1152921504606846976 : Int)))) && (M0 p1))))]) (G2 := []) 20 ?_
 cases h
 exact aD zr
def rT  (n : Nat) (p0 : Int) (p1 : Int) : Option Int := (nz p1).bind fun (d1 : Int) => (aS (fun (v4 : Int) => some v4) (fun (j2 : Int → Option Int) => (nz p1).bind fun (d3 : Int) => (if (decide ((Int.tmod p0 p1) < 0)) = true then j2 (IntKind.wrap .i64 ((IntKind.wrap .i64 (Int.tdiv p0 p1)) - 1)) else j2 (IntKind.wrap .i64 (Int.tdiv p0 p1)))))
theorem Ev  (n : Nat) (p0 : Int) (p1 : Int) (r : Int) (h : rT n p0 p1 = some r) : cW E 138 0 [B7 p0, B7 p1] [] (B7 r) [] := by
 refine eV Tryz.func138 rfl ?_
 unfold rT at h
 refine za [0, 1] ?_
 refine zx fun _ => ?_
 refine zk 2 ?_
 obtain ⟨d1, he, h⟩ := aC h
 refine cZ (v := .c (I (IntKind.wrap .i64 (Int.tdiv p0 p1)))) (foot := []) (Zj (k := .i64) (x := p0) (y := p1) he (by kernel_rfl)) (by kernel_rfl) rfl rfl ?_
 clear he
 refine zk 1 ?_
 refine ze [0, 1, 5] ?_
 refine aQ h (fun A j => ∀ v4, j v4 = some r → A (mk [A6 5 v4] [] 0)) (fun v4 h => ?_) (fun j2 Aj2 hj2 h => ?_)
 refine za [4] ?_
 cases h
 exact aD zr
 refine zx fun _ => ?_
 refine zk 2 ?_
 obtain ⟨d3, he, h⟩ := aC h
 refine cZ (v := .c (I (Int.tmod p0 p1))) (foot := []) (Qj (k := .i64) (x := p0) (y := p1) he (by kernel_rfl)) (by kernel_rfl) rfl rfl ?_
 clear he
 refine zk 1 ?_
 refine ze [5, 12] ?_
 refine zi h (fun h => ?_) fun h => ?_
 refine aW ?_
 refine zb ?_
 exact dF (zv [] [5] 0) (hj2 _ h)
 exact aH (zv [] [5] 0) (aB (hj2 _ h))
def rR  (n : Nat) (p0 : Int) (p1 : Int) : Option Int := (yN n p0 p1).bind fun (y1 : Bool) => (if (!y1) = true then some 0 else (aS (fun (v3 : Int) (v4 : Int) => (rT n (IntKind.wrap .i64 ((IntKind.wrap .i64 (2 * v3)) + v4)) (IntKind.wrap .i64 (2 * v4))).bind fun (y5 : Int) => some y5) (fun (j2 : Int → Int → Option Int) => (if (decide (p1 < 0)) = true then j2 (IntKind.wrap .i64 (0 - p0)) (IntKind.wrap .i64 (0 - p1)) else j2 p0 p1))))
theorem Ez  (n : Nat) (p0 : Int) (p1 : Int) (r : Int) (h : rR n p0 p1 = some r) : cW E 126 0 [B7 p0, B7 p1] [] (B7 r) [] := by
 refine eV Tryz.func126 rfl ?_
 unfold rR at h
 refine za [0, 1] ?_
 refine aI ?_
 refine zx fun _ => ?_
 refine zk 2 ?_
 obtain ⟨y1, he, h⟩ := aC h
 refine zc fok137 (Nm n _ _ y1 he) ?_
 clear he
 refine zk 1 ?_
 refine ze [0, 1, 8] ?_
 refine zi h (fun h => ?_) fun h => ?_
 refine za [4] ?_
 cases h
 exact aD zr
 refine aB ?_
 refine aQ h (fun A j => ∀ v3 v4, j v3 v4 = some r → A (mk [A6 0 v3, A6 1 v4] [] 0)) (fun v3 v4 h => ?_) (fun j2 Aj2 hj2 h => ?_)
 refine zx fun _ => ?_
 refine zk 6 ?_
 obtain ⟨y5, he, h⟩ := aC h
 refine zc fok138 (Ev n _ _ y5 he) ?_
 clear he
 refine zk 1 ?_
 refine ze [4] ?_
 cases h
 exact aD zr
 refine za [0, 1, 10] ?_
 refine zi h (fun h => ?_) fun h => ?_
 refine aW ?_
 refine zb ?_
 exact dF (zv [] [0, 1] 0) (hj2 _ _ h)
 exact aH (zv [] [0, 1] 0) (aB (hj2 _ _ h))
def pD  (n : Nat) (p0 : Int) (p1 : Int) (p2 : Int) : Option (Int × Int) := (if ((((((decide (p0 < (-1099511627776 : Int))) || (decide (p0 > 1099511627776))) || (decide (p1 < 0))) || (decide (p1 > 65536))) || (decide (p2 < 1))) || (decide (p2 > 65536))) = true then some (0, 1) else (rR n (IntKind.wrap .i64 (p0 * p1)) p2).bind fun (y1 : Int) => some (y1, 0))
theorem Ep  (n : Nat) (p0 : Int) (p1 : Int) (p2 : Int) (r : (O6)) (h : pD n p0 p1 p2 = some r) : cW E 106 0 [B7 p0, B7 p1, B7 p2] [] (.tup [B7 r.1, B7 r.2]) [] := by
 refine eV Tryz.func106 rfl ?_
 unfold pD at h
 refine za [0, 1, 2] ?_
 refine aI ?_
 refine zx fun _ => ?_
 refine zk 3 ?_
 refine zE (B7 p0) ?_
 refine zE (B3 (G5 p0)) ?_
 refine zP (.bool ((decide (p0 < (-1099511627776 : Int))) || (G5 p0))) ?_
 refine zk 1 ?_
 refine zE (B7 p1) ?_
 refine zE (H9 p1 0) ?_
 refine zP (.bool (((decide (p0 < (-1099511627776 : Int))) || (G5 p0)) || (C1 p1 0))) ?_
 refine zk 1 ?_
 refine zE (B7 p1) ?_
 refine zE (J5 p1 65536) ?_
 refine zP (.bool ((((decide (p0 < (-1099511627776 : Int))) || (G5 p0)) || (C1 p1 0)) || (D5 p1 65536))) ?_
 refine zk 1 ?_
 refine zE (B7 p2) ?_
 refine zE (H9 p2 1) ?_
 refine zP (.bool (((((decide (p0 < (-1099511627776 : Int))) || (G5 p0)) || (C1 p1 0)) || (D5 p1 65536)) || (C1 p2 1))) ?_
 refine zk 1 ?_
 refine zE (B7 p2) ?_
 refine zE (J5 p2 65536) ?_
 refine zP (.bool ((((((decide (p0 < (-1099511627776 : Int))) || (G5 p0)) || (C1 p1 0)) || (D5 p1 65536)) || (C1 p2 1)) || (D5 p2 65536))) ?_
 refine jY [0, 1, 2, 29] (L2 := [A6 0 p0, A6 1 p1, A6 2 p2, (29, .c (Bo ((((((decide (p0 < (-1099511627776 : Int))) || (G5 p0)) || (C1 p1 0)) || (D5 p1 65536)) || (C1 p2 1)) || (D5 p2 65536))))]) (G2 := []) 24 ?_
 refine zi h (fun h => ?_) fun h => ?_
 refine za [6, 7] ?_
 cases h
 exact aD zr
 refine aB ?_
 refine zx fun _ => ?_
 refine zk 4 ?_
 obtain ⟨y1, he, h⟩ := aC h
 refine zc fok126 (Ez n _ _ y1 he) ?_
 clear he
 refine zk 2 ?_
 refine ze [6, 7] ?_
 cases h
 exact aD zr
def lW  (n : Nat) (p0 : Int) (p1 : Int) (p2 : Int) : Option Int := (if ((decide (p0 < p1)) || (decide (p2 < p1))) = true then some p1 else (if (decide (p0 > p2)) = true then some p2 else some p0))
theorem Eb  (n : Nat) (p0 : Int) (p1 : Int) (p2 : Int) (r : Int) (h : lW n p0 p1 p2 = some r) : cW E 107 0 [B7 p0, B7 p1, B7 p2] [] (B7 r) [] := by
 refine eV Tryz.func107 rfl ?_
 unfold lW at h
 refine za [0, 1, 2] ?_
 refine aI ?_
 refine aG ?_
 refine zx fun _ => ?_
 refine zk 4 ?_
 refine zE (B7 p2) ?_
 refine zE (B7 p1) ?_
 refine zE (H9 p2 p1) ?_
 refine zP (.bool ((C1 p0 p1) || (C1 p2 p1))) ?_
 refine zk 1 ?_
 refine ze [0, 1, 2, 7] ?_
 refine zi h (fun h => ?_) fun h => ?_
 refine za [6] ?_
 cases h
 exact aD zr
 refine za [0, 2, 17] ?_
 refine zi h (fun h => ?_) fun h => ?_
 refine za [6] ?_
 cases h
 exact aD zr
 refine aB ?_
 refine za [6] ?_
 cases h
 exact aD zr
def lZ  (n : Nat) (p0 : cQ) (p1 : Int) : Option Int := (aS (fun (v3 : Int) => (lW n v3 1 1000).bind fun (y4 : Int) => some y4) (fun (j1 : Int → Option Int) => (if ((((decide (p0.Scale ≥ 50)) && (decide (p0.Scale ≤ 400))) && (decide (p1 ≥ 1))) && (decide (p1 ≤ 1000))) = true then (pD n p1 p0.Scale 100).bind fun (y2 : (Int × Int)) => j1 y2.1 else j1 p1)))
theorem Hs  (n : Nat) (p0 : cQ) (p1 : Int) (r : Int) (h : lZ n p0 p1 = some r) : cW E 77 0 [F9 p0, B7 p1] [] (B7 r) [] := by
 refine eV Tryz.func77 rfl ?_
 unfold lZ at h
 refine za [1, 2] ?_
 refine aQ h (fun A j => ∀ v3, j v3 = some r → A (mk [A6 1 v3] [] 0)) (fun v3 h => ?_) (fun j1 Aj1 hj1 h => ?_)
 refine zx fun _ => ?_
 refine zk 1 ?_
 obtain ⟨y4, he, h⟩ := aC h
 refine zc fok107 (Eb n _ _ _ y4 he) ?_
 clear he
 refine zk 1 ?_
 refine ze [4] ?_
 cases h
 exact aD zr
 refine zx fun _ => ?_
 refine zk 4 ?_
 refine zE (B9 0 2) ?_
 refine zE (B7 p0.Scale) ?_
 refine zE (B3 (I2 p0.Scale 400)) ?_
 refine zP (.bool (E1 p0.Scale 50 400)) ?_
 refine zk 1 ?_
 refine zE (B7 p1) ?_
 refine zE (B3 (I0 p1 1)) ?_
 refine zP (.bool ((E1 p0.Scale 50 400) && (I0 p1 1))) ?_
 refine zk 1 ?_
 refine zE (B7 p1) ?_
 refine zE (B3 (I2 p1 1000)) ?_
 refine zP (.bool (((E1 p0.Scale 50 400) && (I0 p1 1)) && (I2 p1 1000))) ?_
 refine jY [1, 2, 20] (L2 := [A6 1 p1, J0, (20, B3 (((E1 p0.Scale 50 400) && (I0 p1 1)) && (I2 p1 1000)))]) (G2 := [(0, C6 p0)]) 18 ?_
 refine zi h (fun h => ?_) fun h => ?_
 refine aW ?_
 refine zy fun _ => ?_
 refine zk 3 ?_
 obtain ⟨y2, he, h⟩ := aC h
 refine zc fok106 (Ep n _ _ _ y2 he) ?_
 clear he
 refine zk 4 ?_
 refine bV ?_
 exact dF (zv [] [1] 0) (hj1 _ h)
 exact aH (zv [] [1] 0) (aB (hj1 _ h))
def dX (y1 : (List (Int × bN))) (p0 : iP) (p3 : Bool) (p2 : aA) (j2 : aA → Option aA) : Nat → Int → aA → Option aA
 | 0, _, _ => none
 | n + 1, v10, v11 => (if (decide (v10 < 22)) = true then (aS (fun (v27 : aA) => dX y1 p0 p3 p2 j2 n (IntKind.wrap .i64 (v10 + 1)) v27) (fun (j12 : aA → Option aA) => (some (eO v10 y1, kU v10 y1)).bind fun (y13 : (bN × Bool)) => (gd [(!(y13.2 && (y13.1.Source == 2))), (!y13.2)] (gW n v10)).bind fun (y14 : Bool) => (aS (fun (v22 : aA) => (if (v10 == 2) = true then (uU v10 22).bind fun (k23 : Nat) => ((aA.toL v22)[k23]?).bind fun (e24 : Int) => (lZ n p0.m e24).bind fun (y25 : Int) => (uU v10 22).bind fun (k26 : Nat) => j12 (aA.set v22 k26 y25) else j12 v22)) (fun (j15 : aA → Option aA) => (if (((y13.2 && (y13.1.Source == 2)) || ((!y13.2) && y14)) && (!p3)) = true then (uU v10 22).bind fun (k16 : Nat) => ((aA.toL p2)[k16]?).bind fun (e17 : Int) => (uU v10 22).bind fun (k18 : Nat) => j12 (aA.set v11 k18 e17) else (if (y13.2 && ((y13.1.Source == 0) || (y13.1.Source == 1))) = true then (uU v10 22).bind fun (k19 : Nat) => j15 (aA.set v11 k19 y13.1.N) else (idx aZ v10).bind fun (e20 : cB) => (uU v10 22).bind fun (k21 : Nat) => j15 (aA.set v11 k21 e20.start))))))) else j2 v11)
def nA  (n : Nat) (p0 : iP) (p1 : Int) (p2 : aA) (p3 : Bool) : Option aA := (lR n p0 p1).bind fun (y1 : (List (Int × bN))) => (aS (fun (v30 : aA) => some v30) (fun (j2 : aA → Option aA) => dX y1 p0 p3 p2 j2 n 0 (aA.mk 0 0 0 0 0 0 0 0 0 0 0 0 0 0 0 0 0 0 0 0 0 0)))
theorem Az  (n : Nat) (p0 : iP) (p1 : Int) (p2 : aA) (p3 : Bool) (r : aA) (h : nA n p0 p1 p2 p3 = some r) : cW E 42 0 [.agg [C8 p0.shape.nodes, E2 p0.shape.class_, F1 p0.shape.states, C5 p0.rules, D4 p0.order, F8 p0.th.Tokens, Bo p0.m.Dark, Bo p0.m.High, I p0.m.Scale], B7 p1, C3 p2, B3 p3] [] (C3 r) [] := by
 refine eV Tryz.func42 rfl ?_
 unfold nA at h
 refine za [1, 3, 4, 6, 8] ?_
 refine zx fun _ => ?_
 refine zk 2 ?_
 obtain ⟨y1, he, h⟩ := aC h
 refine zc fok75 (yP n _ _ y1 he) ?_
 clear he
 refine zk 1 ?_
 refine ze [3, 4, 6, 8, 9] ?_
 refine za [3, 4, 6, 8, 9, 10] ?_
 refine aQ h (fun A j => ∀ v30, j v30 = some r → A (mk [L5, A1 10 1 0] [(0, A7), K1 1 v30] 2)) (fun v30 h => ?_) (fun j2 Aj2 hj2 h => ?_)
 refine za [8] ?_
 cases h
 exact aD zr
 refine za [3, 4, 6, 8, 9, 10, 18] ?_
 refine aG ?_
 refine bA (fun n s => ∃ v10 v11, dX y1 p0 p3 p2 j2 n v10 v11 = some r ∧ s = mk [J3 3 p3, I7, M9, A1 8 2 0, (9, N2 y1), A1 10 3 0, A6 18 v10] [F7 0 p0.shape p0.rules p0.order p0.th.Tokens p0.m, K1 1 p2, (2, A7), K1 3 v11] 4) n _ (zv [(0, 0), (1, 1), (2, 2), (7, 3)] [3, 4, 6, 8, 9, 10, 18] 4) ⟨_, _, h, rfl⟩ (fun s ⟨v10, v11, h, _⟩ => nomatch h) ?_
 rintro n s ⟨v10, v11, h, rfl⟩
 rw [dX] at h
 refine za [3, 4, 6, 8, 9, 10, 18, 19] ?_
 refine aI ?_
 refine zi h (fun h => ?_) fun h => ?_
 refine aB ?_
 refine aQ h (fun A j => ∀ v27, j v27 = some r → A (mk [J3 3 p3, I7, M9, A1 8 2 0, (9, N2 y1), A1 10 3 0, A6 18 v10] [F7 0 p0.shape p0.rules p0.order p0.th.Tokens p0.m, K1 1 p2, (2, A7), K1 3 v27] 4)) (fun v27 h => ?_) (fun j12 Aj12 hj12 h => ?_)
 refine aW ?_
 refine zb ?_
 exact dF (zv [(0, 0), (1, 1), (2, 2), (3, 3)] [3, 4, 6, 8, 9, 10, 18] 4) (⟨_, _, h, rfl⟩)
 refine aG ?_
 refine za [3, 4, 6, 8, 9, 10, 11, 18] ?_
 refine zx fun _ => ?_
 refine zk 2 ?_
 obtain ⟨y13, he, h⟩ := aC h
 refine zw (v := .tup [M8 y13.1, B3 y13.2]) [] (dK (kf := (B4)) (enc := bI) (l := y1) (k := v10) (ok := true) (kk := .int .i64) (j := ⟨.st [(3, 0, 1), (3, 1, 1), (3, 2, 1), (9, 3, 1)], 4, 40, [.int .i64 0, .int .i64 0, .int .i64 0, .string ⟨#[]⟩]⟩) (p := y13) (v := .agg [I y13.1.Prop_, I y13.1.Source, I y13.1.N, Sx y13.1.Token]) he (by kernel_rfl) iD (by kernel_rfl) (by kernel_rfl) (by kernel_rfl)) ?_
 clear he
 refine zk 6 ?_
 refine ze [3, 4, 6, 8, 9, 10, 11, 12, 13, 18] ?_
 refine zx fun _ => ?_
 refine zk 2 ?_
 refine zE (B9 13 1) ?_
 refine zE (B7 y13.1.Source) ?_
 refine zE (B3 (y13.1.Source == 2)) ?_
 refine zP (.bool (y13.2 && (y13.1.Source == 2))) ?_
 refine zk 1 ?_
 refine zE (B3 y13.2) ?_
 refine zE (B3 (!y13.2)) ?_
 refine zF [!(y13.2 && (y13.1.Source == 2))] (B3 (!y13.2)) ?_
 refine zE (B7 v10) ?_
 obtain ⟨y14, he, h⟩ := aC h
 refine An [!(y13.2 && (y13.1.Source == 2)), !y13.2] fok76 (fun hg => yE n _ y14 (bR he hg)) ?_
 clear he
 refine zP (.bool ((!y13.2) && y14)) ?_
 refine zP (.bool ((y13.2 && (y13.1.Source == 2)) || ((!y13.2) && y14))) ?_
 refine zk 1 ?_
 refine jY [3, 4, 6, 8, 9, 10, 11, 12, 13, 14, 18] (L2 := [J3 3 p3, I7, M9, A1 8 2 0, (9, N2 y1), A1 10 3 0, A6 18 v10, A6 11 v10, A1 12 13 0, J3 13 y13.2, (14, B3 ((y13.2 && (y13.1.Source == 2)) || ((!y13.2) && y14)))]) (G2 := [F7 0 p0.shape p0.rules p0.order p0.th.Tokens p0.m, K1 1 p2, (2, A7), K1 3 v11, (13, E3 y13.1)]) 31 ?_
 refine aQ h (fun A j => ∀ v22, j v22 = some r → A (mk [J3 3 p3, I7, M9, A1 8 2 0, (9, N2 y1), A1 10 3 0, A6 18 v10, A6 11 v10] [F7 0 p0.shape p0.rules p0.order p0.th.Tokens p0.m, K1 1 p2, (2, A7), K1 3 v22] 4)) (fun v22 h => ?_) (fun j15 Aj15 hj15 h => ?_)
 refine za [3, 4, 6, 8, 9, 10, 11, 18, 75] ?_
 refine zi h (fun h => ?_) fun h => ?_
 refine aW ?_
 refine Rg [[], [], [1], [], [3], [4, 3], [2, 5, 1, 4, 3], [0, 1, 2, 3, 4, 5, 6], [7, 6, 0, 1, 2, 3, 4, 5]] fun _ => ?_
 refine zk 4 ?_
 obtain ⟨k23, he, h⟩ := aC h
 refine cZ (v := .c (.ptr 3 (0 + k23 * 1))) (foot := []) (xK (n := 3) (q := 0) (len := 22) (sz := 1) (k := k23) (ix := v10) he (by kernel_rfl)) (by kernel_rfl) rfl rfl ?_
 have hb_k23 := mR he; clear he
 obtain ⟨e24, he, h⟩ := aC h
 refine cZ (v := .c (I e24)) (foot := [3]) (Kr (n := 3) (off := (0 + k23 * 1)) (l := [I v22.x0, I v22.x1, I v22.x2, I v22.x3, I v22.x4, I v22.x5, I v22.x6, I v22.x7, I v22.x8, I v22.x9, I v22.x10, I v22.x11, I v22.x12, I v22.x13, I v22.x14, I v22.x15, I v22.x16, I v22.x17, I v22.x18, I v22.x19, I v22.x20, I v22.x21]) (j := ⟨.int .i64, 1, 8, [.int .i64 0]⟩) (v := .c (I e24)) (by kernel_rfl) (zV (enc := aN) (xs := (aA.toL v22)) (k := k23) (e := e24) he (by rw [Nat.zero_add]; kernel_rfl) (fun x => by kernel_rfl) (by decide) (by kernel_rfl))) (by kernel_rfl) rfl rfl ?_
 clear he
 obtain ⟨y25, he, h⟩ := aC h
 refine zc fok77 (Hs n _ _ y25 he) ?_
 clear he
 obtain ⟨k26, he, h⟩ := aC h
 refine cZ (v := .c (.ptr 3 (0 + k26 * 1))) (foot := []) (xK (n := 3) (q := 0) (len := 22) (sz := 1) (k := k26) (ix := v10) he (by kernel_rfl)) (by kernel_rfl) rfl rfl ?_
 have hb_k26 := mR he; clear he
 refine qK (n := 3) (off := (0 + k26 * 1)) (T0 := 52) (sz := 1) (lx := [I y25]) (l := [I v22.x0, I v22.x1, I v22.x2, I v22.x3, I v22.x4, I v22.x5, I v22.x6, I v22.x7, I v22.x8, I v22.x9, I v22.x10, I v22.x11, I v22.x12, I v22.x13, I v22.x14, I v22.x15, I v22.x16, I v22.x17, I v22.x18, I v22.x19, I v22.x20, I v22.x21]) (l2 := [I ((E8 v22 k26 y25).x0), I ((E8 v22 k26 y25).x1), I ((E8 v22 k26 y25).x2), I ((E8 v22 k26 y25).x3), I ((E8 v22 k26 y25).x4), I ((E8 v22 k26 y25).x5), I ((E8 v22 k26 y25).x6), I ((E8 v22 k26 y25).x7), I ((E8 v22 k26 y25).x8), I ((E8 v22 k26 y25).x9), I ((E8 v22 k26 y25).x10), I ((E8 v22 k26 y25).x11), I ((E8 v22 k26 y25).x12), I ((E8 v22 k26 y25).x13), I ((E8 v22 k26 y25).x14), I ((E8 v22 k26 y25).x15), I ((E8 v22 k26 y25).x16), I ((E8 v22 k26 y25).x17), I ((E8 v22 k26 y25).x18), I ((E8 v22 k26 y25).x19), I ((E8 v22 k26 y25).x20), I ((E8 v22 k26 y25).x21)]) (by kernel_rfl) (by kernel_rfl) (by simp only [List.length_cons, List.length_nil]; omega) (by rw [Nat.zero_add]; exact aA.splice_eq v22 k26 y25 hb_k26) (by kernel_rfl) rfl rfl ?_
 refine bV ?_
 exact dF (zv [(0, 0), (1, 1), (2, 2), (3, 3)] [3, 4, 6, 8, 9, 10, 18] 4) (hj12 _ h)
 exact aH (zv [(0, 0), (1, 1), (2, 2), (3, 3)] [3, 4, 6, 8, 9, 10, 18] 4) (aB (hj12 _ h))
 refine aG ?_
 refine zx fun _ => ?_
 refine zk 2 ?_
 refine zE (B3 p3) ?_
 refine zE (B3 (!p3)) ?_
 refine zP (.bool (((y13.2 && (y13.1.Source == 2)) || ((!y13.2) && y14)) && (!p3))) ?_
 refine zk 1 ?_
 refine ze [3, 4, 6, 8, 9, 10, 11, 12, 13, 18, 47] ?_
 refine zi h (fun h => ?_) fun h => ?_
 refine zx fun _ => ?_
 refine zk 2 ?_
 obtain ⟨k16, he, h⟩ := aC h
 refine cZ (v := .c (.ptr 1 (0 + k16 * 1))) (foot := []) (xK (n := 1) (q := 0) (len := 22) (sz := 1) (k := k16) (ix := v10) he (by kernel_rfl)) (by kernel_rfl) rfl rfl ?_
 have hb_k16 := mR he; clear he
 obtain ⟨e17, he, h⟩ := aC h
 refine cZ (v := .c (I e17)) (foot := [1]) (Kr (n := 1) (off := (0 + k16 * 1)) (l := [I p2.x0, I p2.x1, I p2.x2, I p2.x3, I p2.x4, I p2.x5, I p2.x6, I p2.x7, I p2.x8, I p2.x9, I p2.x10, I p2.x11, I p2.x12, I p2.x13, I p2.x14, I p2.x15, I p2.x16, I p2.x17, I p2.x18, I p2.x19, I p2.x20, I p2.x21]) (j := ⟨.int .i64, 1, 8, [.int .i64 0]⟩) (v := .c (I e17)) (by kernel_rfl) (zV (enc := aN) (xs := (aA.toL p2)) (k := k16) (e := e17) he (by rw [Nat.zero_add]; kernel_rfl) (fun x => by kernel_rfl) (by decide) (by kernel_rfl))) (by kernel_rfl) rfl rfl ?_
 clear he
 obtain ⟨k18, he, h⟩ := aC h
 refine cZ (v := .c (.ptr 3 (0 + k18 * 1))) (foot := []) (xK (n := 3) (q := 0) (len := 22) (sz := 1) (k := k18) (ix := v10) he (by kernel_rfl)) (by kernel_rfl) rfl rfl ?_
 have hb_k18 := mR he; clear he
 refine qK (n := 3) (off := (0 + k18 * 1)) (T0 := 52) (sz := 1) (lx := [I e17]) (l := [I v11.x0, I v11.x1, I v11.x2, I v11.x3, I v11.x4, I v11.x5, I v11.x6, I v11.x7, I v11.x8, I v11.x9, I v11.x10, I v11.x11, I v11.x12, I v11.x13, I v11.x14, I v11.x15, I v11.x16, I v11.x17, I v11.x18, I v11.x19, I v11.x20, I v11.x21]) (l2 := [I ((E8 v11 k18 e17).x0), I ((E8 v11 k18 e17).x1), I ((E8 v11 k18 e17).x2), I ((E8 v11 k18 e17).x3), I ((E8 v11 k18 e17).x4), I ((E8 v11 k18 e17).x5), I ((E8 v11 k18 e17).x6), I ((E8 v11 k18 e17).x7), I ((E8 v11 k18 e17).x8), I ((E8 v11 k18 e17).x9), I ((E8 v11 k18 e17).x10), I ((E8 v11 k18 e17).x11), I ((E8 v11 k18 e17).x12), I ((E8 v11 k18 e17).x13), I ((E8 v11 k18 e17).x14), I ((E8 v11 k18 e17).x15), I ((E8 v11 k18 e17).x16), I ((E8 v11 k18 e17).x17), I ((E8 v11 k18 e17).x18), I ((E8 v11 k18 e17).x19), I ((E8 v11 k18 e17).x20), I ((E8 v11 k18 e17).x21)]) (by kernel_rfl) (by kernel_rfl) (by simp only [List.length_cons, List.length_nil]; omega) (by rw [Nat.zero_add]; exact aA.splice_eq v11 k18 e17 hb_k18) (by kernel_rfl) rfl rfl ?_
 refine jY [3, 4, 6, 8, 9, 10, 18] (L2 := [J3 3 p3, I7, M9, A1 8 2 0, (9, N2 y1), A1 10 3 0, A6 18 v10]) (G2 := [F7 0 p0.shape p0.rules p0.order p0.th.Tokens p0.m, K1 1 p2, (2, A7), (3, .blk 52 [I ((E8 v11 k18 e17).x0), I ((E8 v11 k18 e17).x1), I ((E8 v11 k18 e17).x2), I ((E8 v11 k18 e17).x3), I ((E8 v11 k18 e17).x4), I ((E8 v11 k18 e17).x5), I ((E8 v11 k18 e17).x6), I ((E8 v11 k18 e17).x7), I ((E8 v11 k18 e17).x8), I ((E8 v11 k18 e17).x9), I ((E8 v11 k18 e17).x10), I ((E8 v11 k18 e17).x11), I ((E8 v11 k18 e17).x12), I ((E8 v11 k18 e17).x13), I ((E8 v11 k18 e17).x14), I ((E8 v11 k18 e17).x15), I ((E8 v11 k18 e17).x16), I ((E8 v11 k18 e17).x17), I ((E8 v11 k18 e17).x18), I ((E8 v11 k18 e17).x19), I ((E8 v11 k18 e17).x20), I ((E8 v11 k18 e17).x21)]), (13, E3 y13.1)]) 43 ?_
 exact aH (zv [(0, 0), (1, 1), (2, 2), (3, 3)] [3, 4, 6, 8, 9, 10, 18] 4) (bG (hj12 _ h))
 refine zx fun _ => ?_
 refine zk 2 ?_
 refine zE (B9 13 1) ?_
 refine zE (B7 y13.1.Source) ?_
 refine zE (B3 (y13.1.Source == 0)) ?_
 refine zF [y13.2] (B3 (y13.1.Source == 0)) ?_
 refine zE (B9 13 1) ?_
 refine zE (B7 y13.1.Source) ?_
 refine zE (B3 (y13.1.Source == 1)) ?_
 refine zP (.bool ((y13.1.Source == 0) || (y13.1.Source == 1))) ?_
 refine zP (.bool (y13.2 && ((y13.1.Source == 0) || (y13.1.Source == 1)))) ?_
 refine zk 1 ?_
 refine jY [3, 4, 6, 8, 9, 10, 11, 12, 18, 58] (L2 := [J3 3 p3, I7, M9, A1 8 2 0, (9, N2 y1), A1 10 3 0, A6 18 v10, A6 11 v10, A1 12 13 0, (58, B3 (y13.2 && ((y13.1.Source == 0) || (y13.1.Source == 1))))]) (G2 := [F7 0 p0.shape p0.rules p0.order p0.th.Tokens p0.m, K1 1 p2, (2, A7), K1 3 v11, (13, E3 y13.1)]) 49 ?_
 refine zi h (fun h => ?_) fun h => ?_
 refine aW ?_
 refine zy fun _ => ?_
 refine zk 3 ?_
 obtain ⟨k19, he, h⟩ := aC h
 refine cZ (v := .c (.ptr 3 (0 + k19 * 1))) (foot := []) (xK (n := 3) (q := 0) (len := 22) (sz := 1) (k := k19) (ix := v10) he (by kernel_rfl)) (by kernel_rfl) rfl rfl ?_
 have hb_k19 := mR he; clear he
 refine qK (n := 3) (off := (0 + k19 * 1)) (T0 := 52) (sz := 1) (lx := [I y13.1.N]) (l := [I v11.x0, I v11.x1, I v11.x2, I v11.x3, I v11.x4, I v11.x5, I v11.x6, I v11.x7, I v11.x8, I v11.x9, I v11.x10, I v11.x11, I v11.x12, I v11.x13, I v11.x14, I v11.x15, I v11.x16, I v11.x17, I v11.x18, I v11.x19, I v11.x20, I v11.x21]) (l2 := [I ((E8 v11 k19 y13.1.N).x0), I ((E8 v11 k19 y13.1.N).x1), I ((E8 v11 k19 y13.1.N).x2), I ((E8 v11 k19 y13.1.N).x3), I ((E8 v11 k19 y13.1.N).x4), I ((E8 v11 k19 y13.1.N).x5), I ((E8 v11 k19 y13.1.N).x6), I ((E8 v11 k19 y13.1.N).x7), I ((E8 v11 k19 y13.1.N).x8), I ((E8 v11 k19 y13.1.N).x9), I ((E8 v11 k19 y13.1.N).x10), I ((E8 v11 k19 y13.1.N).x11), I ((E8 v11 k19 y13.1.N).x12), I ((E8 v11 k19 y13.1.N).x13), I ((E8 v11 k19 y13.1.N).x14), I ((E8 v11 k19 y13.1.N).x15), I ((E8 v11 k19 y13.1.N).x16), I ((E8 v11 k19 y13.1.N).x17), I ((E8 v11 k19 y13.1.N).x18), I ((E8 v11 k19 y13.1.N).x19), I ((E8 v11 k19 y13.1.N).x20), I ((E8 v11 k19 y13.1.N).x21)]) (by kernel_rfl) (by kernel_rfl) (by simp only [List.length_cons, List.length_nil]; omega) (by rw [Nat.zero_add]; exact aA.splice_eq v11 k19 y13.1.N hb_k19) (by kernel_rfl) rfl rfl ?_
 refine bV ?_
 exact dF (zv [(0, 0), (1, 1), (2, 2), (3, 3)] [3, 4, 6, 8, 9, 10, 18, 11] 4) (hj15 _ h)
 refine aW ?_
 refine zy fun _ => ?_
 refine zk 2 ?_
 obtain ⟨e20, he, h⟩ := aC h
 refine rx_idxA (enc := jL) (xs := aZ) (ix := v10) (e := e20) (c := [Bo e20.inherited, I e20.low, I e20.high, I e20.start]) (len := 22) (sz := 4) he (by kernel_rfl) (by kernel_rfl) (by kernel_rfl) (fun x => by kernel_rfl) (by kernel_rfl) rfl rfl ?_
 clear he
 refine zk 2 ?_
 obtain ⟨k21, he, h⟩ := aC h
 refine cZ (v := .c (.ptr 3 (0 + k21 * 1))) (foot := []) (xK (n := 3) (q := 0) (len := 22) (sz := 1) (k := k21) (ix := v10) he (by kernel_rfl)) (by kernel_rfl) rfl rfl ?_
 have hb_k21 := mR he; clear he
 refine qK (n := 3) (off := (0 + k21 * 1)) (T0 := 52) (sz := 1) (lx := [I e20.start]) (l := [I v11.x0, I v11.x1, I v11.x2, I v11.x3, I v11.x4, I v11.x5, I v11.x6, I v11.x7, I v11.x8, I v11.x9, I v11.x10, I v11.x11, I v11.x12, I v11.x13, I v11.x14, I v11.x15, I v11.x16, I v11.x17, I v11.x18, I v11.x19, I v11.x20, I v11.x21]) (l2 := [I ((E8 v11 k21 e20.start).x0), I ((E8 v11 k21 e20.start).x1), I ((E8 v11 k21 e20.start).x2), I ((E8 v11 k21 e20.start).x3), I ((E8 v11 k21 e20.start).x4), I ((E8 v11 k21 e20.start).x5), I ((E8 v11 k21 e20.start).x6), I ((E8 v11 k21 e20.start).x7), I ((E8 v11 k21 e20.start).x8), I ((E8 v11 k21 e20.start).x9), I ((E8 v11 k21 e20.start).x10), I ((E8 v11 k21 e20.start).x11), I ((E8 v11 k21 e20.start).x12), I ((E8 v11 k21 e20.start).x13), I ((E8 v11 k21 e20.start).x14), I ((E8 v11 k21 e20.start).x15), I ((E8 v11 k21 e20.start).x16), I ((E8 v11 k21 e20.start).x17), I ((E8 v11 k21 e20.start).x18), I ((E8 v11 k21 e20.start).x19), I ((E8 v11 k21 e20.start).x20), I ((E8 v11 k21 e20.start).x21)]) (by kernel_rfl) (by kernel_rfl) (by simp only [List.length_cons, List.length_nil]; omega) (by rw [Nat.zero_add]; exact aA.splice_eq v11 k21 e20.start hb_k21) (by kernel_rfl) rfl rfl ?_
 refine bV ?_
 exact dF (zv [(0, 0), (1, 1), (2, 2), (3, 3)] [3, 4, 6, 8, 9, 10, 18, 11] 4) (hj15 _ h)
 exact aH (zv [(2, 0), (3, 1)] [8, 10] 2) (bG (hj2 _ h))
end Go.Proofs.YtojkihhnioeggaaGreatDoor.S
