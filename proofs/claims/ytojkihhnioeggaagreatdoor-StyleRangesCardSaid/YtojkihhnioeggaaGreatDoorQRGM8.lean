import Derived.Test.YtojkihhnioeggaaGreatDoorQRGM7
set_option linter.unusedVariables false
set_option linter.unusedSimpArgs false
set_option maxRecDepth 100000
set_option maxHeartbeats 4000000
namespace Go.Proofs.YtojkihhnioeggaaGreatDoor.S
open Go Go.Bm
def fK (e32 : bT) (p0 : hZ) (j28 : List (Int × bJ) → Option (List (Int × bJ))) (p1 : Int) (v26 : Int) : Nat → Int → List (Int × bJ) → Option (List (Int × bJ))
 | 0, _, _ => none
 | n + 1, v40, v41 => (if (decide (v40 < (List.length e32.Decls : Int))) = true then (aR (fun (v48 : List (Int × bJ)) => fK e32 p0 j28 p1 v26 n (IntKind.wrap .i64 (v40 + 1)) v48) (fun (j42 : List (Int × bJ) → Option (List (Int × bJ))) => (idx e32.Decls v40).bind fun (e43 : bJ) => (aR (fun (v47 : Int) => j42 (iF e43.Prop_ (bJ.mk e43.Prop_ e43.Source v47 e43.Token) v41)) (fun (j44 : Int → Option (List (Int × bJ))) => (if (e43.Source == 1) = true then (nQ n p0.th p0.m e43.Token).bind fun (y45 : (Int × Bool)) => (gd [(!(!y45.2))] (cW n e43.Prop_ y45.1)).bind fun (y46 : Bool) => (if ((!y45.2) || (!y46)) = true then j42 v41 else j44 y45.1) else j44 e43.N))))) else j28 v41)
def fH (p0 : hZ) (p1 : Int) (j1 : List (Int × bJ) → Option (List (Int × bJ))) : Nat → Int → List (Int × bJ) → Option (List (Int × bJ))
 | 0, _, _ => none
 | n + 1, v26, v27 => (if (decide (v26 < (List.length p0.order : Int))) = true then (aR (fun (v51 : List (Int × bJ)) => fH p0 p1 j1 n (IntKind.wrap .i64 (v26 + 1)) v51) (fun (j28 : List (Int × bJ) → Option (List (Int × bJ))) => (idx p0.order v26).bind fun (e29 : Int) => (idx p0.rules e29).bind fun (e30 : bT) => (kH n p0.shape e30 p1).bind fun (y31 : Bool) => (if (!y31) = true then j28 v27 else (idx p0.rules e29).bind fun (e32 : bT) => fK e32 p0 j28 p1 v26 n 0 v27))) else j1 v27)
def lC  (n : Nat) (p0 : hZ) (p1 : Int) : Option (List (Int × bJ)) := (aR (fun (v54 : List (Int × bJ)) => some v54) (fun (j1 : List (Int × bJ) → Option (List (Int × bJ))) => fH p0 p1 j1 n 0 ([] : List (Int × bJ))))
theorem xS  (n : Nat) (p0 : hZ) (p1 : Int) (r : (List (Int × bJ))) (h : lC n p0 p1 = some r) : dJ E 75 0 [.agg [B8 p0.shape.nodes, D2 p0.shape.class_, D9 p0.shape.states, D4 p0.rules, C1 p0.order, F7 p0.th.Tokens, Bo p0.m.Dark, Bo p0.m.High, I p0.m.Scale], A7 p1] [] (K5 r) [] := by
 refine gY Tryz.func75 rfl ?_
 unfold lC at h
 refine za [1, 2] ?_
 refine za [1, 2, 5] ?_
 refine aV h (fun A j => ∀ v54, j v54 = some r → A (mk [F0 5 0] [(0, .map true (G4 v54))] 1)) (fun v54 h => ?_) (fun j1 Aj1 hj1 h => ?_)
 refine za [4] ?_
 refine aJ (sB 0 (ag := true) (l := List.map (eM (A6) bU) v54) (L2 := [(4, K5 v54)]) (G2 := []) (by kernel_rfl) (by kernel_rfl) (by kernel_rfl)) ?_
 cases h
 exact aH zr
 refine zx fun _ => ?_
 refine zk 2 ?_
 refine zl aO p0.order ?_
 refine zk 1 ?_
 refine ze [1, 2, 5, 14, 15, 16] ?_
 refine aI ?_
 refine bH (fun n s => ∃ v26 v27, fH p0 p1 j1 n v26 v27 = some r ∧ s = mk [C7 1 p1, I5, F0 5 1, I8 14 p0.order, (15, .c (I (List.length p0.order : Int))), C7 16 v26] [F1 0 p0.shape p0.rules p0.order p0.th.Tokens p0.m, (1, .map true (G4 v27))] 2) n _ (zv [(0, 0), (2, 1)] [1, 2, 5, 14, 15, 16] 2) ⟨_, _, h, rfl⟩ (fun s ⟨v26, v27, h, _⟩ => nomatch h) ?_
 rintro n s ⟨v26, v27, h, rfl⟩
 rw [fH] at h
 refine za [1, 2, 5, 14, 15, 16, 17] ?_
 refine aN ?_
 refine zi h (fun h => ?_) fun h => ?_
 refine aC ?_
 refine aV h (fun A j => ∀ v51, j v51 = some r → A (mk [C7 1 p1, I5, F0 5 1, I8 14 p0.order, (15, .c (I (List.length p0.order : Int))), C7 16 v26] [F1 0 p0.shape p0.rules p0.order p0.th.Tokens p0.m, (1, .map true (G4 v51))] 2)) (fun v51 h => ?_) (fun j28 Aj28 hj28 h => ?_)
 refine aY ?_
 refine zb ?_
 exact eU (zv [(0, 0), (1, 1)] [1, 2, 5, 14, 15, 16] 2) (⟨_, _, h, rfl⟩)
 refine aI ?_
 refine zx fun _ => ?_
 obtain ⟨e29, he, h⟩ := aB h
 refine zd aO he ?_
 clear he
 refine zk 2 ?_
 refine ze [1, 2, 5, 7, 14, 15, 16] ?_
 refine aN ?_
 refine Fu [[], [0], [], [2], [], [3, 4, 2], [5, 3, 4, 2], [], [1, 6, 7, 0, 5, 3, 4, 2], [8, 1, 6, 7, 0, 5, 3, 4, 2]] fun _ => ?_
 refine zk 5 ?_
 obtain ⟨e30, he, h⟩ := aB h
 refine zd bG he ?_
 clear he
 refine zk 2 ?_
 obtain ⟨y31, he, h⟩ := aB h
 refine zc fok51 (An n _ _ _ y31 he) ?_
 clear he
 refine zk 1 ?_
 refine ze [1, 2, 5, 7, 14, 15, 16, 29] ?_
 refine zi h (fun h => ?_) fun h => ?_
 exact aJ (zv [(0, 0), (1, 1)] [1, 2, 5, 14, 15, 16] 2) (bI (hj28 _ h))
 refine aC ?_
 refine zx fun _ => ?_
 refine zk 3 ?_
 obtain ⟨e32, he, h⟩ := aB h
 refine zd bG he ?_
 clear he
 refine zk 2 ?_
 refine zl bU e32.Decls ?_
 refine zk 1 ?_
 refine mF [1, 2, 5, 14, 15, 16, 35, 36, 37] (L2 := [C7 1 p1, I5, F0 5 1, I8 14 p0.order, (15, .c (I (List.length p0.order : Int))), C7 16 v26, J7 35 e32.Decls, (36, .c (I (List.length e32.Decls : Int))), I3 37]) (G2 := [F1 0 p0.shape p0.rules p0.order p0.th.Tokens p0.m, (1, .map true (G4 v27))]) 24 ?_
 refine aI ?_
 refine bH (fun n s => ∃ v40 v41, fK e32 p0 j28 p1 v26 n v40 v41 = some r ∧ s = mk [C7 1 p1, I5, F0 5 1, I8 14 p0.order, (15, .c (I (List.length p0.order : Int))), C7 16 v26, J7 35 e32.Decls, (36, .c (I (List.length e32.Decls : Int))), C7 37 v40] [F1 0 p0.shape p0.rules p0.order p0.th.Tokens p0.m, (1, .map true (G4 v41))] 2) n _ (zv [(0, 0), (1, 1)] [1, 2, 5, 14, 15, 16, 35, 36, 37] 2) ⟨_, _, h, rfl⟩ (fun s ⟨v40, v41, h, _⟩ => nomatch h) ?_
 rintro n s ⟨v40, v41, h, rfl⟩
 rw [fK] at h
 refine za [1, 2, 5, 14, 15, 16, 35, 36, 37, 38] ?_
 refine aN ?_
 refine zi h (fun h => ?_) fun h => ?_
 refine aC ?_
 refine aV h (fun A j => ∀ v48, j v48 = some r → A (mk [C7 1 p1, I5, F0 5 1, I8 14 p0.order, (15, .c (I (List.length p0.order : Int))), C7 16 v26, J7 35 e32.Decls, (36, .c (I (List.length e32.Decls : Int))), C7 37 v40] [F1 0 p0.shape p0.rules p0.order p0.th.Tokens p0.m, (1, .map true (G4 v48))] 2)) (fun v48 h => ?_) (fun j42 Aj42 hj42 h => ?_)
 refine aY ?_
 refine zb ?_
 exact eU (zv [(0, 0), (1, 1)] [1, 2, 5, 14, 15, 16, 35, 36, 37] 2) (⟨_, _, h, rfl⟩)
 refine aI ?_
 refine zx fun _ => ?_
 obtain ⟨e43, he, h⟩ := aB h
 refine zd bU he ?_
 clear he
 refine zk 3 ?_
 refine ze [1, 2, 5, 9, 14, 15, 16, 35, 36, 37] ?_
 refine aV h (fun A j => ∀ v47, j v47 = some r → A (mk [C7 1 p1, I5, F0 5 1, I8 14 p0.order, (15, .c (I (List.length p0.order : Int))), C7 16 v26, J7 35 e32.Decls, (36, .c (I (List.length e32.Decls : Int))), C7 37 v40, A2 9 2 0] [F1 0 p0.shape p0.rules p0.order p0.th.Tokens p0.m, (1, .map true (G4 v41)), (2, .blk 81 [I e43.Prop_, I e43.Source, I v47, Sx e43.Token])] 3)) (fun v47 h => ?_) (fun j44 Aj44 hj44 h => ?_)
 refine aY ?_
 refine zy fun _ => ?_
 refine zk 4 ?_
 refine kI (kf := (A6)) (enc := bU) (l := v41) (k := e43.Prop_) (v := (bJ.mk e43.Prop_ e43.Source v47 e43.Token)) (n := 1) (ag := true) (kk := .int .i64) (by kernel_rfl) gS (by kernel_rfl) (by kernel_rfl) rfl rfl ?_
 refine bY ?_
 exact eU (zv [(0, 0), (1, 1)] [1, 2, 5, 14, 15, 16, 35, 36, 37] 2) (hj42 _ h)
 refine za [1, 2, 5, 9, 14, 15, 16, 35, 36, 37, 43] ?_
 refine zi h (fun h => ?_) fun h => ?_
 refine zx fun _ => ?_
 refine zk 6 ?_
 obtain ⟨y45, he, h⟩ := aB h
 refine zc fok105 (Bq n _ _ _ y45 he) ?_
 clear he
 refine zk 5 ?_
 refine ze [1, 2, 5, 9, 10, 11, 14, 15, 16, 35, 36, 37] ?_
 refine aN ?_
 refine zx fun _ => ?_
 refine zk 3 ?_
 refine zE (C3 5 0) ?_
 refine zE (A7 e43.Prop_) ?_
 refine zE (A7 y45.1) ?_
 obtain ⟨y46, he, h⟩ := aB h
 refine Ry [!(!y45.2)] Xj (fun hg => nZ n _ _ y46 (cM he hg)) ?_
 clear he
 refine zE (B3 (!y46)) ?_
 refine zP (.bool ((!y45.2) || (!y46))) ?_
 refine mF [1, 2, 5, 9, 10, 14, 15, 16, 35, 36, 37, 62] (L2 := [C7 1 p1, I5, F0 5 1, I8 14 p0.order, (15, .c (I (List.length p0.order : Int))), C7 16 v26, J7 35 e32.Decls, (36, .c (I (List.length e32.Decls : Int))), C7 37 v40, A2 9 5 0, C7 10 y45.1, (62, B3 ((!y45.2) || (!y46)))]) (G2 := [F1 0 p0.shape p0.rules p0.order p0.th.Tokens p0.m, (1, .map true (G4 v41)), (5, E8 e43)]) 31 ?_
 refine zi h (fun h => ?_) fun h => ?_
 exact aJ (zv [(0, 0), (1, 1)] [1, 2, 5, 14, 15, 16, 35, 36, 37] 2) (bI (hj42 _ h))
 refine aC ?_
 refine aY ?_
 refine zb ?_
 exact eU (zv [(0, 0), (1, 1), (5, 2)] [1, 2, 5, 14, 15, 16, 35, 36, 37, 9] 3) (hj44 _ h)
 exact aJ (zv [(0, 0), (1, 1), (5, 2)] [1, 2, 5, 14, 15, 16, 35, 36, 37, 9] 3) (aC (hj44 _ h))
 exact aJ (zv [(0, 0), (1, 1)] [1, 2, 5, 14, 15, 16] 2) (bI (hj28 _ h))
 exact aJ (zv [(1, 0)] [5] 1) (bI (hj1 _ h))
def gJ  (n : Nat) (p0 : Int) : Option Bool := (gQ n p0).bind fun (y1 : Bool) => (gd [y1] (idx aW p0)).bind fun (e2 : bR) => some (y1 && e2.inherited)
theorem xF  (n : Nat) (p0 : Int) (r : Bool) (h : gJ n p0 = some r) : dJ E 76 0 [A7 p0] [] (B3 r) [] := by
 refine gY Tryz.func76 rfl ?_
 unfold gJ at h
 refine za [0] ?_
 refine zx fun _ => ?_
 refine zk 1 ?_
 obtain ⟨y1, he, h⟩ := aB h
 refine zc Tu (oY n _ y1 he) ?_
 clear he
 refine zk 1 ?_
 refine zE (A7 p0) ?_
 obtain ⟨e2, he, h⟩ := aB h
 refine Cq (es := [y1]) [(6, A7 p0, some 1)] (enc := jA) (xs := aW) (ix := p0) (e := e2) (c := [Bo e2.inherited, I e2.low, I e2.high, I e2.start]) (len := 22) (sz := 4) (fun hg => cM he hg) (by kernel_rfl) (by kernel_rfl) (by kernel_rfl) (by kernel_rfl) (by kernel_rfl) (by kernel_rfl) (fun x => by kernel_rfl) rfl rfl ?_
 clear he
 refine zE (.c (.imm [Bo e2.inherited, I e2.low, I e2.high, I e2.start])) ?_
 refine zE (B3 e2.inherited) ?_
 refine zP (.bool (y1 && e2.inherited)) ?_
 refine zk 1 ?_
 refine mF [2] (L2 := [(2, B3 (y1 && e2.inherited))]) (G2 := []) 10 ?_
 cases h
 exact aH zr
def xQ  (n : Nat) (p0 : Int) (p1 : Int) : Option Bool := some (((((p1 != 0) && (decide (p0 ≥ (-1152921504606846976 : Int)))) && (decide (p0 ≤ 1152921504606846976))) && (decide (p1 ≥ (-1152921504606846976 : Int)))) && (decide (p1 ≤ 1152921504606846976)))
theorem Mb  (n : Nat) (p0 : Int) (p1 : Int) (r : Bool) (h : xQ n p0 p1 = some r) : dJ E 137 0 [A7 p0, A7 p1] [] (B3 r) [] := by
 refine gY Tryz.func137 rfl ?_
 unfold xQ at h
 refine za [0, 1] ?_
 refine zx fun _ => ?_
 refine zk 3 ?_
 refine zE (A7 p0) ?_
 refine zE (.c (Bo (decide (p0 ≥ (-1152921504606846976 : Int))))) ?_
 refine zP (.bool ((p1 != 0) && (decide (p0 ≥ (-1152921504606846976 : Int))))) ?_
 refine zk 1 ?_
 refine zE (A7 p0) ?_
 refine zE (B3 (J5 p0)) ?_
 refine zP (.bool (((p1 != 0) && (decide (p0 ≥ (-1152921504606846976 : Int)))) && (J5 p0))) ?_
 refine zk 1 ?_
 refine zE (A7 p1) ?_
 refine zE (.c (Bo (decide (p1 ≥ (-1152921504606846976 : Int))))) ?_
 refine zP (.bool ((((p1 != 0) && (decide (p0 ≥ (-1152921504606846976 : Int)))) && (J5 p0)) && (decide (p1 ≥ (-1152921504606846976 : Int))))) ?_
 refine zk 1 ?_
 refine zE (A7 p1) ?_
 refine zE (B3 (J5 p1)) ?_
 refine zP (.bool (((((p1 != 0) && (decide (p0 ≥ (-1152921504606846976 : Int)))) && (J5 p0)) && (decide (p1 ≥ (-1152921504606846976 : Int)))) && (J5 p1))) ?_
 refine zk 1 ?_
 refine mF [4] (L2 := [(4, .c (Bo (((((p1 != 0) && (decide (p0 ≥ (-1152921504606846976 : Int)))) && (J5 p0)) && (decide (p1 ≥ (-1152921504606846976 : Int)))) && (J5 p1))))]) (G2 := []) 20 ?_
 cases h
 exact aH zr
def rG  (n : Nat) (p0 : Int) (p1 : Int) : Option Int := (nz p1).bind fun (d1 : Int) => (aR (fun (v4 : Int) => some v4) (fun (j2 : Int → Option Int) => (nz p1).bind fun (d3 : Int) => (if (decide ((Int.tmod p0 p1) < 0)) = true then j2 (IntKind.wrap .i64 ((IntKind.wrap .i64 (Int.tdiv p0 p1)) - 1)) else j2 (IntKind.wrap .i64 (Int.tdiv p0 p1)))))
theorem Dp  (n : Nat) (p0 : Int) (p1 : Int) (r : Int) (h : rG n p0 p1 = some r) : dJ E 138 0 [A7 p0, A7 p1] [] (A7 r) [] := by
 refine gY Tryz.func138 rfl ?_
 unfold rG at h
 refine za [0, 1] ?_
 refine zx fun _ => ?_
 refine zk 2 ?_
 obtain ⟨d1, he, h⟩ := aB h
 refine dR (v := .c (I (IntKind.wrap .i64 (Int.tdiv p0 p1)))) (foot := []) (rd_quo (k := .i64) (x := p0) (y := p1) he (by kernel_rfl)) (by kernel_rfl) rfl rfl ?_
 clear he
 refine zk 1 ?_
 refine ze [0, 1, 5] ?_
 refine aV h (fun A j => ∀ v4, j v4 = some r → A (mk [C7 5 v4] [] 0)) (fun v4 h => ?_) (fun j2 Aj2 hj2 h => ?_)
 refine za [4] ?_
 cases h
 exact aH zr
 refine zx fun _ => ?_
 refine zk 2 ?_
 obtain ⟨d3, he, h⟩ := aB h
 refine dR (v := .c (I (Int.tmod p0 p1))) (foot := []) (Uv (k := .i64) (x := p0) (y := p1) he (by kernel_rfl)) (by kernel_rfl) rfl rfl ?_
 clear he
 refine zk 1 ?_
 refine ze [5, 12] ?_
 refine zi h (fun h => ?_) fun h => ?_
 refine aY ?_
 refine zb ?_
 exact eU (zv [] [5] 0) (hj2 _ h)
 exact aJ (zv [] [5] 0) (aC (hj2 _ h))
def rF  (n : Nat) (p0 : Int) (p1 : Int) : Option Int := (xQ n p0 p1).bind fun (y1 : Bool) => (if (!y1) = true then some 0 else (aR (fun (v3 : Int) (v4 : Int) => (rG n (IntKind.wrap .i64 ((IntKind.wrap .i64 (2 * v3)) + v4)) (IntKind.wrap .i64 (2 * v4))).bind fun (y5 : Int) => some y5) (fun (j2 : Int → Int → Option Int) => (if (decide (p1 < 0)) = true then j2 (IntKind.wrap .i64 (0 - p0)) (IntKind.wrap .i64 (0 - p1)) else j2 p0 p1))))
theorem Dt  (n : Nat) (p0 : Int) (p1 : Int) (r : Int) (h : rF n p0 p1 = some r) : dJ E 126 0 [A7 p0, A7 p1] [] (A7 r) [] := by
 refine gY Tryz.func126 rfl ?_
 unfold rF at h
 refine za [0, 1] ?_
 refine aN ?_
 refine zx fun _ => ?_
 refine zk 2 ?_
 obtain ⟨y1, he, h⟩ := aB h
 refine zc fok137 (Mb n _ _ y1 he) ?_
 clear he
 refine zk 1 ?_
 refine ze [0, 1, 8] ?_
 refine zi h (fun h => ?_) fun h => ?_
 refine za [4] ?_
 cases h
 exact aH zr
 refine aC ?_
 refine aV h (fun A j => ∀ v3 v4, j v3 v4 = some r → A (mk [C7 0 v3, C7 1 v4] [] 0)) (fun v3 v4 h => ?_) (fun j2 Aj2 hj2 h => ?_)
 refine zx fun _ => ?_
 refine zk 6 ?_
 obtain ⟨y5, he, h⟩ := aB h
 refine zc fok138 (Dp n _ _ y5 he) ?_
 clear he
 refine zk 1 ?_
 refine ze [4] ?_
 cases h
 exact aH zr
 refine za [0, 1, 10] ?_
 refine zi h (fun h => ?_) fun h => ?_
 refine aY ?_
 refine zb ?_
 exact eU (zv [] [0, 1] 0) (hj2 _ _ h)
 exact aJ (zv [] [0, 1] 0) (aC (hj2 _ _ h))
def oI  (n : Nat) (p0 : Int) (p1 : Int) (p2 : Int) : Option (Int × Int) := (if ((((((decide (p0 < (-1099511627776 : Int))) || (decide (p0 > 1099511627776))) || (decide (p1 < 0))) || (decide (p1 > 65536))) || (decide (p2 < 1))) || (decide (p2 > 65536))) = true then some (0, 1) else (rF n (IntKind.wrap .i64 (p0 * p1)) p2).bind fun (y1 : Int) => some (y1, 0))
theorem Dk  (n : Nat) (p0 : Int) (p1 : Int) (p2 : Int) (r : (Int × Int)) (h : oI n p0 p1 p2 = some r) : dJ E 106 0 [A7 p0, A7 p1, A7 p2] [] (.tup [A7 r.1, A7 r.2]) [] := by
 refine gY Tryz.func106 rfl ?_
 unfold oI at h
 refine za [0, 1, 2] ?_
 refine aN ?_
 refine zx fun _ => ?_
 refine zk 3 ?_
 refine zE (A7 p0) ?_
 refine zE (B3 (I1 p0)) ?_
 refine zP (.bool ((decide (p0 < (-1099511627776 : Int))) || (I1 p0))) ?_
 refine zk 1 ?_
 refine zE (A7 p1) ?_
 refine zE (I6 p1 0) ?_
 refine zP (.bool (((decide (p0 < (-1099511627776 : Int))) || (I1 p0)) || (D3 p1 0))) ?_
 refine zk 1 ?_
 refine zE (A7 p1) ?_
 refine zE (K3 p1 65536) ?_
 refine zP (.bool ((((decide (p0 < (-1099511627776 : Int))) || (I1 p0)) || (D3 p1 0)) || (D7 p1 65536))) ?_
 refine zk 1 ?_
 refine zE (A7 p2) ?_
 refine zE (I6 p2 1) ?_
 refine zP (.bool (((((decide (p0 < (-1099511627776 : Int))) || (I1 p0)) || (D3 p1 0)) || (D7 p1 65536)) || (D3 p2 1))) ?_
 refine zk 1 ?_
 refine zE (A7 p2) ?_
 refine zE (K3 p2 65536) ?_
 refine zP (.bool ((((((decide (p0 < (-1099511627776 : Int))) || (I1 p0)) || (D3 p1 0)) || (D7 p1 65536)) || (D3 p2 1)) || (D7 p2 65536))) ?_
 refine mF [0, 1, 2, 29] (L2 := [C7 0 p0, C7 1 p1, C7 2 p2, (29, .c (Bo ((((((decide (p0 < (-1099511627776 : Int))) || (I1 p0)) || (D3 p1 0)) || (D7 p1 65536)) || (D3 p2 1)) || (D7 p2 65536))))]) (G2 := []) 24 ?_
 refine zi h (fun h => ?_) fun h => ?_
 refine za [6, 7] ?_
 cases h
 exact aH zr
 refine aC ?_
 refine zx fun _ => ?_
 refine zk 4 ?_
 obtain ⟨y1, he, h⟩ := aB h
 refine zc fok126 (Dt n _ _ y1 he) ?_
 clear he
 refine zk 2 ?_
 refine ze [6, 7] ?_
 cases h
 exact aH zr
def lG  (n : Nat) (p0 : Int) (p1 : Int) (p2 : Int) : Option Int := (if ((decide (p0 < p1)) || (decide (p2 < p1))) = true then some p1 else (if (decide (p0 > p2)) = true then some p2 else some p0))
theorem Cx  (n : Nat) (p0 : Int) (p1 : Int) (p2 : Int) (r : Int) (h : lG n p0 p1 p2 = some r) : dJ E 107 0 [A7 p0, A7 p1, A7 p2] [] (A7 r) [] := by
 refine gY Tryz.func107 rfl ?_
 unfold lG at h
 refine za [0, 1, 2] ?_
 refine aN ?_
 refine aI ?_
 refine zx fun _ => ?_
 refine zk 4 ?_
 refine zE (A7 p2) ?_
 refine zE (A7 p1) ?_
 refine zE (I6 p2 p1) ?_
 refine zP (.bool ((D3 p0 p1) || (D3 p2 p1))) ?_
 refine zk 1 ?_
 refine ze [0, 1, 2, 7] ?_
 refine zi h (fun h => ?_) fun h => ?_
 refine za [6] ?_
 cases h
 exact aH zr
 refine za [0, 2, 17] ?_
 refine zi h (fun h => ?_) fun h => ?_
 refine za [6] ?_
 cases h
 exact aH zr
 refine aC ?_
 refine za [6] ?_
 cases h
 exact aH zr
def lJ  (n : Nat) (p0 : cQ) (p1 : Int) : Option Int := (aR (fun (v3 : Int) => (lG n v3 1 1000).bind fun (y4 : Int) => some y4) (fun (j1 : Int → Option Int) => (if ((((decide (p0.Scale ≥ 50)) && (decide (p0.Scale ≤ 400))) && (decide (p1 ≥ 1))) && (decide (p1 ≤ 1000))) = true then (oI n p1 p0.Scale 100).bind fun (y2 : (Int × Int)) => j1 y2.1 else j1 p1)))
theorem Gk  (n : Nat) (p0 : cQ) (p1 : Int) (r : Int) (h : lJ n p0 p1 = some r) : dJ E 77 0 [.agg [Bo p0.Dark, Bo p0.High, I p0.Scale], A7 p1] [] (A7 r) [] := by
 refine gY Tryz.func77 rfl ?_
 unfold lJ at h
 refine za [1, 2] ?_
 refine aV h (fun A j => ∀ v3, j v3 = some r → A (mk [C7 1 v3] [] 0)) (fun v3 h => ?_) (fun j1 Aj1 hj1 h => ?_)
 refine zx fun _ => ?_
 refine zk 1 ?_
 obtain ⟨y4, he, h⟩ := aB h
 refine zc fok107 (Cx n _ _ _ y4 he) ?_
 clear he
 refine zk 1 ?_
 refine ze [4] ?_
 cases h
 exact aH zr
 refine zx fun _ => ?_
 refine zk 4 ?_
 refine zE (C3 0 2) ?_
 refine zE (A7 p0.Scale) ?_
 refine zE (B3 (H8 p0.Scale 400)) ?_
 refine zP (.bool (C9 p0.Scale 50 400)) ?_
 refine zk 1 ?_
 refine zE (A7 p1) ?_
 refine zE (B3 (H9 p1 1)) ?_
 refine zP (.bool ((C9 p0.Scale 50 400) && (H9 p1 1))) ?_
 refine zk 1 ?_
 refine zE (A7 p1) ?_
 refine zE (B3 (H8 p1 1000)) ?_
 refine zP (.bool (((C9 p0.Scale 50 400) && (H9 p1 1)) && (H8 p1 1000))) ?_
 refine mF [1, 2, 20] (L2 := [C7 1 p1, I5, (20, B3 (((C9 p0.Scale 50 400) && (H9 p1 1)) && (H8 p1 1000)))]) (G2 := [(0, J4 p0)]) 18 ?_
 refine zi h (fun h => ?_) fun h => ?_
 refine aY ?_
 refine zy fun _ => ?_
 refine zk 3 ?_
 obtain ⟨y2, he, h⟩ := aB h
 refine zc fok106 (Dk n _ _ _ y2 he) ?_
 clear he
 refine zk 4 ?_
 refine bY ?_
 exact eU (zv [] [1] 0) (hj1 _ h)
 exact aJ (zv [] [1] 0) (aC (hj1 _ h))
def dV (y1 : (List (Int × bJ))) (p0 : hZ) (p3 : Bool) (p2 : aA) (j2 : aA → Option aA) : Nat → Int → aA → Option aA
 | 0, _, _ => none
 | n + 1, v10, v11 => (if (decide (v10 < 22)) = true then (aR (fun (v27 : aA) => dV y1 p0 p3 p2 j2 n (IntKind.wrap .i64 (v10 + 1)) v27) (fun (j12 : aA → Option aA) => (some (eN v10 y1, jZ v10 y1)).bind fun (y13 : (bJ × Bool)) => (gd [(!(y13.2 && (y13.1.Source == 2))), (!y13.2)] (gJ n v10)).bind fun (y14 : Bool) => (aR (fun (v22 : aA) => (if (v10 == 2) = true then (uC v10 22).bind fun (k23 : Nat) => ((aA.toL v22)[k23]?).bind fun (e24 : Int) => (lJ n p0.m e24).bind fun (y25 : Int) => (uC v10 22).bind fun (k26 : Nat) => j12 (aA.set v22 k26 y25) else j12 v22)) (fun (j15 : aA → Option aA) => (if (((y13.2 && (y13.1.Source == 2)) || ((!y13.2) && y14)) && (!p3)) = true then (uC v10 22).bind fun (k16 : Nat) => ((aA.toL p2)[k16]?).bind fun (e17 : Int) => (uC v10 22).bind fun (k18 : Nat) => j12 (aA.set v11 k18 e17) else (if (y13.2 && ((y13.1.Source == 0) || (y13.1.Source == 1))) = true then (uC v10 22).bind fun (k19 : Nat) => j15 (aA.set v11 k19 y13.1.N) else (idx aW v10).bind fun (e20 : bR) => (uC v10 22).bind fun (k21 : Nat) => j15 (aA.set v11 k21 e20.start))))))) else j2 v11)
def mH  (n : Nat) (p0 : hZ) (p1 : Int) (p2 : aA) (p3 : Bool) : Option aA := (lC n p0 p1).bind fun (y1 : (List (Int × bJ))) => (aR (fun (v30 : aA) => some v30) (fun (j2 : aA → Option aA) => dV y1 p0 p3 p2 j2 n 0 (aA.mk 0 0 0 0 0 0 0 0 0 0 0 0 0 0 0 0 0 0 0 0 0 0)))
theorem zS  (n : Nat) (p0 : hZ) (p1 : Int) (p2 : aA) (p3 : Bool) (r : aA) (h : mH n p0 p1 p2 p3 = some r) : dJ E 42 0 [.agg [B8 p0.shape.nodes, D2 p0.shape.class_, D9 p0.shape.states, D4 p0.rules, C1 p0.order, F7 p0.th.Tokens, Bo p0.m.Dark, Bo p0.m.High, I p0.m.Scale], A7 p1, F2 p2, B3 p3] [] (F2 r) [] := by
 refine gY Tryz.func42 rfl ?_
 unfold mH at h
 refine za [1, 3, 4, 6, 8] ?_
 refine zx fun _ => ?_
 refine zk 2 ?_
 obtain ⟨y1, he, h⟩ := aB h
 refine zc fok75 (xS n _ _ y1 he) ?_
 clear he
 refine zk 1 ?_
 refine ze [3, 4, 6, 8, 9] ?_
 refine za [3, 4, 6, 8, 9, 10] ?_
 refine aV h (fun A j => ∀ v30, j v30 = some r → A (mk [A2 8 0 0, A2 10 1 0] [(0, C6), (1, A5 v30)] 2)) (fun v30 h => ?_) (fun j2 Aj2 hj2 h => ?_)
 refine za [8] ?_
 cases h
 exact aH zr
 refine za [3, 4, 6, 8, 9, 10, 18] ?_
 refine aI ?_
 refine bH (fun n s => ∃ v10 v11, dV y1 p0 p3 p2 j2 n v10 v11 = some r ∧ s = mk [(3, B3 p3), K2, L6, A2 8 2 0, (9, K5 y1), A2 10 3 0, C7 18 v10] [F1 0 p0.shape p0.rules p0.order p0.th.Tokens p0.m, (1, A5 p2), (2, C6), (3, A5 v11)] 4) n _ (zv [(0, 0), (1, 1), (2, 2), (7, 3)] [3, 4, 6, 8, 9, 10, 18] 4) ⟨_, _, h, rfl⟩ (fun s ⟨v10, v11, h, _⟩ => nomatch h) ?_
 rintro n s ⟨v10, v11, h, rfl⟩
 rw [dV] at h
 refine za [3, 4, 6, 8, 9, 10, 18, 19] ?_
 refine aN ?_
 refine zi h (fun h => ?_) fun h => ?_
 refine aC ?_
 refine aV h (fun A j => ∀ v27, j v27 = some r → A (mk [(3, B3 p3), K2, L6, A2 8 2 0, (9, K5 y1), A2 10 3 0, C7 18 v10] [F1 0 p0.shape p0.rules p0.order p0.th.Tokens p0.m, (1, A5 p2), (2, C6), (3, A5 v27)] 4)) (fun v27 h => ?_) (fun j12 Aj12 hj12 h => ?_)
 refine aY ?_
 refine zb ?_
 exact eU (zv [(0, 0), (1, 1), (2, 2), (3, 3)] [3, 4, 6, 8, 9, 10, 18] 4) (⟨_, _, h, rfl⟩)
 refine aI ?_
 refine za [3, 4, 6, 8, 9, 10, 11, 18] ?_
 refine zx fun _ => ?_
 refine zk 2 ?_
 obtain ⟨y13, he, h⟩ := aB h
 refine zw (v := .tup [.agg [I y13.1.Prop_, I y13.1.Source, I y13.1.N, Sx y13.1.Token], B3 y13.2]) [] (dH (kf := (A6)) (enc := bU) (l := y1) (k := v10) (ok := true) (kk := .int .i64) (j := ⟨.st [(3, 0, 1), (3, 1, 1), (3, 2, 1), (9, 3, 1)], 4, 40, [.int .i64 0, .int .i64 0, .int .i64 0, .string ⟨#[]⟩]⟩) (p := y13) (v := .agg [I y13.1.Prop_, I y13.1.Source, I y13.1.N, Sx y13.1.Token]) he (by kernel_rfl) gS (by kernel_rfl) (by kernel_rfl) (by kernel_rfl)) ?_
 clear he
 refine zk 6 ?_
 refine ze [3, 4, 6, 8, 9, 10, 11, 12, 13, 18] ?_
 refine zx fun _ => ?_
 refine zk 2 ?_
 refine zE (C3 13 1) ?_
 refine zE (A7 y13.1.Source) ?_
 refine zE (B3 (y13.1.Source == 2)) ?_
 refine zP (.bool (y13.2 && (y13.1.Source == 2))) ?_
 refine zk 1 ?_
 refine zE (B3 y13.2) ?_
 refine zE (B3 (!y13.2)) ?_
 refine zF [!(y13.2 && (y13.1.Source == 2))] (B3 (!y13.2)) ?_
 refine zE (A7 v10) ?_
 obtain ⟨y14, he, h⟩ := aB h
 refine Ry [!(y13.2 && (y13.1.Source == 2)), !y13.2] fok76 (fun hg => xF n _ y14 (cM he hg)) ?_
 clear he
 refine zP (.bool ((!y13.2) && y14)) ?_
 refine zP (.bool ((y13.2 && (y13.1.Source == 2)) || ((!y13.2) && y14))) ?_
 refine zk 1 ?_
 refine mF [3, 4, 6, 8, 9, 10, 11, 12, 13, 14, 18] (L2 := [(3, B3 p3), K2, L6, A2 8 2 0, (9, K5 y1), A2 10 3 0, C7 18 v10, C7 11 v10, A2 12 13 0, (13, B3 y13.2), (14, B3 ((y13.2 && (y13.1.Source == 2)) || ((!y13.2) && y14)))]) (G2 := [F1 0 p0.shape p0.rules p0.order p0.th.Tokens p0.m, (1, A5 p2), (2, C6), (3, A5 v11), (13, E8 y13.1)]) 31 ?_
 refine aV h (fun A j => ∀ v22, j v22 = some r → A (mk [(3, B3 p3), K2, L6, A2 8 2 0, (9, K5 y1), A2 10 3 0, C7 18 v10, C7 11 v10] [F1 0 p0.shape p0.rules p0.order p0.th.Tokens p0.m, (1, A5 p2), (2, C6), (3, A5 v22)] 4)) (fun v22 h => ?_) (fun j15 Aj15 hj15 h => ?_)
 refine za [3, 4, 6, 8, 9, 10, 11, 18, 75] ?_
 refine zi h (fun h => ?_) fun h => ?_
 refine aY ?_
 refine Tm [[], [], [1], [], [3], [4, 3], [2, 5, 1, 4, 3], [0, 1, 2, 3, 4, 5, 6], [7, 6, 0, 1, 2, 3, 4, 5]] fun _ => ?_
 refine zk 4 ?_
 obtain ⟨k23, he, h⟩ := aB h
 refine dR (v := .c (.ptr 3 (0 + k23 * 1))) (foot := []) (Eb (n := 3) (q := 0) (len := 22) (sz := 1) (k := k23) (ix := v10) he (by kernel_rfl)) (by kernel_rfl) rfl rfl ?_
 have hb_k23 := nX he; clear he
 obtain ⟨e24, he, h⟩ := aB h
 refine dR (v := .c (I e24)) (foot := [3]) (Vd (n := 3) (off := (0 + k23 * 1)) (l := [I v22.x0, I v22.x1, I v22.x2, I v22.x3, I v22.x4, I v22.x5, I v22.x6, I v22.x7, I v22.x8, I v22.x9, I v22.x10, I v22.x11, I v22.x12, I v22.x13, I v22.x14, I v22.x15, I v22.x16, I v22.x17, I v22.x18, I v22.x19, I v22.x20, I v22.x21]) (j := ⟨.int .i64, 1, 8, [.int .i64 0]⟩) (v := .c (I e24)) (by kernel_rfl) (Na (enc := aO) (xs := (aA.toL v22)) (k := k23) (e := e24) he (by rw [Nat.zero_add]; kernel_rfl) (fun x => by kernel_rfl) (by decide) (by kernel_rfl))) (by kernel_rfl) rfl rfl ?_
 clear he
 obtain ⟨y25, he, h⟩ := aB h
 refine zc fok77 (Gk n _ _ y25 he) ?_
 clear he
 obtain ⟨k26, he, h⟩ := aB h
 refine dR (v := .c (.ptr 3 (0 + k26 * 1))) (foot := []) (Eb (n := 3) (q := 0) (len := 22) (sz := 1) (k := k26) (ix := v10) he (by kernel_rfl)) (by kernel_rfl) rfl rfl ?_
 have hb_k26 := nX he; clear he
 refine sO (n := 3) (off := (0 + k26 * 1)) (T0 := 52) (sz := 1) (lx := [I y25]) (l := [I v22.x0, I v22.x1, I v22.x2, I v22.x3, I v22.x4, I v22.x5, I v22.x6, I v22.x7, I v22.x8, I v22.x9, I v22.x10, I v22.x11, I v22.x12, I v22.x13, I v22.x14, I v22.x15, I v22.x16, I v22.x17, I v22.x18, I v22.x19, I v22.x20, I v22.x21]) (l2 := [I ((E0 v22 k26 y25).x0), I ((E0 v22 k26 y25).x1), I ((E0 v22 k26 y25).x2), I ((E0 v22 k26 y25).x3), I ((E0 v22 k26 y25).x4), I ((E0 v22 k26 y25).x5), I ((E0 v22 k26 y25).x6), I ((E0 v22 k26 y25).x7), I ((E0 v22 k26 y25).x8), I ((E0 v22 k26 y25).x9), I ((E0 v22 k26 y25).x10), I ((E0 v22 k26 y25).x11), I ((E0 v22 k26 y25).x12), I ((E0 v22 k26 y25).x13), I ((E0 v22 k26 y25).x14), I ((E0 v22 k26 y25).x15), I ((E0 v22 k26 y25).x16), I ((E0 v22 k26 y25).x17), I ((E0 v22 k26 y25).x18), I ((E0 v22 k26 y25).x19), I ((E0 v22 k26 y25).x20), I ((E0 v22 k26 y25).x21)]) (by kernel_rfl) (by kernel_rfl) (by simp only [List.length_cons, List.length_nil]; omega) (by rw [Nat.zero_add]; exact aA.splice_eq v22 k26 y25 hb_k26) (by kernel_rfl) rfl rfl ?_
 refine bY ?_
 exact eU (zv [(0, 0), (1, 1), (2, 2), (3, 3)] [3, 4, 6, 8, 9, 10, 18] 4) (hj12 _ h)
 exact aJ (zv [(0, 0), (1, 1), (2, 2), (3, 3)] [3, 4, 6, 8, 9, 10, 18] 4) (aC (hj12 _ h))
 refine aI ?_
 refine zx fun _ => ?_
 refine zk 2 ?_
 refine zE (B3 p3) ?_
 refine zE (B3 (!p3)) ?_
 refine zP (.bool (((y13.2 && (y13.1.Source == 2)) || ((!y13.2) && y14)) && (!p3))) ?_
 refine zk 1 ?_
 refine ze [3, 4, 6, 8, 9, 10, 11, 12, 13, 18, 47] ?_
 refine zi h (fun h => ?_) fun h => ?_
 refine zx fun _ => ?_
 refine zk 2 ?_
 obtain ⟨k16, he, h⟩ := aB h
 refine dR (v := .c (.ptr 1 (0 + k16 * 1))) (foot := []) (Eb (n := 1) (q := 0) (len := 22) (sz := 1) (k := k16) (ix := v10) he (by kernel_rfl)) (by kernel_rfl) rfl rfl ?_
 have hb_k16 := nX he; clear he
 obtain ⟨e17, he, h⟩ := aB h
 refine dR (v := .c (I e17)) (foot := [1]) (Vd (n := 1) (off := (0 + k16 * 1)) (l := [I p2.x0, I p2.x1, I p2.x2, I p2.x3, I p2.x4, I p2.x5, I p2.x6, I p2.x7, I p2.x8, I p2.x9, I p2.x10, I p2.x11, I p2.x12, I p2.x13, I p2.x14, I p2.x15, I p2.x16, I p2.x17, I p2.x18, I p2.x19, I p2.x20, I p2.x21]) (j := ⟨.int .i64, 1, 8, [.int .i64 0]⟩) (v := .c (I e17)) (by kernel_rfl) (Na (enc := aO) (xs := (aA.toL p2)) (k := k16) (e := e17) he (by rw [Nat.zero_add]; kernel_rfl) (fun x => by kernel_rfl) (by decide) (by kernel_rfl))) (by kernel_rfl) rfl rfl ?_
 clear he
 obtain ⟨k18, he, h⟩ := aB h
 refine dR (v := .c (.ptr 3 (0 + k18 * 1))) (foot := []) (Eb (n := 3) (q := 0) (len := 22) (sz := 1) (k := k18) (ix := v10) he (by kernel_rfl)) (by kernel_rfl) rfl rfl ?_
 have hb_k18 := nX he; clear he
 refine sO (n := 3) (off := (0 + k18 * 1)) (T0 := 52) (sz := 1) (lx := [I e17]) (l := [I v11.x0, I v11.x1, I v11.x2, I v11.x3, I v11.x4, I v11.x5, I v11.x6, I v11.x7, I v11.x8, I v11.x9, I v11.x10, I v11.x11, I v11.x12, I v11.x13, I v11.x14, I v11.x15, I v11.x16, I v11.x17, I v11.x18, I v11.x19, I v11.x20, I v11.x21]) (l2 := [I ((E0 v11 k18 e17).x0), I ((E0 v11 k18 e17).x1), I ((E0 v11 k18 e17).x2), I ((E0 v11 k18 e17).x3), I ((E0 v11 k18 e17).x4), I ((E0 v11 k18 e17).x5), I ((E0 v11 k18 e17).x6), I ((E0 v11 k18 e17).x7), I ((E0 v11 k18 e17).x8), I ((E0 v11 k18 e17).x9), I ((E0 v11 k18 e17).x10), I ((E0 v11 k18 e17).x11), I ((E0 v11 k18 e17).x12), I ((E0 v11 k18 e17).x13), I ((E0 v11 k18 e17).x14), I ((E0 v11 k18 e17).x15), I ((E0 v11 k18 e17).x16), I ((E0 v11 k18 e17).x17), I ((E0 v11 k18 e17).x18), I ((E0 v11 k18 e17).x19), I ((E0 v11 k18 e17).x20), I ((E0 v11 k18 e17).x21)]) (by kernel_rfl) (by kernel_rfl) (by simp only [List.length_cons, List.length_nil]; omega) (by rw [Nat.zero_add]; exact aA.splice_eq v11 k18 e17 hb_k18) (by kernel_rfl) rfl rfl ?_
 refine mF [3, 4, 6, 8, 9, 10, 18] (L2 := [(3, B3 p3), K2, L6, A2 8 2 0, (9, K5 y1), A2 10 3 0, C7 18 v10]) (G2 := [F1 0 p0.shape p0.rules p0.order p0.th.Tokens p0.m, (1, A5 p2), (2, C6), (3, .blk 52 [I ((E0 v11 k18 e17).x0), I ((E0 v11 k18 e17).x1), I ((E0 v11 k18 e17).x2), I ((E0 v11 k18 e17).x3), I ((E0 v11 k18 e17).x4), I ((E0 v11 k18 e17).x5), I ((E0 v11 k18 e17).x6), I ((E0 v11 k18 e17).x7), I ((E0 v11 k18 e17).x8), I ((E0 v11 k18 e17).x9), I ((E0 v11 k18 e17).x10), I ((E0 v11 k18 e17).x11), I ((E0 v11 k18 e17).x12), I ((E0 v11 k18 e17).x13), I ((E0 v11 k18 e17).x14), I ((E0 v11 k18 e17).x15), I ((E0 v11 k18 e17).x16), I ((E0 v11 k18 e17).x17), I ((E0 v11 k18 e17).x18), I ((E0 v11 k18 e17).x19), I ((E0 v11 k18 e17).x20), I ((E0 v11 k18 e17).x21)]), (13, E8 y13.1)]) 43 ?_
 exact aJ (zv [(0, 0), (1, 1), (2, 2), (3, 3)] [3, 4, 6, 8, 9, 10, 18] 4) (bI (hj12 _ h))
 refine zx fun _ => ?_
 refine zk 2 ?_
 refine zE (C3 13 1) ?_
 refine zE (A7 y13.1.Source) ?_
 refine zE (B3 (y13.1.Source == 0)) ?_
 refine zF [y13.2] (B3 (y13.1.Source == 0)) ?_
 refine zE (C3 13 1) ?_
 refine zE (A7 y13.1.Source) ?_
 refine zE (B3 (y13.1.Source == 1)) ?_
 refine zP (.bool ((y13.1.Source == 0) || (y13.1.Source == 1))) ?_
 refine zP (.bool (y13.2 && ((y13.1.Source == 0) || (y13.1.Source == 1)))) ?_
 refine zk 1 ?_
 refine mF [3, 4, 6, 8, 9, 10, 11, 12, 18, 58] (L2 := [(3, B3 p3), K2, L6, A2 8 2 0, (9, K5 y1), A2 10 3 0, C7 18 v10, C7 11 v10, A2 12 13 0, (58, B3 (y13.2 && ((y13.1.Source == 0) || (y13.1.Source == 1))))]) (G2 := [F1 0 p0.shape p0.rules p0.order p0.th.Tokens p0.m, (1, A5 p2), (2, C6), (3, A5 v11), (13, E8 y13.1)]) 49 ?_
 refine zi h (fun h => ?_) fun h => ?_
 refine aY ?_
 refine zy fun _ => ?_
 refine zk 3 ?_
 obtain ⟨k19, he, h⟩ := aB h
 refine dR (v := .c (.ptr 3 (0 + k19 * 1))) (foot := []) (Eb (n := 3) (q := 0) (len := 22) (sz := 1) (k := k19) (ix := v10) he (by kernel_rfl)) (by kernel_rfl) rfl rfl ?_
 have hb_k19 := nX he; clear he
 refine sO (n := 3) (off := (0 + k19 * 1)) (T0 := 52) (sz := 1) (lx := [I y13.1.N]) (l := [I v11.x0, I v11.x1, I v11.x2, I v11.x3, I v11.x4, I v11.x5, I v11.x6, I v11.x7, I v11.x8, I v11.x9, I v11.x10, I v11.x11, I v11.x12, I v11.x13, I v11.x14, I v11.x15, I v11.x16, I v11.x17, I v11.x18, I v11.x19, I v11.x20, I v11.x21]) (l2 := [I ((E0 v11 k19 y13.1.N).x0), I ((E0 v11 k19 y13.1.N).x1), I ((E0 v11 k19 y13.1.N).x2), I ((E0 v11 k19 y13.1.N).x3), I ((E0 v11 k19 y13.1.N).x4), I ((E0 v11 k19 y13.1.N).x5), I ((E0 v11 k19 y13.1.N).x6), I ((E0 v11 k19 y13.1.N).x7), I ((E0 v11 k19 y13.1.N).x8), I ((E0 v11 k19 y13.1.N).x9), I ((E0 v11 k19 y13.1.N).x10), I ((E0 v11 k19 y13.1.N).x11), I ((E0 v11 k19 y13.1.N).x12), I ((E0 v11 k19 y13.1.N).x13), I ((E0 v11 k19 y13.1.N).x14), I ((E0 v11 k19 y13.1.N).x15), I ((E0 v11 k19 y13.1.N).x16), I ((E0 v11 k19 y13.1.N).x17), I ((E0 v11 k19 y13.1.N).x18), I ((E0 v11 k19 y13.1.N).x19), I ((E0 v11 k19 y13.1.N).x20), I ((E0 v11 k19 y13.1.N).x21)]) (by kernel_rfl) (by kernel_rfl) (by simp only [List.length_cons, List.length_nil]; omega) (by rw [Nat.zero_add]; exact aA.splice_eq v11 k19 y13.1.N hb_k19) (by kernel_rfl) rfl rfl ?_
 refine bY ?_
 exact eU (zv [(0, 0), (1, 1), (2, 2), (3, 3)] [3, 4, 6, 8, 9, 10, 18, 11] 4) (hj15 _ h)
 refine aY ?_
 refine zy fun _ => ?_
 refine zk 2 ?_
 obtain ⟨e20, he, h⟩ := aB h
 refine Rk (enc := jA) (xs := aW) (ix := v10) (e := e20) (c := [Bo e20.inherited, I e20.low, I e20.high, I e20.start]) (len := 22) (sz := 4) he (by kernel_rfl) (by kernel_rfl) (by kernel_rfl) (fun x => by kernel_rfl) (by kernel_rfl) rfl rfl ?_
 clear he
 refine zk 2 ?_
 obtain ⟨k21, he, h⟩ := aB h
 refine dR (v := .c (.ptr 3 (0 + k21 * 1))) (foot := []) (Eb (n := 3) (q := 0) (len := 22) (sz := 1) (k := k21) (ix := v10) he (by kernel_rfl)) (by kernel_rfl) rfl rfl ?_
 have hb_k21 := nX he; clear he
 refine sO (n := 3) (off := (0 + k21 * 1)) (T0 := 52) (sz := 1) (lx := [I e20.start]) (l := [I v11.x0, I v11.x1, I v11.x2, I v11.x3, I v11.x4, I v11.x5, I v11.x6, I v11.x7, I v11.x8, I v11.x9, I v11.x10, I v11.x11, I v11.x12, I v11.x13, I v11.x14, I v11.x15, I v11.x16, I v11.x17, I v11.x18, I v11.x19, I v11.x20, I v11.x21]) (l2 := [I ((E0 v11 k21 e20.start).x0), I ((E0 v11 k21 e20.start).x1), I ((E0 v11 k21 e20.start).x2), I ((E0 v11 k21 e20.start).x3), I ((E0 v11 k21 e20.start).x4), I ((E0 v11 k21 e20.start).x5), I ((E0 v11 k21 e20.start).x6), I ((E0 v11 k21 e20.start).x7), I ((E0 v11 k21 e20.start).x8), I ((E0 v11 k21 e20.start).x9), I ((E0 v11 k21 e20.start).x10), I ((E0 v11 k21 e20.start).x11), I ((E0 v11 k21 e20.start).x12), I ((E0 v11 k21 e20.start).x13), I ((E0 v11 k21 e20.start).x14), I ((E0 v11 k21 e20.start).x15), I ((E0 v11 k21 e20.start).x16), I ((E0 v11 k21 e20.start).x17), I ((E0 v11 k21 e20.start).x18), I ((E0 v11 k21 e20.start).x19), I ((E0 v11 k21 e20.start).x20), I ((E0 v11 k21 e20.start).x21)]) (by kernel_rfl) (by kernel_rfl) (by simp only [List.length_cons, List.length_nil]; omega) (by rw [Nat.zero_add]; exact aA.splice_eq v11 k21 e20.start hb_k21) (by kernel_rfl) rfl rfl ?_
 refine bY ?_
 exact eU (zv [(0, 0), (1, 1), (2, 2), (3, 3)] [3, 4, 6, 8, 9, 10, 18, 11] 4) (hj15 _ h)
 exact aJ (zv [(2, 0), (3, 1)] [8, 10] 2) (bI (hj2 _ h))
end Go.Proofs.YtojkihhnioeggaaGreatDoor.S
