import Derived.Test.YtojkihhnioeggaaGreatDoorQUGM7
set_option linter.unusedVariables false
set_option linter.unusedSimpArgs false
set_option maxRecDepth 100000
set_option maxHeartbeats 4000000
namespace Go.Proofs.YtojkihhnioeggaaGreatDoor.S
open Go Go.Bm
def fO (e32 : bY) (p0 : iF) (j28 : List (Int × bM) → Option (List (Int × bM))) (p1 : Int) (v26 : Int) : Nat → Int → List (Int × bM) → Option (List (Int × bM))
 | 0, _, _ => none
 | n + 1, v40, v41 => (if (decide (v40 < (List.length e32.Decls : Int))) = true then (aS (fun (v48 : List (Int × bM)) => fO e32 p0 j28 p1 v26 n (IntKind.wrap .i64 (v40 + 1)) v48) (fun (j42 : List (Int × bM) → Option (List (Int × bM))) => (idx e32.Decls v40).bind fun (e43 : bM) => (aS (fun (v47 : Int) => j42 (fY e43.Prop_ (bM.mk e43.Prop_ e43.Source v47 e43.Token) v41)) (fun (j44 : Int → Option (List (Int × bM))) => (if (e43.Source == 1) = true then (nU n p0.th p0.m e43.Token).bind fun (y45 : (Int × Bool)) => (gd [(!(!y45.2))] (dC n e43.Prop_ y45.1)).bind fun (y46 : Bool) => (if ((!y45.2) || (!y46)) = true then j42 v41 else j44 y45.1) else j44 e43.N))))) else j28 v41)
def fL (p0 : iF) (p1 : Int) (j1 : List (Int × bM) → Option (List (Int × bM))) : Nat → Int → List (Int × bM) → Option (List (Int × bM))
 | 0, _, _ => none
 | n + 1, v26, v27 => (if (decide (v26 < (List.length p0.order : Int))) = true then (aS (fun (v51 : List (Int × bM)) => fL p0 p1 j1 n (IntKind.wrap .i64 (v26 + 1)) v51) (fun (j28 : List (Int × bM) → Option (List (Int × bM))) => (idx p0.order v26).bind fun (e29 : Int) => (idx p0.rules e29).bind fun (e30 : bY) => (kO n p0.shape e30 p1).bind fun (y31 : Bool) => (if (!y31) = true then j28 v27 else (idx p0.rules e29).bind fun (e32 : bY) => fO e32 p0 j28 p1 v26 n 0 v27))) else j1 v27)
def lF  (n : Nat) (p0 : iF) (p1 : Int) : Option (List (Int × bM)) := (aS (fun (v54 : List (Int × bM)) => some v54) (fun (j1 : List (Int × bM) → Option (List (Int × bM))) => fL p0 p1 j1 n 0 ([] : List (Int × bM))))
theorem yK  (n : Nat) (p0 : iF) (p1 : Int) (r : (List (Int × bM))) (h : lF n p0 p1 = some r) : dI E 75 0 [.agg [C2 p0.shape.nodes, C4 p0.shape.class_, D6 p0.shape.states, D3 p0.rules, C1 p0.order, E4 p0.th.Tokens, Bo p0.m.Dark, Bo p0.m.High, I p0.m.Scale], A6 p1] [] (L8 r) [] := by
 refine gT Tryz.func75 rfl ?_
 unfold lF at h
 refine za [1, 2] ?_
 refine za [1, 2, 5] ?_
 refine aX h (fun A j => ∀ v54, j v54 = some r → A (mk [E6 5 0] [(0, .map true (G9 v54))] 1)) (fun v54 h => ?_) (fun j1 Aj1 hj1 h => ?_)
 refine za [4] ?_
 refine aL (sL 0 (ag := true) (l := List.map (eM (A9) bZ) v54) (L2 := [(4, L8 v54)]) (G2 := []) (by kernel_rfl) (by kernel_rfl) (by kernel_rfl)) ?_
 cases h
 exact aI zr
 refine zx fun _ => ?_
 refine zk 2 ?_
 refine zl aH p0.order ?_
 refine zk 1 ?_
 refine ze [1, 2, 5, 14, 15, 16] ?_
 refine aK ?_
 refine bJ (fun n s => ∃ v26 v27, fL p0 p1 j1 n v26 v27 = some r ∧ s = mk [C6 1 p1, J3, E6 5 1, H1 14 p0.order, (15, .c (I (List.length p0.order : Int))), C6 16 v26] [F8 0 p0.shape p0.rules p0.order p0.th.Tokens p0.m, (1, .map true (G9 v27))] 2) n _ (zv [(0, 0), (2, 1)] [1, 2, 5, 14, 15, 16] 2) ⟨_, _, h, rfl⟩ (fun s ⟨v26, v27, h, _⟩ => nomatch h) ?_
 rintro n s ⟨v26, v27, h, rfl⟩
 rw [fL] at h
 refine za [1, 2, 5, 14, 15, 16, 17] ?_
 refine aO ?_
 refine zi h (fun h => ?_) fun h => ?_
 refine aC ?_
 refine aX h (fun A j => ∀ v51, j v51 = some r → A (mk [C6 1 p1, J3, E6 5 1, H1 14 p0.order, (15, .c (I (List.length p0.order : Int))), C6 16 v26] [F8 0 p0.shape p0.rules p0.order p0.th.Tokens p0.m, (1, .map true (G9 v51))] 2)) (fun v51 h => ?_) (fun j28 Aj28 hj28 h => ?_)
 refine bB ?_
 refine zb ?_
 exact eZ (zv [(0, 0), (1, 1)] [1, 2, 5, 14, 15, 16] 2) (⟨_, _, h, rfl⟩)
 refine aK ?_
 refine zx fun _ => ?_
 obtain ⟨e29, he, h⟩ := aB h
 refine zd aH he ?_
 clear he
 refine zk 2 ?_
 refine ze [1, 2, 5, 7, 14, 15, 16] ?_
 refine aO ?_
 refine Dm [[], [0], [], [2], [], [3, 4, 2], [5, 3, 4, 2], [], [1, 6, 7, 0, 5, 3, 4, 2], [8, 1, 6, 7, 0, 5, 3, 4, 2]] fun _ => ?_
 refine zk 5 ?_
 obtain ⟨e30, he, h⟩ := aB h
 refine zd bF he ?_
 clear he
 refine zk 2 ?_
 obtain ⟨y31, he, h⟩ := aB h
 refine zc fok51 (Bg n _ _ _ y31 he) ?_
 clear he
 refine zk 1 ?_
 refine ze [1, 2, 5, 7, 14, 15, 16, 29] ?_
 refine zi h (fun h => ?_) fun h => ?_
 exact aL (zv [(0, 0), (1, 1)] [1, 2, 5, 14, 15, 16] 2) (bK (hj28 _ h))
 refine aC ?_
 refine zx fun _ => ?_
 refine zk 3 ?_
 obtain ⟨e32, he, h⟩ := aB h
 refine zd bF he ?_
 clear he
 refine zk 2 ?_
 refine zl bZ e32.Decls ?_
 refine zk 1 ?_
 refine mC [1, 2, 5, 14, 15, 16, 35, 36, 37] (L2 := [C6 1 p1, J3, E6 5 1, H1 14 p0.order, (15, .c (I (List.length p0.order : Int))), C6 16 v26, K4 35 e32.Decls, (36, .c (I (List.length e32.Decls : Int))), I9 37]) (G2 := [F8 0 p0.shape p0.rules p0.order p0.th.Tokens p0.m, (1, .map true (G9 v27))]) 24 ?_
 refine aK ?_
 refine bJ (fun n s => ∃ v40 v41, fO e32 p0 j28 p1 v26 n v40 v41 = some r ∧ s = mk [C6 1 p1, J3, E6 5 1, H1 14 p0.order, (15, .c (I (List.length p0.order : Int))), C6 16 v26, K4 35 e32.Decls, (36, .c (I (List.length e32.Decls : Int))), C6 37 v40] [F8 0 p0.shape p0.rules p0.order p0.th.Tokens p0.m, (1, .map true (G9 v41))] 2) n _ (zv [(0, 0), (1, 1)] [1, 2, 5, 14, 15, 16, 35, 36, 37] 2) ⟨_, _, h, rfl⟩ (fun s ⟨v40, v41, h, _⟩ => nomatch h) ?_
 rintro n s ⟨v40, v41, h, rfl⟩
 rw [fO] at h
 refine za [1, 2, 5, 14, 15, 16, 35, 36, 37, 38] ?_
 refine aO ?_
 refine zi h (fun h => ?_) fun h => ?_
 refine aC ?_
 refine aX h (fun A j => ∀ v48, j v48 = some r → A (mk [C6 1 p1, J3, E6 5 1, H1 14 p0.order, (15, .c (I (List.length p0.order : Int))), C6 16 v26, K4 35 e32.Decls, (36, .c (I (List.length e32.Decls : Int))), C6 37 v40] [F8 0 p0.shape p0.rules p0.order p0.th.Tokens p0.m, (1, .map true (G9 v48))] 2)) (fun v48 h => ?_) (fun j42 Aj42 hj42 h => ?_)
 refine bB ?_
 refine zb ?_
 exact eZ (zv [(0, 0), (1, 1)] [1, 2, 5, 14, 15, 16, 35, 36, 37] 2) (⟨_, _, h, rfl⟩)
 refine aK ?_
 refine zx fun _ => ?_
 obtain ⟨e43, he, h⟩ := aB h
 refine zd bZ he ?_
 clear he
 refine zk 3 ?_
 refine ze [1, 2, 5, 9, 14, 15, 16, 35, 36, 37] ?_
 refine aX h (fun A j => ∀ v47, j v47 = some r → A (mk [C6 1 p1, J3, E6 5 1, H1 14 p0.order, (15, .c (I (List.length p0.order : Int))), C6 16 v26, K4 35 e32.Decls, (36, .c (I (List.length e32.Decls : Int))), C6 37 v40, C0 9 2 0] [F8 0 p0.shape p0.rules p0.order p0.th.Tokens p0.m, (1, .map true (G9 v41)), (2, .blk 81 [I e43.Prop_, I e43.Source, I v47, Sx e43.Token])] 3)) (fun v47 h => ?_) (fun j44 Aj44 hj44 h => ?_)
 refine bB ?_
 refine zy fun _ => ?_
 refine zk 4 ?_
 refine jM (kf := (A9)) (enc := bZ) (l := v41) (k := e43.Prop_) (v := (bM.mk e43.Prop_ e43.Source v47 e43.Token)) (n := 1) (ag := true) (kk := .int .i64) (by kernel_rfl) eE (by kernel_rfl) (by kernel_rfl) rfl rfl ?_
 refine cF ?_
 exact eZ (zv [(0, 0), (1, 1)] [1, 2, 5, 14, 15, 16, 35, 36, 37] 2) (hj42 _ h)
 refine za [1, 2, 5, 9, 14, 15, 16, 35, 36, 37, 43] ?_
 refine zi h (fun h => ?_) fun h => ?_
 refine zx fun _ => ?_
 refine zk 6 ?_
 obtain ⟨y45, he, h⟩ := aB h
 refine zc fok105 (Ci n _ _ _ y45 he) ?_
 clear he
 refine zk 5 ?_
 refine ze [1, 2, 5, 9, 10, 11, 14, 15, 16, 35, 36, 37] ?_
 refine aO ?_
 refine zx fun _ => ?_
 refine zk 3 ?_
 refine zE (A1 5 0) ?_
 refine zE (A6 e43.Prop_) ?_
 refine zE (A6 y45.1) ?_
 obtain ⟨y46, he, h⟩ := aB h
 refine Om [!(!y45.2)] fok21 (fun hg => tB n _ _ y46 (cD he hg)) ?_
 clear he
 refine zE (B2 (!y46)) ?_
 refine zP (.bool ((!y45.2) || (!y46))) ?_
 refine mC [1, 2, 5, 9, 10, 14, 15, 16, 35, 36, 37, 62] (L2 := [C6 1 p1, J3, E6 5 1, H1 14 p0.order, (15, .c (I (List.length p0.order : Int))), C6 16 v26, K4 35 e32.Decls, (36, .c (I (List.length e32.Decls : Int))), C6 37 v40, C0 9 5 0, C6 10 y45.1, (62, B2 ((!y45.2) || (!y46)))]) (G2 := [F8 0 p0.shape p0.rules p0.order p0.th.Tokens p0.m, (1, .map true (G9 v41)), (5, F5 e43)]) 31 ?_
 refine zi h (fun h => ?_) fun h => ?_
 exact aL (zv [(0, 0), (1, 1)] [1, 2, 5, 14, 15, 16, 35, 36, 37] 2) (bK (hj42 _ h))
 refine aC ?_
 refine bB ?_
 refine zb ?_
 exact eZ (zv [(0, 0), (1, 1), (5, 2)] [1, 2, 5, 14, 15, 16, 35, 36, 37, 9] 3) (hj44 _ h)
 exact aL (zv [(0, 0), (1, 1), (5, 2)] [1, 2, 5, 14, 15, 16, 35, 36, 37, 9] 3) (aC (hj44 _ h))
 exact aL (zv [(0, 0), (1, 1)] [1, 2, 5, 14, 15, 16] 2) (bK (hj28 _ h))
 exact aL (zv [(1, 0)] [5] 1) (bK (hj1 _ h))
def gP  (n : Nat) (p0 : Int) : Option Bool := (gX n p0).bind fun (y1 : Bool) => (gd [y1] (idx aY p0)).bind fun (e2 : cA) => some (y1 && e2.inherited)
theorem xX  (n : Nat) (p0 : Int) (r : Bool) (h : gP n p0 = some r) : dI E 76 0 [A6 p0] [] (B2 r) [] := by
 refine gT Tryz.func76 rfl ?_
 unfold gP at h
 refine za [0] ?_
 refine zx fun _ => ?_
 refine zk 1 ?_
 obtain ⟨y1, he, h⟩ := aB h
 refine zc Uw (pG n _ y1 he) ?_
 clear he
 refine zk 1 ?_
 refine zE (A6 p0) ?_
 obtain ⟨e2, he, h⟩ := aB h
 refine Dh (es := [y1]) [(6, A6 p0, some 1)] (enc := jD) (xs := aY) (ix := p0) (e := e2) (c := [Bo e2.inherited, I e2.low, I e2.high, I e2.start]) (len := 22) (sz := 4) (fun hg => cD he hg) (by kernel_rfl) (by kernel_rfl) (by kernel_rfl) (by kernel_rfl) (by kernel_rfl) (by kernel_rfl) (fun x => by kernel_rfl) rfl rfl ?_
 clear he
 refine zE (.c (.imm [Bo e2.inherited, I e2.low, I e2.high, I e2.start])) ?_
 refine zE (B2 e2.inherited) ?_
 refine zP (.bool (y1 && e2.inherited)) ?_
 refine zk 1 ?_
 refine mC [2] (L2 := [(2, B2 (y1 && e2.inherited))]) (G2 := []) 10 ?_
 cases h
 exact aI zr
def yI  (n : Nat) (p0 : Int) (p1 : Int) : Option Bool := some (((((p1 != 0) && (decide (p0 ≥ (-1152921504606846976 : Int)))) && (decide (p0 ≤ 1152921504606846976))) && (decide (p1 ≥ (-1152921504606846976 : Int)))) && (decide (p1 ≤ 1152921504606846976)))
theorem Ms  (n : Nat) (p0 : Int) (p1 : Int) (r : Bool) (h : yI n p0 p1 = some r) : dI E 137 0 [A6 p0, A6 p1] [] (B2 r) [] := by
 refine gT Tryz.func137 rfl ?_
 unfold yI at h
 refine za [0, 1] ?_
 refine zx fun _ => ?_
 refine zk 3 ?_
 refine zE (A6 p0) ?_
 refine zE (.c (Bo (decide (p0 ≥ (-1152921504606846976 : Int))))) ?_
 refine zP (.bool ((p1 != 0) && (decide (p0 ≥ (-1152921504606846976 : Int))))) ?_
 refine zk 1 ?_
 refine zE (A6 p0) ?_
 refine zE (B2 (K1 p0)) ?_
 refine zP (.bool (((p1 != 0) && (decide (p0 ≥ (-1152921504606846976 : Int)))) && (K1 p0))) ?_
 refine zk 1 ?_
 refine zE (A6 p1) ?_
 refine zE (.c (Bo (decide (p1 ≥ (-1152921504606846976 : Int))))) ?_
 refine zP (.bool ((((p1 != 0) && (decide (p0 ≥ (-1152921504606846976 : Int)))) && (K1 p0)) && (decide (p1 ≥ (-1152921504606846976 : Int))))) ?_
 refine zk 1 ?_
 refine zE (A6 p1) ?_
 refine zE (B2 (K1 p1)) ?_
 refine zP (.bool (((((p1 != 0) && (decide (p0 ≥ (-1152921504606846976 : Int)))) && (K1 p0)) && (decide (p1 ≥ (-1152921504606846976 : Int)))) && (K1 p1))) ?_
 refine zk 1 ?_
 refine mC [4] (L2 := [(4, .c (Bo (((((p1 != 0) && (decide (p0 ≥ (-1152921504606846976 : Int)))) && (K1 p0)) && (decide (p1 ≥ (-1152921504606846976 : Int)))) && (K1 p1))))]) (G2 := []) 20 ?_
 cases h
 exact aI zr
def rN  (n : Nat) (p0 : Int) (p1 : Int) : Option Int := (nz p1).bind fun (d1 : Int) => (aS (fun (v4 : Int) => some v4) (fun (j2 : Int → Option Int) => (nz p1).bind fun (d3 : Int) => (if (decide ((Int.tmod p0 p1) < 0)) = true then j2 (IntKind.wrap .i64 ((IntKind.wrap .i64 (Int.tdiv p0 p1)) - 1)) else j2 (IntKind.wrap .i64 (Int.tdiv p0 p1)))))
theorem Eh  (n : Nat) (p0 : Int) (p1 : Int) (r : Int) (h : rN n p0 p1 = some r) : dI E 138 0 [A6 p0, A6 p1] [] (A6 r) [] := by
 refine gT Tryz.func138 rfl ?_
 unfold rN at h
 refine za [0, 1] ?_
 refine zx fun _ => ?_
 refine zk 2 ?_
 obtain ⟨d1, he, h⟩ := aB h
 refine dT (v := .c (I (IntKind.wrap .i64 (Int.tdiv p0 p1)))) (foot := []) (rd_quo (k := .i64) (x := p0) (y := p1) he (by kernel_rfl)) (by kernel_rfl) rfl rfl ?_
 clear he
 refine zk 1 ?_
 refine ze [0, 1, 5] ?_
 refine aX h (fun A j => ∀ v4, j v4 = some r → A (mk [C6 5 v4] [] 0)) (fun v4 h => ?_) (fun j2 Aj2 hj2 h => ?_)
 refine za [4] ?_
 cases h
 exact aI zr
 refine zx fun _ => ?_
 refine zk 2 ?_
 obtain ⟨d3, he, h⟩ := aB h
 refine dT (v := .c (I (Int.tmod p0 p1))) (foot := []) (Vu (k := .i64) (x := p0) (y := p1) he (by kernel_rfl)) (by kernel_rfl) rfl rfl ?_
 clear he
 refine zk 1 ?_
 refine ze [5, 12] ?_
 refine zi h (fun h => ?_) fun h => ?_
 refine bB ?_
 refine zb ?_
 exact eZ (zv [] [5] 0) (hj2 _ h)
 exact aL (zv [] [5] 0) (aC (hj2 _ h))
def rM  (n : Nat) (p0 : Int) (p1 : Int) : Option Int := (yI n p0 p1).bind fun (y1 : Bool) => (if (!y1) = true then some 0 else (aS (fun (v3 : Int) (v4 : Int) => (rN n (IntKind.wrap .i64 ((IntKind.wrap .i64 (2 * v3)) + v4)) (IntKind.wrap .i64 (2 * v4))).bind fun (y5 : Int) => some y5) (fun (j2 : Int → Int → Option Int) => (if (decide (p1 < 0)) = true then j2 (IntKind.wrap .i64 (0 - p0)) (IntKind.wrap .i64 (0 - p1)) else j2 p0 p1))))
theorem El  (n : Nat) (p0 : Int) (p1 : Int) (r : Int) (h : rM n p0 p1 = some r) : dI E 126 0 [A6 p0, A6 p1] [] (A6 r) [] := by
 refine gT Tryz.func126 rfl ?_
 unfold rM at h
 refine za [0, 1] ?_
 refine aO ?_
 refine zx fun _ => ?_
 refine zk 2 ?_
 obtain ⟨y1, he, h⟩ := aB h
 refine zc fok137 (Ms n _ _ y1 he) ?_
 clear he
 refine zk 1 ?_
 refine ze [0, 1, 8] ?_
 refine zi h (fun h => ?_) fun h => ?_
 refine za [4] ?_
 cases h
 exact aI zr
 refine aC ?_
 refine aX h (fun A j => ∀ v3 v4, j v3 v4 = some r → A (mk [C6 0 v3, C6 1 v4] [] 0)) (fun v3 v4 h => ?_) (fun j2 Aj2 hj2 h => ?_)
 refine zx fun _ => ?_
 refine zk 6 ?_
 obtain ⟨y5, he, h⟩ := aB h
 refine zc fok138 (Eh n _ _ y5 he) ?_
 clear he
 refine zk 1 ?_
 refine ze [4] ?_
 cases h
 exact aI zr
 refine za [0, 1, 10] ?_
 refine zi h (fun h => ?_) fun h => ?_
 refine bB ?_
 refine zb ?_
 exact eZ (zv [] [0, 1] 0) (hj2 _ _ h)
 exact aL (zv [] [0, 1] 0) (aC (hj2 _ _ h))
def oR  (n : Nat) (p0 : Int) (p1 : Int) (p2 : Int) : Option (Int × Int) := (if ((((((decide (p0 < (-1099511627776 : Int))) || (decide (p0 > 1099511627776))) || (decide (p1 < 0))) || (decide (p1 > 65536))) || (decide (p2 < 1))) || (decide (p2 > 65536))) = true then some (0, 1) else (rM n (IntKind.wrap .i64 (p0 * p1)) p2).bind fun (y1 : Int) => some (y1, 0))
theorem Ec  (n : Nat) (p0 : Int) (p1 : Int) (p2 : Int) (r : (Int × Int)) (h : oR n p0 p1 p2 = some r) : dI E 106 0 [A6 p0, A6 p1, A6 p2] [] (.tup [A6 r.1, A6 r.2]) [] := by
 refine gT Tryz.func106 rfl ?_
 unfold oR at h
 refine za [0, 1, 2] ?_
 refine aO ?_
 refine zx fun _ => ?_
 refine zk 3 ?_
 refine zE (A6 p0) ?_
 refine zE (B2 (J1 p0)) ?_
 refine zP (.bool ((decide (p0 < (-1099511627776 : Int))) || (J1 p0))) ?_
 refine zk 1 ?_
 refine zE (A6 p1) ?_
 refine zE (J5 p1 0) ?_
 refine zP (.bool (((decide (p0 < (-1099511627776 : Int))) || (J1 p0)) || (D9 p1 0))) ?_
 refine zk 1 ?_
 refine zE (A6 p1) ?_
 refine zE (L3 p1 65536) ?_
 refine zP (.bool ((((decide (p0 < (-1099511627776 : Int))) || (J1 p0)) || (D9 p1 0)) || (E2 p1 65536))) ?_
 refine zk 1 ?_
 refine zE (A6 p2) ?_
 refine zE (J5 p2 1) ?_
 refine zP (.bool (((((decide (p0 < (-1099511627776 : Int))) || (J1 p0)) || (D9 p1 0)) || (E2 p1 65536)) || (D9 p2 1))) ?_
 refine zk 1 ?_
 refine zE (A6 p2) ?_
 refine zE (L3 p2 65536) ?_
 refine zP (.bool ((((((decide (p0 < (-1099511627776 : Int))) || (J1 p0)) || (D9 p1 0)) || (E2 p1 65536)) || (D9 p2 1)) || (E2 p2 65536))) ?_
 refine mC [0, 1, 2, 29] (L2 := [C6 0 p0, C6 1 p1, C6 2 p2, (29, .c (Bo ((((((decide (p0 < (-1099511627776 : Int))) || (J1 p0)) || (D9 p1 0)) || (E2 p1 65536)) || (D9 p2 1)) || (E2 p2 65536))))]) (G2 := []) 24 ?_
 refine zi h (fun h => ?_) fun h => ?_
 refine za [6, 7] ?_
 cases h
 exact aI zr
 refine aC ?_
 refine zx fun _ => ?_
 refine zk 4 ?_
 obtain ⟨y1, he, h⟩ := aB h
 refine zc fok126 (El n _ _ y1 he) ?_
 clear he
 refine zk 2 ?_
 refine ze [6, 7] ?_
 cases h
 exact aI zr
def lJ  (n : Nat) (p0 : Int) (p1 : Int) (p2 : Int) : Option Int := (if ((decide (p0 < p1)) || (decide (p2 < p1))) = true then some p1 else (if (decide (p0 > p2)) = true then some p2 else some p0))
theorem Dp  (n : Nat) (p0 : Int) (p1 : Int) (p2 : Int) (r : Int) (h : lJ n p0 p1 p2 = some r) : dI E 107 0 [A6 p0, A6 p1, A6 p2] [] (A6 r) [] := by
 refine gT Tryz.func107 rfl ?_
 unfold lJ at h
 refine za [0, 1, 2] ?_
 refine aO ?_
 refine aK ?_
 refine zx fun _ => ?_
 refine zk 4 ?_
 refine zE (A6 p2) ?_
 refine zE (A6 p1) ?_
 refine zE (J5 p2 p1) ?_
 refine zP (.bool ((D9 p0 p1) || (D9 p2 p1))) ?_
 refine zk 1 ?_
 refine ze [0, 1, 2, 7] ?_
 refine zi h (fun h => ?_) fun h => ?_
 refine za [6] ?_
 cases h
 exact aI zr
 refine za [0, 2, 17] ?_
 refine zi h (fun h => ?_) fun h => ?_
 refine za [6] ?_
 cases h
 exact aI zr
 refine aC ?_
 refine za [6] ?_
 cases h
 exact aI zr
def lN  (n : Nat) (p0 : cY) (p1 : Int) : Option Int := (aS (fun (v3 : Int) => (lJ n v3 1 1000).bind fun (y4 : Int) => some y4) (fun (j1 : Int → Option Int) => (if ((((decide (p0.Scale ≥ 50)) && (decide (p0.Scale ≤ 400))) && (decide (p1 ≥ 1))) && (decide (p1 ≤ 1000))) = true then (oR n p1 p0.Scale 100).bind fun (y2 : (Int × Int)) => j1 y2.1 else j1 p1)))
theorem Hf  (n : Nat) (p0 : cY) (p1 : Int) (r : Int) (h : lN n p0 p1 = some r) : dI E 77 0 [H6 p0, A6 p1] [] (A6 r) [] := by
 refine gT Tryz.func77 rfl ?_
 unfold lN at h
 refine za [1, 2] ?_
 refine aX h (fun A j => ∀ v3, j v3 = some r → A (mk [C6 1 v3] [] 0)) (fun v3 h => ?_) (fun j1 Aj1 hj1 h => ?_)
 refine zx fun _ => ?_
 refine zk 1 ?_
 obtain ⟨y4, he, h⟩ := aB h
 refine zc fok107 (Dp n _ _ _ y4 he) ?_
 clear he
 refine zk 1 ?_
 refine ze [4] ?_
 cases h
 exact aI zr
 refine zx fun _ => ?_
 refine zk 4 ?_
 refine zE (A1 0 2) ?_
 refine zE (A6 p0.Scale) ?_
 refine zE (B2 (I7 p0.Scale 400)) ?_
 refine zP (.bool (D7 p0.Scale 50 400)) ?_
 refine zk 1 ?_
 refine zE (A6 p1) ?_
 refine zE (B2 (I8 p1 1)) ?_
 refine zP (.bool ((D7 p0.Scale 50 400) && (I8 p1 1))) ?_
 refine zk 1 ?_
 refine zE (A6 p1) ?_
 refine zE (B2 (I7 p1 1000)) ?_
 refine zP (.bool (((D7 p0.Scale 50 400) && (I8 p1 1)) && (I7 p1 1000))) ?_
 refine mC [1, 2, 20] (L2 := [C6 1 p1, J3, (20, B2 (((D7 p0.Scale 50 400) && (I8 p1 1)) && (I7 p1 1000)))]) (G2 := [(0, E3 p0)]) 18 ?_
 refine zi h (fun h => ?_) fun h => ?_
 refine bB ?_
 refine zy fun _ => ?_
 refine zk 3 ?_
 obtain ⟨y2, he, h⟩ := aB h
 refine zc fok106 (Ec n _ _ _ y2 he) ?_
 clear he
 refine zk 4 ?_
 refine cF ?_
 exact eZ (zv [] [1] 0) (hj1 _ h)
 exact aL (zv [] [1] 0) (aC (hj1 _ h))
def dY (y1 : (List (Int × bM))) (p0 : iF) (p3 : Bool) (p2 : aA) (j2 : aA → Option aA) : Nat → Int → aA → Option aA
 | 0, _, _ => none
 | n + 1, v10, v11 => (if (decide (v10 < 22)) = true then (aS (fun (v27 : aA) => dY y1 p0 p3 p2 j2 n (IntKind.wrap .i64 (v10 + 1)) v27) (fun (j12 : aA → Option aA) => (some (cZ v10 y1, gU v10 y1)).bind fun (y13 : (bM × Bool)) => (gd [(!(y13.2 && (y13.1.Source == 2))), (!y13.2)] (gP n v10)).bind fun (y14 : Bool) => (aS (fun (v22 : aA) => (if (v10 == 2) = true then (uQ v10 22).bind fun (k23 : Nat) => ((aA.toL v22)[k23]?).bind fun (e24 : Int) => (lN n p0.m e24).bind fun (y25 : Int) => (uQ v10 22).bind fun (k26 : Nat) => j12 (aA.set v22 k26 y25) else j12 v22)) (fun (j15 : aA → Option aA) => (if (((y13.2 && (y13.1.Source == 2)) || ((!y13.2) && y14)) && (!p3)) = true then (uQ v10 22).bind fun (k16 : Nat) => ((aA.toL p2)[k16]?).bind fun (e17 : Int) => (uQ v10 22).bind fun (k18 : Nat) => j12 (aA.set v11 k18 e17) else (if (y13.2 && ((y13.1.Source == 0) || (y13.1.Source == 1))) = true then (uQ v10 22).bind fun (k19 : Nat) => j15 (aA.set v11 k19 y13.1.N) else (idx aY v10).bind fun (e20 : cA) => (uQ v10 22).bind fun (k21 : Nat) => j15 (aA.set v11 k21 e20.start))))))) else j2 v11)
def mK  (n : Nat) (p0 : iF) (p1 : Int) (p2 : aA) (p3 : Bool) : Option aA := (lF n p0 p1).bind fun (y1 : (List (Int × bM))) => (aS (fun (v30 : aA) => some v30) (fun (j2 : aA → Option aA) => dY y1 p0 p3 p2 j2 n 0 (aA.mk 0 0 0 0 0 0 0 0 0 0 0 0 0 0 0 0 0 0 0 0 0 0)))
theorem Ak  (n : Nat) (p0 : iF) (p1 : Int) (p2 : aA) (p3 : Bool) (r : aA) (h : mK n p0 p1 p2 p3 = some r) : dI E 42 0 [.agg [C2 p0.shape.nodes, C4 p0.shape.class_, D6 p0.shape.states, D3 p0.rules, C1 p0.order, E4 p0.th.Tokens, Bo p0.m.Dark, Bo p0.m.High, I p0.m.Scale], A6 p1, F9 p2, B2 p3] [] (F9 r) [] := by
 refine gT Tryz.func42 rfl ?_
 unfold mK at h
 refine za [1, 3, 4, 6, 8] ?_
 refine zx fun _ => ?_
 refine zk 2 ?_
 obtain ⟨y1, he, h⟩ := aB h
 refine zc fok75 (yK n _ _ y1 he) ?_
 clear he
 refine zk 1 ?_
 refine ze [3, 4, 6, 8, 9] ?_
 refine za [3, 4, 6, 8, 9, 10] ?_
 refine aX h (fun A j => ∀ v30, j v30 = some r → A (mk [C0 8 0 0, C0 10 1 0] [(0, D4), (1, A8 v30)] 2)) (fun v30 h => ?_) (fun j2 Aj2 hj2 h => ?_)
 refine za [8] ?_
 cases h
 exact aI zr
 refine za [3, 4, 6, 8, 9, 10, 18] ?_
 refine aK ?_
 refine bJ (fun n s => ∃ v10 v11, dY y1 p0 p3 p2 j2 n v10 v11 = some r ∧ s = mk [K2 3 p3, M6, N0, C0 8 2 0, (9, L8 y1), C0 10 3 0, C6 18 v10] [F8 0 p0.shape p0.rules p0.order p0.th.Tokens p0.m, (1, A8 p2), (2, D4), (3, A8 v11)] 4) n _ (zv [(0, 0), (1, 1), (2, 2), (7, 3)] [3, 4, 6, 8, 9, 10, 18] 4) ⟨_, _, h, rfl⟩ (fun s ⟨v10, v11, h, _⟩ => nomatch h) ?_
 rintro n s ⟨v10, v11, h, rfl⟩
 rw [dY] at h
 refine za [3, 4, 6, 8, 9, 10, 18, 19] ?_
 refine aO ?_
 refine zi h (fun h => ?_) fun h => ?_
 refine aC ?_
 refine aX h (fun A j => ∀ v27, j v27 = some r → A (mk [K2 3 p3, M6, N0, C0 8 2 0, (9, L8 y1), C0 10 3 0, C6 18 v10] [F8 0 p0.shape p0.rules p0.order p0.th.Tokens p0.m, (1, A8 p2), (2, D4), (3, A8 v27)] 4)) (fun v27 h => ?_) (fun j12 Aj12 hj12 h => ?_)
 refine bB ?_
 refine zb ?_
 exact eZ (zv [(0, 0), (1, 1), (2, 2), (3, 3)] [3, 4, 6, 8, 9, 10, 18] 4) (⟨_, _, h, rfl⟩)
 refine aK ?_
 refine za [3, 4, 6, 8, 9, 10, 11, 18] ?_
 refine zx fun _ => ?_
 refine zk 2 ?_
 obtain ⟨y13, he, h⟩ := aB h
 refine zw (v := .tup [.agg [I y13.1.Prop_, I y13.1.Source, I y13.1.N, Sx y13.1.Token], B2 y13.2]) [] (cT (kf := (A9)) (enc := bZ) (l := y1) (k := v10) (ok := true) (kk := .int .i64) (j := ⟨.st [(3, 0, 1), (3, 1, 1), (3, 2, 1), (9, 3, 1)], 4, 40, [.int .i64 0, .int .i64 0, .int .i64 0, .string ⟨#[]⟩]⟩) (p := y13) (v := .agg [I y13.1.Prop_, I y13.1.Source, I y13.1.N, Sx y13.1.Token]) he (by kernel_rfl) eE (by kernel_rfl) (by kernel_rfl) (by kernel_rfl)) ?_
 clear he
 refine zk 6 ?_
 refine ze [3, 4, 6, 8, 9, 10, 11, 12, 13, 18] ?_
 refine zx fun _ => ?_
 refine zk 2 ?_
 refine zE (A1 13 1) ?_
 refine zE (A6 y13.1.Source) ?_
 refine zE (B2 (y13.1.Source == 2)) ?_
 refine zP (.bool (y13.2 && (y13.1.Source == 2))) ?_
 refine zk 1 ?_
 refine zE (B2 y13.2) ?_
 refine zE (B2 (!y13.2)) ?_
 refine zF [!(y13.2 && (y13.1.Source == 2))] (B2 (!y13.2)) ?_
 refine zE (A6 v10) ?_
 obtain ⟨y14, he, h⟩ := aB h
 refine Om [!(y13.2 && (y13.1.Source == 2)), !y13.2] fok76 (fun hg => xX n _ y14 (cD he hg)) ?_
 clear he
 refine zP (.bool ((!y13.2) && y14)) ?_
 refine zP (.bool ((y13.2 && (y13.1.Source == 2)) || ((!y13.2) && y14))) ?_
 refine zk 1 ?_
 refine mC [3, 4, 6, 8, 9, 10, 11, 12, 13, 14, 18] (L2 := [K2 3 p3, M6, N0, C0 8 2 0, (9, L8 y1), C0 10 3 0, C6 18 v10, C6 11 v10, C0 12 13 0, K2 13 y13.2, (14, B2 ((y13.2 && (y13.1.Source == 2)) || ((!y13.2) && y14)))]) (G2 := [F8 0 p0.shape p0.rules p0.order p0.th.Tokens p0.m, (1, A8 p2), (2, D4), (3, A8 v11), (13, F5 y13.1)]) 31 ?_
 refine aX h (fun A j => ∀ v22, j v22 = some r → A (mk [K2 3 p3, M6, N0, C0 8 2 0, (9, L8 y1), C0 10 3 0, C6 18 v10, C6 11 v10] [F8 0 p0.shape p0.rules p0.order p0.th.Tokens p0.m, (1, A8 p2), (2, D4), (3, A8 v22)] 4)) (fun v22 h => ?_) (fun j15 Aj15 hj15 h => ?_)
 refine za [3, 4, 6, 8, 9, 10, 11, 18, 75] ?_
 refine zi h (fun h => ?_) fun h => ?_
 refine bB ?_
 refine Uo [[], [], [1], [], [3], [4, 3], [2, 5, 1, 4, 3], [0, 1, 2, 3, 4, 5, 6], [7, 6, 0, 1, 2, 3, 4, 5]] fun _ => ?_
 refine zk 4 ?_
 obtain ⟨k23, he, h⟩ := aB h
 refine dT (v := .c (.ptr 3 (0 + k23 * 1))) (foot := []) (Ev (n := 3) (q := 0) (len := 22) (sz := 1) (k := k23) (ix := v10) he (by kernel_rfl)) (by kernel_rfl) rfl rfl ?_
 have hb_k23 := oH he; clear he
 obtain ⟨e24, he, h⟩ := aB h
 refine dT (v := .c (I e24)) (foot := [3]) (Wd (n := 3) (off := (0 + k23 * 1)) (l := [I v22.x0, I v22.x1, I v22.x2, I v22.x3, I v22.x4, I v22.x5, I v22.x6, I v22.x7, I v22.x8, I v22.x9, I v22.x10, I v22.x11, I v22.x12, I v22.x13, I v22.x14, I v22.x15, I v22.x16, I v22.x17, I v22.x18, I v22.x19, I v22.x20, I v22.x21]) (j := ⟨.int .i64, 1, 8, [.int .i64 0]⟩) (v := .c (I e24)) (by kernel_rfl) (Nw (enc := aH) (xs := (aA.toL v22)) (k := k23) (e := e24) he (by rw [Nat.zero_add]; kernel_rfl) (fun x => by kernel_rfl) (by decide) (by kernel_rfl))) (by kernel_rfl) rfl rfl ?_
 clear he
 obtain ⟨y25, he, h⟩ := aB h
 refine zc fok77 (Hf n _ _ y25 he) ?_
 clear he
 obtain ⟨k26, he, h⟩ := aB h
 refine dT (v := .c (.ptr 3 (0 + k26 * 1))) (foot := []) (Ev (n := 3) (q := 0) (len := 22) (sz := 1) (k := k26) (ix := v10) he (by kernel_rfl)) (by kernel_rfl) rfl rfl ?_
 have hb_k26 := oH he; clear he
 refine sX (n := 3) (off := (0 + k26 * 1)) (T0 := 52) (sz := 1) (lx := [I y25]) (l := [I v22.x0, I v22.x1, I v22.x2, I v22.x3, I v22.x4, I v22.x5, I v22.x6, I v22.x7, I v22.x8, I v22.x9, I v22.x10, I v22.x11, I v22.x12, I v22.x13, I v22.x14, I v22.x15, I v22.x16, I v22.x17, I v22.x18, I v22.x19, I v22.x20, I v22.x21]) (l2 := [I ((E7 v22 k26 y25).x0), I ((E7 v22 k26 y25).x1), I ((E7 v22 k26 y25).x2), I ((E7 v22 k26 y25).x3), I ((E7 v22 k26 y25).x4), I ((E7 v22 k26 y25).x5), I ((E7 v22 k26 y25).x6), I ((E7 v22 k26 y25).x7), I ((E7 v22 k26 y25).x8), I ((E7 v22 k26 y25).x9), I ((E7 v22 k26 y25).x10), I ((E7 v22 k26 y25).x11), I ((E7 v22 k26 y25).x12), I ((E7 v22 k26 y25).x13), I ((E7 v22 k26 y25).x14), I ((E7 v22 k26 y25).x15), I ((E7 v22 k26 y25).x16), I ((E7 v22 k26 y25).x17), I ((E7 v22 k26 y25).x18), I ((E7 v22 k26 y25).x19), I ((E7 v22 k26 y25).x20), I ((E7 v22 k26 y25).x21)]) (by kernel_rfl) (by kernel_rfl) (by simp only [List.length_cons, List.length_nil]; omega) (by rw [Nat.zero_add]; exact aA.splice_eq v22 k26 y25 hb_k26) (by kernel_rfl) rfl rfl ?_
 refine cF ?_
 exact eZ (zv [(0, 0), (1, 1), (2, 2), (3, 3)] [3, 4, 6, 8, 9, 10, 18] 4) (hj12 _ h)
 exact aL (zv [(0, 0), (1, 1), (2, 2), (3, 3)] [3, 4, 6, 8, 9, 10, 18] 4) (aC (hj12 _ h))
 refine aK ?_
 refine zx fun _ => ?_
 refine zk 2 ?_
 refine zE (B2 p3) ?_
 refine zE (B2 (!p3)) ?_
 refine zP (.bool (((y13.2 && (y13.1.Source == 2)) || ((!y13.2) && y14)) && (!p3))) ?_
 refine zk 1 ?_
 refine ze [3, 4, 6, 8, 9, 10, 11, 12, 13, 18, 47] ?_
 refine zi h (fun h => ?_) fun h => ?_
 refine zx fun _ => ?_
 refine zk 2 ?_
 obtain ⟨k16, he, h⟩ := aB h
 refine dT (v := .c (.ptr 1 (0 + k16 * 1))) (foot := []) (Ev (n := 1) (q := 0) (len := 22) (sz := 1) (k := k16) (ix := v10) he (by kernel_rfl)) (by kernel_rfl) rfl rfl ?_
 have hb_k16 := oH he; clear he
 obtain ⟨e17, he, h⟩ := aB h
 refine dT (v := .c (I e17)) (foot := [1]) (Wd (n := 1) (off := (0 + k16 * 1)) (l := [I p2.x0, I p2.x1, I p2.x2, I p2.x3, I p2.x4, I p2.x5, I p2.x6, I p2.x7, I p2.x8, I p2.x9, I p2.x10, I p2.x11, I p2.x12, I p2.x13, I p2.x14, I p2.x15, I p2.x16, I p2.x17, I p2.x18, I p2.x19, I p2.x20, I p2.x21]) (j := ⟨.int .i64, 1, 8, [.int .i64 0]⟩) (v := .c (I e17)) (by kernel_rfl) (Nw (enc := aH) (xs := (aA.toL p2)) (k := k16) (e := e17) he (by rw [Nat.zero_add]; kernel_rfl) (fun x => by kernel_rfl) (by decide) (by kernel_rfl))) (by kernel_rfl) rfl rfl ?_
 clear he
 obtain ⟨k18, he, h⟩ := aB h
 refine dT (v := .c (.ptr 3 (0 + k18 * 1))) (foot := []) (Ev (n := 3) (q := 0) (len := 22) (sz := 1) (k := k18) (ix := v10) he (by kernel_rfl)) (by kernel_rfl) rfl rfl ?_
 have hb_k18 := oH he; clear he
 refine sX (n := 3) (off := (0 + k18 * 1)) (T0 := 52) (sz := 1) (lx := [I e17]) (l := [I v11.x0, I v11.x1, I v11.x2, I v11.x3, I v11.x4, I v11.x5, I v11.x6, I v11.x7, I v11.x8, I v11.x9, I v11.x10, I v11.x11, I v11.x12, I v11.x13, I v11.x14, I v11.x15, I v11.x16, I v11.x17, I v11.x18, I v11.x19, I v11.x20, I v11.x21]) (l2 := [I ((E7 v11 k18 e17).x0), I ((E7 v11 k18 e17).x1), I ((E7 v11 k18 e17).x2), I ((E7 v11 k18 e17).x3), I ((E7 v11 k18 e17).x4), I ((E7 v11 k18 e17).x5), I ((E7 v11 k18 e17).x6), I ((E7 v11 k18 e17).x7), I ((E7 v11 k18 e17).x8), I ((E7 v11 k18 e17).x9), I ((E7 v11 k18 e17).x10), I ((E7 v11 k18 e17).x11), I ((E7 v11 k18 e17).x12), I ((E7 v11 k18 e17).x13), I ((E7 v11 k18 e17).x14), I ((E7 v11 k18 e17).x15), I ((E7 v11 k18 e17).x16), I ((E7 v11 k18 e17).x17), I ((E7 v11 k18 e17).x18), I ((E7 v11 k18 e17).x19), I ((E7 v11 k18 e17).x20), I ((E7 v11 k18 e17).x21)]) (by kernel_rfl) (by kernel_rfl) (by simp only [List.length_cons, List.length_nil]; omega) (by rw [Nat.zero_add]; exact aA.splice_eq v11 k18 e17 hb_k18) (by kernel_rfl) rfl rfl ?_
 refine mC [3, 4, 6, 8, 9, 10, 18] (L2 := [K2 3 p3, M6, N0, C0 8 2 0, (9, L8 y1), C0 10 3 0, C6 18 v10]) (G2 := [F8 0 p0.shape p0.rules p0.order p0.th.Tokens p0.m, (1, A8 p2), (2, D4), (3, .blk 52 [I ((E7 v11 k18 e17).x0), I ((E7 v11 k18 e17).x1), I ((E7 v11 k18 e17).x2), I ((E7 v11 k18 e17).x3), I ((E7 v11 k18 e17).x4), I ((E7 v11 k18 e17).x5), I ((E7 v11 k18 e17).x6), I ((E7 v11 k18 e17).x7), I ((E7 v11 k18 e17).x8), I ((E7 v11 k18 e17).x9), I ((E7 v11 k18 e17).x10), I ((E7 v11 k18 e17).x11), I ((E7 v11 k18 e17).x12), I ((E7 v11 k18 e17).x13), I ((E7 v11 k18 e17).x14), I ((E7 v11 k18 e17).x15), I ((E7 v11 k18 e17).x16), I ((E7 v11 k18 e17).x17), I ((E7 v11 k18 e17).x18), I ((E7 v11 k18 e17).x19), I ((E7 v11 k18 e17).x20), I ((E7 v11 k18 e17).x21)]), (13, F5 y13.1)]) 43 ?_
 exact aL (zv [(0, 0), (1, 1), (2, 2), (3, 3)] [3, 4, 6, 8, 9, 10, 18] 4) (bK (hj12 _ h))
 refine zx fun _ => ?_
 refine zk 2 ?_
 refine zE (A1 13 1) ?_
 refine zE (A6 y13.1.Source) ?_
 refine zE (B2 (y13.1.Source == 0)) ?_
 refine zF [y13.2] (B2 (y13.1.Source == 0)) ?_
 refine zE (A1 13 1) ?_
 refine zE (A6 y13.1.Source) ?_
 refine zE (B2 (y13.1.Source == 1)) ?_
 refine zP (.bool ((y13.1.Source == 0) || (y13.1.Source == 1))) ?_
 refine zP (.bool (y13.2 && ((y13.1.Source == 0) || (y13.1.Source == 1)))) ?_
 refine zk 1 ?_
 refine mC [3, 4, 6, 8, 9, 10, 11, 12, 18, 58] (L2 := [K2 3 p3, M6, N0, C0 8 2 0, (9, L8 y1), C0 10 3 0, C6 18 v10, C6 11 v10, C0 12 13 0, (58, B2 (y13.2 && ((y13.1.Source == 0) || (y13.1.Source == 1))))]) (G2 := [F8 0 p0.shape p0.rules p0.order p0.th.Tokens p0.m, (1, A8 p2), (2, D4), (3, A8 v11), (13, F5 y13.1)]) 49 ?_
 refine zi h (fun h => ?_) fun h => ?_
 refine bB ?_
 refine zy fun _ => ?_
 refine zk 3 ?_
 obtain ⟨k19, he, h⟩ := aB h
 refine dT (v := .c (.ptr 3 (0 + k19 * 1))) (foot := []) (Ev (n := 3) (q := 0) (len := 22) (sz := 1) (k := k19) (ix := v10) he (by kernel_rfl)) (by kernel_rfl) rfl rfl ?_
 have hb_k19 := oH he; clear he
 refine sX (n := 3) (off := (0 + k19 * 1)) (T0 := 52) (sz := 1) (lx := [I y13.1.N]) (l := [I v11.x0, I v11.x1, I v11.x2, I v11.x3, I v11.x4, I v11.x5, I v11.x6, I v11.x7, I v11.x8, I v11.x9, I v11.x10, I v11.x11, I v11.x12, I v11.x13, I v11.x14, I v11.x15, I v11.x16, I v11.x17, I v11.x18, I v11.x19, I v11.x20, I v11.x21]) (l2 := [I ((E7 v11 k19 y13.1.N).x0), I ((E7 v11 k19 y13.1.N).x1), I ((E7 v11 k19 y13.1.N).x2), I ((E7 v11 k19 y13.1.N).x3), I ((E7 v11 k19 y13.1.N).x4), I ((E7 v11 k19 y13.1.N).x5), I ((E7 v11 k19 y13.1.N).x6), I ((E7 v11 k19 y13.1.N).x7), I ((E7 v11 k19 y13.1.N).x8), I ((E7 v11 k19 y13.1.N).x9), I ((E7 v11 k19 y13.1.N).x10), I ((E7 v11 k19 y13.1.N).x11), I ((E7 v11 k19 y13.1.N).x12), I ((E7 v11 k19 y13.1.N).x13), I ((E7 v11 k19 y13.1.N).x14), I ((E7 v11 k19 y13.1.N).x15), I ((E7 v11 k19 y13.1.N).x16), I ((E7 v11 k19 y13.1.N).x17), I ((E7 v11 k19 y13.1.N).x18), I ((E7 v11 k19 y13.1.N).x19), I ((E7 v11 k19 y13.1.N).x20), I ((E7 v11 k19 y13.1.N).x21)]) (by kernel_rfl) (by kernel_rfl) (by simp only [List.length_cons, List.length_nil]; omega) (by rw [Nat.zero_add]; exact aA.splice_eq v11 k19 y13.1.N hb_k19) (by kernel_rfl) rfl rfl ?_
 refine cF ?_
 exact eZ (zv [(0, 0), (1, 1), (2, 2), (3, 3)] [3, 4, 6, 8, 9, 10, 18, 11] 4) (hj15 _ h)
 refine bB ?_
 refine zy fun _ => ?_
 refine zk 2 ?_
 obtain ⟨e20, he, h⟩ := aB h
 refine aBc (enc := jD) (xs := aY) (ix := v10) (e := e20) (c := [Bo e20.inherited, I e20.low, I e20.high, I e20.start]) (len := 22) (sz := 4) he (by kernel_rfl) (by kernel_rfl) (by kernel_rfl) (fun x => by kernel_rfl) (by kernel_rfl) rfl rfl ?_
 clear he
 refine zk 2 ?_
 obtain ⟨k21, he, h⟩ := aB h
 refine dT (v := .c (.ptr 3 (0 + k21 * 1))) (foot := []) (Ev (n := 3) (q := 0) (len := 22) (sz := 1) (k := k21) (ix := v10) he (by kernel_rfl)) (by kernel_rfl) rfl rfl ?_
 have hb_k21 := oH he; clear he
 refine sX (n := 3) (off := (0 + k21 * 1)) (T0 := 52) (sz := 1) (lx := [I e20.start]) (l := [I v11.x0, I v11.x1, I v11.x2, I v11.x3, I v11.x4, I v11.x5, I v11.x6, I v11.x7, I v11.x8, I v11.x9, I v11.x10, I v11.x11, I v11.x12, I v11.x13, I v11.x14, I v11.x15, I v11.x16, I v11.x17, I v11.x18, I v11.x19, I v11.x20, I v11.x21]) (l2 := [I ((E7 v11 k21 e20.start).x0), I ((E7 v11 k21 e20.start).x1), I ((E7 v11 k21 e20.start).x2), I ((E7 v11 k21 e20.start).x3), I ((E7 v11 k21 e20.start).x4), I ((E7 v11 k21 e20.start).x5), I ((E7 v11 k21 e20.start).x6), I ((E7 v11 k21 e20.start).x7), I ((E7 v11 k21 e20.start).x8), I ((E7 v11 k21 e20.start).x9), I ((E7 v11 k21 e20.start).x10), I ((E7 v11 k21 e20.start).x11), I ((E7 v11 k21 e20.start).x12), I ((E7 v11 k21 e20.start).x13), I ((E7 v11 k21 e20.start).x14), I ((E7 v11 k21 e20.start).x15), I ((E7 v11 k21 e20.start).x16), I ((E7 v11 k21 e20.start).x17), I ((E7 v11 k21 e20.start).x18), I ((E7 v11 k21 e20.start).x19), I ((E7 v11 k21 e20.start).x20), I ((E7 v11 k21 e20.start).x21)]) (by kernel_rfl) (by kernel_rfl) (by simp only [List.length_cons, List.length_nil]; omega) (by rw [Nat.zero_add]; exact aA.splice_eq v11 k21 e20.start hb_k21) (by kernel_rfl) rfl rfl ?_
 refine cF ?_
 exact eZ (zv [(0, 0), (1, 1), (2, 2), (3, 3)] [3, 4, 6, 8, 9, 10, 18, 11] 4) (hj15 _ h)
 exact aL (zv [(2, 0), (3, 1)] [8, 10] 2) (bK (hj2 _ h))
end Go.Proofs.YtojkihhnioeggaaGreatDoor.S
