import Derived.Test.YtojkihhnioeggaaGreatDoorQUGM2
set_option linter.unusedVariables false
set_option linter.unusedSimpArgs false
set_option maxRecDepth 100000
set_option maxHeartbeats 4000000
namespace Go.Proofs.YtojkihhnioeggaaGreatDoor.S
open Go Go.Bm
def iD (p0 : aJ) (self_ref14_build : aJ → Int → bA → Option bA) (p2 : bA) (j2 : List Int → Int → Int → List aP → Option bA) : Nat → List Int → Int → Int → Int → List aP → Option bA
 | 0, _, _, _, _, _ => none
 | n + 1, v6, v7, v8, v9, v10 => (if (decide (v7 < (List.length p0.Kids : Int))) = true then (pD 8 v6 [v9]).bind fun (l11 : List Int) => (idx p0.Kids v7).bind fun (e12 : aJ) => (self_ref14_build e12 p2.Next (bA.mk v8 v9 v10)).bind fun (y13 : bA) => iD p0 self_ref14_build p2 j2 n l11 (IntKind.wrap .i64 (v7 + 1)) y13.Root y13.Next y13.Nodes else j2 v6 v8 v9 v10)
def lS (self_ref14_build : aJ → Int → bA → Option bA) (n : Nat) (p0 : aJ) (p1 : Int) (p2 : bA) : Option bA := (pD 112 p2.Nodes [(aP.mk p2.Next p1 p0.Kind p0.Key p0.Attrs p0.Actions ([] : List Int))]).bind fun (l1 : List aP) => (aS (fun (v19 : List Int) (v20 : Int) (v21 : Int) (v22 : List aP) => (uQ (List.length p2.Nodes : Int) (List.length v22)).bind fun (k23 : Nat) => (v22[k23]?).bind fun (e24 : aP) => some (bA.mk v20 v21 (List.set v22 k23 (aP.mk e24.ID e24.Parent e24.Kind e24.Key e24.Attrs e24.Actions v19)))) (fun (j2 : List Int → Int → Int → List aP → Option bA) => iD p0 self_ref14_build p2 j2 n ([] : List Int) 0 p2.Root (IntKind.wrap .i64 (p2.Next + 1)) l1))
theorem wY (self_ref14_build : aJ → Int → bA → Option bA) (ih_ref14_build : ∀ (p0 : aJ) (p1 : Int) (p2 : bA) (r : bA), self_ref14_build p0 p1 p2 = some r → dI E 60 1 [B0 p0, A6 p1, .agg [I p2.Root, I p2.Next, .row 0]] [(0, H3 p2.Nodes)] (.agg [I r.Root, I r.Next, .row 1]) [(1, H3 r.Nodes)]) (n : Nat) (p0 : aJ) (p1 : Int) (p2 : bA) (r : bA) (h : lS self_ref14_build n p0 p1 p2 = some r) : dI E 60 1 [B0 p0, A6 p1, .agg [I p2.Root, I p2.Next, .row 0]] [(0, H3 p2.Nodes)] (.agg [I r.Root, I r.Next, .row 1]) [(1, H3 r.Nodes)] := by
 refine gT Tryz.func60 rfl ?_
 unfold lS at h
 refine za [1, 3, 5, 6] ?_
 refine za [1, 3, 5, 6, 7] ?_
 refine zx fun _ => ?_
 refine zk 2 ?_
 refine dT (v := .c (I (List.length p2.Nodes : Int))) (foot := [0]) (Rr (enc := aE) (l := p2.Nodes) (n := 0) (by kernel_rfl)) (by kernel_rfl) rfl rfl ?_
 refine zk 1 ?_
 refine ze [1, 3, 5, 6, 7, 8] ?_
 refine zx fun _ => ?_
 refine zk 14 ?_
 obtain ⟨l1, he, h⟩ := aB h
 refine yB (enc := aE) (l := p2.Nodes) (els := [(aP.mk p2.Next p1 p0.Kind p0.Key p0.Attrs p0.Actions ([] : List Int))]) (r := l1) (m := 0) (e := 58) (sz := 7) (bytes := 112) (nm := 25) he (by kernel_rfl) (fun x => by kernel_rfl) (by kernel_rfl) (by kernel_rfl) rfl rfl rfl ?_
 clear he
 refine zk 2 ?_
 refine ze [3, 5, 6, 7, 8] ?_
 refine za [3, 5, 6, 7, 8] ?_
 refine za [3, 5, 6, 7, 8, 9] ?_
 refine aX h (fun A j => ∀ v19 v20 v21 v22, j v19 v20 v21 v22 = some r → A (mk [C0 5 1 0, C0 6 2 0, (8, .c (I (List.length p2.Nodes : Int))), (9, .c (.app 3 (List.map aH v19)))] [(1, .blk 27 [I v20, I v21, .row 4]), (2, .blk 27 [I 0, I 0, cQ]), B7 3 3 1 v19, (4, H3 v22)] 5)) (fun v19 v20 v21 v22 h => ?_) (fun j2 Aj2 hj2 h => ?_)
 refine zx fun _ => ?_
 refine zk 4 ?_
 obtain ⟨k23, he, h⟩ := aB h
 refine dT (v := .c (.ptr 4 (k23 * 7))) (foot := [4]) (rJ (enc := aE) (l := v22) (n := 4) (sz := 7) (k := k23) (ix := (List.length p2.Nodes : Int)) he (by kernel_rfl)) (by kernel_rfl) rfl rfl ?_
 have hb_k23 := oH he; clear he
 refine zk 1 ?_
 obtain ⟨e24, he, h⟩ := aB h
 refine wJ (enc := aE) (n := 4) (q := k23) (f := 6) (sz := 7) (T0 := 58) (lp := [C1 v19]) (l := v22) (e := e24) (e2 := (aP.mk e24.ID e24.Parent e24.Kind e24.Key e24.Attrs e24.Actions v19)) he (by kernel_rfl) (by simp only [List.length_cons, List.length_nil]; omega) (by kernel_rfl) (by kernel_rfl) rfl rfl ?_
 clear he
 refine ze [5, 6] ?_
 refine za [6] ?_
 have h := Option.some.inj h
 subst h
 refine aL (yE rfl [(4, 1), (2, 2)] [6] (L2 := [C0 6 2 0]) (G2 := [(1, H3 (List.set v22 k23 (aP.mk e24.ID e24.Parent e24.Kind e24.Key e24.Attrs e24.Actions v19))), (2, .blk 27 [I v20, I v21, .row 1])]) (lim2 := 3) (by kernel_rfl)) ?_
 exact aI (Rj (.inl rfl) (by kernel_rfl) (by kernel_rfl))
 refine za [3, 5, 6, 7, 8, 9, 10] ?_
 refine aK ?_
 refine bJ (fun n s => ∃ v6 v7 v8 v9 v10, iD p0 self_ref14_build p2 j2 n v6 v7 v8 v9 v10 = some r ∧ s = mk [M9, C0 5 2 0, C0 6 3 0, C6 7 p2.Next, (8, .c (I (List.length p2.Nodes : Int))), (9, .c (.app 4 (List.map aH v6))), C6 10 v7] [(1, A7 p0), (2, .blk 27 [I v8, I v9, .row 5]), (3, .blk 27 [I 0, I 0, cQ]), B7 4 3 1 v6, (5, H3 v10)] 6) n _ (eA.trans (nC (L2 := [M9, C0 5 2 0, C0 6 3 0, C6 7 p2.Next, (8, .c (I (List.length p2.Nodes : Int))), (9, .c (.app 35 (List.map aH ([] : List Int)))), I9 10]) (G2 := [(1, A7 p0), (2, .blk 27 [I p2.Root, I (D2 p2.Next 1), .row 25]), (3, .blk 27 [I 0, I 0, cQ]), (24, .tok 58 7 (List.length [(aP.mk p2.Next p1 p0.Kind p0.Key p0.Attrs p0.Actions ([] : List Int))])), (25, H3 l1), (35, .tok 3 1 (List.length ([] : List Int)))]) (lim2 := 36) 9 3 1 (by kernel_rfl) (by kernel_rfl) (by kernel_rfl) (by kernel_rfl)) (zv [(1, 1), (2, 2), (3, 3), (35, 4), (25, 5)] [3, 5, 6, 7, 8, 9, 10] 6)) ⟨_, _, _, _, _, h, rfl⟩ (fun s ⟨v6, v7, v8, v9, v10, h, _⟩ => nomatch h) ?_
 rintro n s ⟨v6, v7, v8, v9, v10, h, rfl⟩
 rw [iD] at h
 refine aO ?_
 refine zx fun _ => ?_
 refine zk 3 ?_
 refine zl bE p0.Kids ?_
 refine zk 1 ?_
 refine ze [3, 5, 6, 7, 8, 9, 10, 40] ?_
 refine zi h (fun h => ?_) fun h => ?_
 refine aC ?_
 refine aO ?_
 refine aK ?_
 refine zx fun _ => ?_
 refine zk 4 ?_
 obtain ⟨l11, he, h⟩ := aB h
 refine cH (enc := aH) (l := v6) (els := [v9]) (r := l11) (old := some 4) (e := 3) (sz := 1) (bytes := 8) (k := (H4 v6)) (nm := 15) he (by kernel_rfl) (by kernel_rfl) (fun x => by kernel_rfl) (by kernel_rfl) (by kernel_rfl) rfl rfl rfl ?_
 clear he
 refine zk 1 ?_
 refine ze [3, 5, 6, 7, 8, 9, 10] ?_
 refine Uo [[], [0], [], [1, 2, 0], [3, 1, 2, 0], [], [], [4, 5, 6, 3, 1, 2, 0], [7, 0, 1, 2, 3, 4, 5, 6]] fun _ => ?_
 refine zk 3 ?_
 obtain ⟨e12, he, h⟩ := aB h
 refine dT (v := .c (E5 e12)) (foot := []) (eK (enc := bE) (sz := 5) (l := p0.Kids) (ix := v7) he (by kernel_rfl) (iA e12) (by kernel_rfl)) (by kernel_rfl) rfl rfl ?_
 clear he
 refine zk 3 ?_
 obtain ⟨y13, he, h⟩ := aB h
 refine Gh (F := 60) (As := [B0 e12, A6 p2.Next, .agg [I v8, I v9, .row 5]]) (Bs := [B0 e12, A6 p2.Next, .agg [I v8, I v9, .row 0]]) (σ := [(0, 5), (1, 24)]) (k := 1) (kn := 1) (nm := 24) (Gc := [(0, H3 v10)]) (Gf := [(1, H3 y13.Nodes)]) (r := .agg [I y13.Root, I y13.Next, .row 1]) (v := .agg [I y13.Root, I y13.Next, .row 24]) (by kernel_rfl) fok60 ⟨.inl (by kernel_rfl), ⟨.inl (by kernel_rfl), ⟨.inr ⟨(by kernel_rfl), (by kernel_rfl)⟩, trivial⟩⟩⟩ (ih_ref14_build _ _ _ y13 he) (by kernel_rfl) (by kernel_rfl) (by kernel_rfl) (by kernel_rfl) (by kernel_rfl) (by kernel_rfl) rfl rfl rfl ?_
 clear he
 refine zk 1 ?_
 refine cF ?_
 refine bB ?_
 refine zb ?_
 exact eZ (zv [(1, 1), (2, 2), (3, 3), (15, 4), (24, 5)] [3, 5, 6, 7, 8, 9, 10] 6) (⟨_, _, _, _, _, h, rfl⟩)
 exact aL (zv [(2, 1), (3, 2), (4, 3), (5, 4)] [5, 6, 8, 9] 5) (bK (hj2 _ _ _ _ h))
def jP : Nat → aJ → Int → bA → Option bA
 | 0, _, _, _ => none
 | n + 1, p0, p1, p2 => lS (fun a0 a1 a2 => jP n a0 a1 a2) n p0 p1 p2
theorem Eu (n : Nat) : (∀ (p0 : aJ) (p1 : Int) (p2 : bA) (r : bA), jP n p0 p1 p2 = some r → dI E 60 1 [B0 p0, A6 p1, .agg [I p2.Root, I p2.Next, .row 0]] [(0, H3 p2.Nodes)] (.agg [I r.Root, I r.Next, .row 1]) [(1, H3 r.Nodes)]) := by
 induction n with
 | zero => intro p0 p1 p2 r h; rw [jP] at h; cases h
 | succ n ih => intro p0 p1 p2 r h; rw [jP] at h; exact wY _ ih n _ _ _ r h
def nE  (n : Nat) (p0 : aJ) (p1 : Int) : Option (bA × Int) := (iG n p0).bind fun (y1 : Int) => (if (y1 != 0) = true then some ((bA.mk 0 0 ([] : List aP)), y1) else (if ((decide (p1 < 1)) || (decide (p1 > 1099511627376))) = true then some ((bA.mk 0 0 ([] : List aP)), 1) else (jP n p0 0 (bA.mk p1 p1 ([] : List aP))).bind fun (y2 : bA) => some (y2, 0)))
theorem uY  (n : Nat) (p0 : aJ) (p1 : Int) (r : (bA × Int)) (h : nE n p0 p1 = some r) : dI E 28 0 [B0 p0, A6 p1] [] (.tup [C8 r.1, A6 r.2]) [] := by
 refine gT Tryz.func28 rfl ?_
 unfold nE at h
 refine za [1, 2, 4] ?_
 refine aO ?_
 refine zx fun _ => ?_
 refine zk 1 ?_
 obtain ⟨y1, he, h⟩ := aB h
 refine zc fok59 (rC n _ y1 he) ?_
 clear he
 refine zk 1 ?_
 refine ze [1, 2, 4, 6] ?_
 refine za [1, 2, 4, 6, 11] ?_
 refine zi h (fun h => ?_) fun h => ?_
 refine za [4, 5] ?_
 cases h
 exact aI zr
 refine aC ?_
 refine aO ?_
 refine zx fun _ => ?_
 refine zk 3 ?_
 refine zE (A6 p1) ?_
 refine zE (L3 p1 1099511627376) ?_
 refine zP (.bool (A3 p1 1 1099511627376)) ?_
 refine ze [1, 2, 4, 19] ?_
 refine zi h (fun h => ?_) fun h => ?_
 refine za [4, 5] ?_
 cases h
 exact aI zr
 refine aC ?_
 refine za [2, 4, 7] ?_
 refine zx fun _ => ?_
 refine zk 2 ?_
 obtain ⟨y2, he, h⟩ := aB h
 refine Gh (F := 60) (As := [B0 p0, .c (I 0), .agg [I p1, I p1, cQ]]) (Bs := [B0 p0, .c (I 0), .agg [I p1, I p1, cQ]]) (σ := [(1, 21)]) (k := 0) (kn := 1) (nm := 21) (Gc := []) (Gf := [(1, H3 y2.Nodes)]) (r := .agg [I y2.Root, I y2.Next, .row 1]) (v := .agg [I y2.Root, I y2.Next, .row 21]) (by kernel_rfl) fok60 ⟨.inl (by kernel_rfl), ⟨.inl (by kernel_rfl), ⟨.inr ⟨(by kernel_rfl), (by kernel_rfl)⟩, trivial⟩⟩⟩ (dI.nil1 (Eu n _ _ _ y2 he) rfl rfl) (by kernel_rfl) (by kernel_rfl) (by kernel_rfl) (by kernel_rfl) (by kernel_rfl) (by kernel_rfl) rfl rfl rfl ?_
 clear he
 refine zk 2 ?_
 refine mC [4, 5] (L2 := [I3, I9 5]) (G2 := [(0, A7 p0), (1, .blk 27 [I y2.Root, I y2.Next, .row 21]), (17, .blk 27 [I p1, I p1, cQ]), (21, H3 y2.Nodes)]) 24 ?_
 refine aL (wN 21 (T := 58) (sz := 7) (l := List.map aE y2.Nodes) (L2 := [I3, I9 5]) (G2 := [(0, A7 p0), L4 1 y2, (17, .blk 27 [I p1, I p1, cQ])]) (by kernel_rfl) (by kernel_rfl) (by kernel_rfl)) ?_
 cases h
 exact aI zr
def vS  (n : Nat) (p0 : aN) (p1 : Int) : Option (bA × aN) := (wB n p0 p1).bind fun (y1 : (aJ × aN)) => (nB n y1.2 1 5).bind fun (y2 : (Int × aN)) => (nE n y1.1 y2.1).bind fun (y3 : (bA × Int)) => some (y3.1, y2.2)
theorem Ni  (n : Nat) (p0 : aN) (p1 : Int) (r : (bA × aN)) (h : vS n p0 p1 = some r) : dI E 10 1 [A1 0 0, A6 p1] [E0 p0] (C8 r.1) [E0 r.2] := by
 refine gT Tryz.func10 rfl ?_
 unfold vS at h
 refine za [0, 1, 4] ?_
 refine zx fun _ => ?_
 refine zk 2 ?_
 obtain ⟨y1, he, h⟩ := aB h
 refine zo [(0, 0)] fok27 (Mx n _ _ y1 he) ?_
 clear he
 refine zk 1 ?_
 obtain ⟨y2, he, h⟩ := aB h
 refine zo [(0, 0)] Se (pP n _ _ _ y2 he) ?_
 clear he
 obtain ⟨y3, he, h⟩ := aB h
 refine zc fok28 (uY n _ _ y3 he) ?_
 clear he
 refine zk 6 ?_
 refine ze [4, 5] ?_
 refine za [4] ?_
 cases h
 exact aI zr
def dK  (n : Nat) (p0 : Int) (p1 : Int) : Option Bool := (aS (fun (v8 : Int) (v9 : Int) => some ((((decide (p0 ≥ 0)) && (decide (p0 < 22))) && (decide (p1 ≥ v8))) && (decide (p1 ≤ v9)))) (fun (j1 : Int → Int → Option Bool) => (if (p0 == 0) = true then j1 0 16777215 else (if (p0 == 1) = true then j1 (-1 : Int) 16777215 else (if (p0 == 2) = true then j1 1 1000 else (if (p0 == 3) = true then j1 0 7 else (aS (fun (v3 : Bool) => (if v3 = true then j1 0 1 else (aS (fun (v5 : Bool) => (if v5 = true then j1 0 4 else (if (p0 == 7) = true then j1 0 3 else (if (p0 == 8) = true then j1 0 2 else (aS (fun (v7 : Bool) => (if v7 = true then j1 0 1000 else (if (p0 == 12) = true then j1 (-1 : Int) 1048576 else j1 0 1048576))) (fun (j6 : Bool → Option Bool) => (if (p0 == 10) = true then j6 (p0 == 10) else j6 (p0 == 11)))))))) (fun (j4 : Bool → Option Bool) => (if (p0 == 5) = true then j4 (p0 == 5) else j4 (p0 == 6)))))) (fun (j2 : Bool → Option Bool) => (if (p0 == 4) = true then j2 (p0 == 4) else j2 (p0 == 21))))))))))
theorem Av  (n : Nat) (p0 : Int) (p1 : Int) (r : Bool) (h : dK n p0 p1 = some r) : dI E 65 0 [A6 p0, A6 p1] [] (B2 r) [] := by
 refine gT Tryz.func65 rfl ?_
 unfold dK at h
 refine za [0, 1] ?_
 refine za [0, 1, 5, 6] ?_
 refine aX h (fun A j => ∀ v8 v9, j v8 v9 = some r → A (mk [C6 0 p0, C6 1 p1, C6 5 v8, C6 6 v9] [] 0)) (fun v8 v9 h => ?_) (fun j1 Aj1 hj1 h => ?_)
 refine zx fun _ => ?_
 refine zk 3 ?_
 refine zE (A6 p0) ?_
 refine zE (J5 p0 22) ?_
 refine zP (.bool ((I8 p0 0) && (D9 p0 22))) ?_
 refine zk 1 ?_
 refine zE (A6 p1) ?_
 refine zE (A6 v8) ?_
 refine zE (B2 (I8 p1 v8)) ?_
 refine zP (.bool (((I8 p0 0) && (D9 p0 22)) && (I8 p1 v8))) ?_
 refine zk 1 ?_
 refine zE (A6 p1) ?_
 refine zE (A6 v9) ?_
 refine zE (B2 (I7 p1 v9)) ?_
 refine zP (.bool ((((I8 p0 0) && (D9 p0 22)) && (I8 p1 v8)) && (I7 p1 v9))) ?_
 refine zk 1 ?_
 refine mC [4] (L2 := [(4, B2 ((((I8 p0 0) && (D9 p0 22)) && (I8 p1 v8)) && (I7 p1 v9)))]) (G2 := []) 17 ?_
 cases h
 exact aI zr
 refine za [0, 1, 5, 6, 7] ?_
 refine aK ?_
 refine za [0, 1, 5, 6, 7, 8] ?_
 refine zi h (fun h => ?_) fun h => ?_
 refine bB ?_
 refine zb ?_
 exact eZ (zv [] [0, 1, 5, 6] 0) (hj1 _ _ h)
 refine za [0, 1, 5, 6, 7, 10] ?_
 refine zi h (fun h => ?_) fun h => ?_
 refine bB ?_
 refine zb ?_
 exact eZ (zv [] [0, 1, 5, 6] 0) (hj1 _ _ h)
 refine za [0, 1, 5, 6, 7, 12] ?_
 refine zi h (fun h => ?_) fun h => ?_
 refine bB ?_
 refine zb ?_
 exact eZ (zv [] [0, 1, 5, 6] 0) (hj1 _ _ h)
 refine za [0, 1, 5, 6, 7, 14] ?_
 refine zi h (fun h => ?_) fun h => ?_
 refine bB ?_
 refine zb ?_
 exact eZ (zv [] [0, 1, 5, 6] 0) (hj1 _ _ h)
 refine aX h (fun A j => ∀ v3, j v3 = some r → A (mk [C6 0 p0, C6 1 p1, I9 5, (6, .c (I 1048576)), C6 7 p0, K2 16 v3] [] 0)) (fun v3 h => ?_) (fun j2 Aj2 hj2 h => ?_)
 refine zi h (fun h => ?_) fun h => ?_
 refine bB ?_
 refine zb ?_
 exact eZ (zv [] [0, 1, 5, 6] 0) (hj1 _ _ h)
 refine aX h (fun A j => ∀ v5, j v5 = some r → A (mk [C6 0 p0, C6 1 p1, I9 5, (6, .c (I 1048576)), C6 7 p0, K2 19 v5] [] 0)) (fun v5 h => ?_) (fun j4 Aj4 hj4 h => ?_)
 refine zi h (fun h => ?_) fun h => ?_
 refine bB ?_
 refine zb ?_
 exact eZ (zv [] [0, 1, 5, 6] 0) (hj1 _ _ h)
 refine za [0, 1, 5, 6, 7, 22] ?_
 refine zi h (fun h => ?_) fun h => ?_
 refine bB ?_
 refine zb ?_
 exact eZ (zv [] [0, 1, 5, 6] 0) (hj1 _ _ h)
 refine za [0, 1, 5, 6, 7, 24] ?_
 refine zi h (fun h => ?_) fun h => ?_
 refine bB ?_
 refine zb ?_
 exact eZ (zv [] [0, 1, 5, 6] 0) (hj1 _ _ h)
 refine aX h (fun A j => ∀ v7, j v7 = some r → A (mk [C6 0 p0, C6 1 p1, I9 5, (6, .c (I 1048576)), C6 7 p0, K2 26 v7] [] 0)) (fun v7 h => ?_) (fun j6 Aj6 hj6 h => ?_)
 refine zi h (fun h => ?_) fun h => ?_
 refine bB ?_
 refine zb ?_
 exact eZ (zv [] [0, 1, 5, 6] 0) (hj1 _ _ h)
 refine za [0, 1, 5, 6, 29] ?_
 refine zi h (fun h => ?_) fun h => ?_
 refine bB ?_
 refine zb ?_
 exact eZ (zv [] [0, 1, 5, 6] 0) (hj1 _ _ h)
 exact aL (zv [] [0, 1, 5, 6] 0) (aC (hj1 _ _ h))
 refine za [0, 1, 5, 6, 7, 26] ?_
 refine zi h (fun h => ?_) fun h => ?_
 exact aL (zv [] [0, 1, 5, 6, 7, 26] 0) (aC (hj6 _ h))
 refine bB ?_
 refine zb ?_
 exact eZ (zv [] [0, 1, 5, 6, 7, 26] 0) (hj6 _ h)
 refine za [0, 1, 5, 6, 7, 19] ?_
 refine zi h (fun h => ?_) fun h => ?_
 exact aL (zv [] [0, 1, 5, 6, 7, 19] 0) (aC (hj4 _ h))
 refine bB ?_
 refine zb ?_
 exact eZ (zv [] [0, 1, 5, 6, 7, 19] 0) (hj4 _ h)
 refine za [0, 1, 5, 6, 7, 16] ?_
 refine zi h (fun h => ?_) fun h => ?_
 exact aL (zv [] [0, 1, 5, 6, 7, 16] 0) (aC (hj2 _ h))
 refine bB ?_
 refine zb ?_
 exact eZ (zv [] [0, 1, 5, 6, 7, 16] 0) (hj2 _ h)
def nD (v3 : Int) (j9 : Int → Option (bM × aN)) (y7 : (Int × aN)) : Nat → Int → Option (bM × aN)
 | 0, _ => none
 | n + 1, v11 => (dK n v3 v11).bind fun (y12 : Bool) => (if (!y12) = true then (if (decide ((Gv 0 (IntKind.wrap .i64 (Int.tdiv v11 2))) < 2)) = true then j9 1 else nD v3 j9 y7 n (Gv 0 (IntKind.wrap .i64 (Int.tdiv v11 2)))) else j9 v11)
def vL  (n : Nat) (p0 : aN) (p1 : Int) : Option (bM × aN) := (cN n p0 22).bind fun (y1 : (Int × aN)) => (aS (fun (v3 : Int) => (cN n y1.2 8).bind fun (y4 : (Int × aN)) => (if (y4.1 == 0) = true then (cN n y4.2 4).bind fun (y5 : (Int × aN)) => (idx [(⟨#[105, 110, 107]⟩ : ByteArray), (⟨#[112, 97, 112, 101, 114]⟩ : ByteArray), (⟨#[115, 112, 97, 99, 101]⟩ : ByteArray), (⟨#[110, 111, 110, 101]⟩ : ByteArray)] y5.1).bind fun (e6 : ByteArray) => some ((bM.mk v3 1 0 e6), y5.2) else (if (y4.1 == 1) = true then some ((bM.mk v3 2 0 (⟨#[]⟩ : ByteArray)), y4.2) else (if (y4.1 == 2) = true then some ((bM.mk v3 3 0 (⟨#[]⟩ : ByteArray)), y4.2) else (cN n y4.2 (List.length [0, 1, 2, 3, 4, 8, 12, 20, 40, 90, 300, (-1 : Int)] : Int)).bind fun (y7 : (Int × aN)) => (idx [0, 1, 2, 3, 4, 8, 12, 20, 40, 90, 300, (-1 : Int)] y7.1).bind fun (e8 : Int) => (aS (fun (v14 : Int) => some ((bM.mk v3 0 v14 (⟨#[]⟩ : ByteArray)), y7.2)) (fun (j9 : Int → Option (bM × aN)) => nD v3 j9 y7 n e8)))))) (fun (j2 : Int → Option (bM × aN)) => (if (((mI .i64 p1 7) != 0) && ((y1.1 == 5) || (y1.1 == 21))) = true then j2 9 else j2 y1.1)))
theorem Mk  (n : Nat) (p0 : aN) (p1 : Int) (r : (bM × aN)) (h : vL n p0 p1 = some r) : dI E 33 1 [A1 0 0, A6 p1] [E0 p0] (.agg [I r.1.Prop_, I r.1.Source, I r.1.N, Sx r.1.Token]) [E0 r.2] := by
 refine gT Tryz.func33 rfl ?_
 unfold vL at h
 refine za [0, 1, 4] ?_
 refine zx fun _ => ?_
 refine zk 1 ?_
 obtain ⟨y1, he, h⟩ := aB h
 refine zo [(0, 0)] cS (bG n _ _ y1 he) ?_
 clear he
 refine zk 3 ?_
 refine ze [0, 1, 4, 5] ?_
 refine aX h (fun A j => ∀ v3, j v3 = some r → A (mk [H7, I3, C0 5 2 0] [E0 y1.2, (1, .blk 81 [I 0, I 0, I 0, Sx (⟨#[]⟩ : ByteArray)]), (2, .blk 81 [I v3, I 0, I 0, Sx (⟨#[]⟩ : ByteArray)])] 3)) (fun v3 h => ?_) (fun j2 Aj2 hj2 h => ?_)
 refine aO ?_
 refine zx fun _ => ?_
 refine zk 1 ?_
 obtain ⟨y4, he, h⟩ := aB h
 refine zo [(0, 0)] cS (bG n _ _ y4 he) ?_
 clear he
 refine ze [0, 4, 5, 25] ?_
 refine aK ?_
 refine za [0, 4, 5, 25, 26] ?_
 refine zi h (fun h => ?_) fun h => ?_
 refine Dm [[], [], [1], [0, 2, 1], [3, 0, 2, 1], [], [5, 2, 1], [0, 1, 2, 3, 4, 5, 6], [7, 4, 6, 0, 1, 2, 3, 5]] fun _ => ?_
 refine zk 2 ?_
 obtain ⟨y5, he, h⟩ := aB h
 refine zo [(0, 0)] cS (bG n _ _ y5 he) ?_
 clear he
 obtain ⟨e6, he, h⟩ := aB h
 refine zd eS he ?_
 clear he
 refine zk 5 ?_
 refine ze [4, 5] ?_
 refine za [4] ?_
 cases h
 exact aI zr
 refine za [0, 4, 5, 25, 36] ?_
 refine zi h (fun h => ?_) fun h => ?_
 refine za [4, 5] ?_
 refine za [4] ?_
 cases h
 exact aI zr
 refine za [0, 4, 5, 40] ?_
 refine zi h (fun h => ?_) fun h => ?_
 refine za [4, 5] ?_
 refine za [4] ?_
 cases h
 exact aI zr
 refine aC ?_
 refine za [0, 4, 5, 6] ?_
 refine zx fun _ => ?_
 refine zk 3 ?_
 refine zl aH [0, 1, 2, 3, 4, 8, 12, 20, 40, 90, 300, (-1 : Int)] ?_
 obtain ⟨y7, he, h⟩ := aB h
 refine zo [(0, 0)] cS (bG n _ _ y7 he) ?_
 clear he
 obtain ⟨e8, he, h⟩ := aB h
 refine zd aH he ?_
 clear he
 refine zk 3 ?_
 refine mC [4, 5] (L2 := [I3, C0 5 2 0]) (G2 := [E0 y7.2, (1, .blk 81 [I 0, I 0, I 0, Sx (⟨#[]⟩ : ByteArray)]), (2, .blk 81 [I v3, I 0, I e8, Sx (⟨#[]⟩ : ByteArray)]), (11, .tok 3 1 (List.length [0, 1, 2, 3, 4, 8, 12, 20, 40, 90, 300, (-1 : Int)]))]) 22 ?_
 refine aX h (fun A j => ∀ v14, j v14 = some r → A (mk [I3, C0 5 2 0] [E0 y7.2, (1, .blk 81 [I 0, I 0, I 0, Sx (⟨#[]⟩ : ByteArray)]), (2, .blk 81 [I v3, I 0, I v14, Sx (⟨#[]⟩ : ByteArray)])] 3)) (fun v14 h => ?_) (fun j9 Aj9 hj9 h => ?_)
 refine za [4] ?_
 cases h
 exact aI zr
 refine aK ?_
 refine bJ (fun n s => ∃ v11, nD v3 j9 y7 n v11 = some r ∧ s = mk [I3, C0 5 2 0] [E0 y7.2, (1, .blk 81 [I 0, I 0, I 0, Sx (⟨#[]⟩ : ByteArray)]), (2, .blk 81 [I v3, I 0, I v11, Sx (⟨#[]⟩ : ByteArray)])] 3) n _ (zv [(0, 0), (1, 1), (2, 2)] [4, 5] 3) ⟨_, h, rfl⟩ (fun s ⟨v11, h, _⟩ => nomatch h) ?_
 rintro n s ⟨v11, h, rfl⟩
 rw [nD] at h
 refine aO ?_
 refine zx fun _ => ?_
 refine zk 4 ?_
 obtain ⟨y12, he, h⟩ := aB h
 refine zc fok65 (Av n _ _ y12 he) ?_
 clear he
 refine zk 1 ?_
 refine ze [4, 5, 58] ?_
 refine zi h (fun h => ?_) fun h => ?_
 refine aC ?_
 refine aK ?_
 refine zx fun _ => ?_
 refine zk 3 ?_
 refine zw (v := .c (I (Gv 0 (IntKind.wrap .i64 (Int.tdiv v11 2))))) [] (aBb (k := .i64) (p := 0) (q := (IntKind.wrap .i64 (Int.tdiv v11 2))) (by kernel_rfl)) ?_
 refine zk 2 ?_
 refine ze [4, 5] ?_
 refine za [4, 5, 66] ?_
 refine zi h (fun h => ?_) fun h => ?_
 refine za [4, 5] ?_
 exact aL (zv [(0, 0), (1, 1), (2, 2)] [4, 5] 3) (bK (hj9 _ h))
 exact aL (zv [(0, 0), (1, 1), (2, 2)] [4, 5] 3) (aC (⟨_, h, rfl⟩))
 exact aL (zv [(0, 0), (1, 1), (2, 2)] [4, 5] 3) (bK (hj9 _ h))
 refine zx fun _ => ?_
 refine zk 4 ?_
 refine zE (A1 5 0) ?_
 refine zE (A6 y1.1) ?_
 refine zE (B2 (y1.1 == 5)) ?_
 refine zF [(mI .i64 p1 7) != 0] (B2 (y1.1 == 5)) ?_
 refine zE (A1 5 0) ?_
 refine zE (A6 y1.1) ?_
 refine zE (B2 (y1.1 == 21)) ?_
 refine zP (.bool ((y1.1 == 5) || (y1.1 == 21))) ?_
 refine zP (.bool (((mI .i64 p1 7) != 0) && ((y1.1 == 5) || (y1.1 == 21)))) ?_
 refine mC [0, 4, 5, 22] (L2 := [H7, I3, C0 5 5 0, (22, B2 (((mI .i64 p1 7) != 0) && ((y1.1 == 5) || (y1.1 == 21))))]) (G2 := [E0 y1.2, (1, .blk 81 [I 0, I 0, I 0, Sx (⟨#[]⟩ : ByteArray)]), (5, .blk 81 [I y1.1, I 0, I 0, Sx (⟨#[]⟩ : ByteArray)])]) 20 ?_
 refine zi h (fun h => ?_) fun h => ?_
 refine bB ?_
 refine zb ?_
 exact eZ (zv [(0, 0), (1, 1), (5, 2)] [0, 4, 5] 3) (hj2 _ h)
 exact aL (zv [(0, 0), (1, 1), (5, 2)] [0, 4, 5] 3) (aC (hj2 _ h))
def jW (v89 : Int) (j102 : List Int → Int → List bM → Option (bH × aN)) (v67 : Int) (v77 : Int) (v83 : ByteArray) (v95 : Int) (v101 : ByteArray) (v70 : List bY) : Nat → Int → List Int → Int → List bM → Option (bH × aN)
 | 0, _, _, _, _ => none
 | n + 1, v109, v110, v111, v112 => (if (decide (v109 > 0)) = true then (vL n (aN.mk v110 v111) v89).bind fun (y113 : (bM × aN)) => (pD 40 v112 [y113.1]).bind fun (l114 : List bM) => jW v89 j102 v67 v77 v83 v95 v101 v70 n (IntKind.wrap .i64 (v109 - 1)) y113.2.L y113.2.At l114 else j102 v110 v111 v112)
def kG (j1 : List Int → Int → List bY → Option (bH × aN)) : Nat → Int → List Int → Int → List bY → Option (bH × aN)
 | 0, _, _, _, _ => none
 | n + 1, v67, v68, v69, v70 => (if (decide (v67 > 0)) = true then (aS (fun (v126 : List Int) (v127 : Int) (v128 : List bY) => kG j1 n (IntKind.wrap .i64 (v67 - 1)) v126 v127 v128) (fun (j71 : List Int → Int → List bY → Option (bH × aN)) => (aS (fun (v75 : List Int) (v76 : Int) (v77 : Int) => (aS (fun (v81 : List Int) (v82 : Int) (v83 : ByteArray) => (aS (fun (v87 : List Int) (v88 : Int) (v89 : Int) => (aS (fun (v93 : List Int) (v94 : Int) (v95 : Int) => (aS (fun (v99 : List Int) (v100 : Int) (v101 : ByteArray) => (aS (fun (v122 : List Int) (v123 : Int) (v124 : List bM) => (pD 80 v70 [(bY.mk v77 v83 v89 v95 v101 v124)]).bind fun (l125 : List bY) => j71 v122 v123 l125) (fun (j102 : List Int → Int → List bM → Option (bH × aN)) => (nB n (aN.mk v99 v100) 1 4).bind fun (y103 : (Int × aN)) => jW v89 j102 v67 v77 v83 v95 v101 v70 n y103.1 y103.2.L y103.2.At ([] : List bM)))) (fun (j96 : List Int → Int → ByteArray → Option (bH × aN)) => (cN n (aN.mk v93 v94) 5).bind fun (y97 : (Int × aN)) => (if (y97.1 == 0) = true then (nJ n y97.2).bind fun (y98 : (ByteArray × aN)) => j96 y98.2.L y98.2.At y98.1 else j96 y97.2.L y97.2.At (⟨#[]⟩ : ByteArray))))) (fun (j90 : List Int → Int → Int → Option (bH × aN)) => (cN n (aN.mk v87 v88) 4).bind fun (y91 : (Int × aN)) => (if (y91.1 == 0) = true then (cN n y91.2 14).bind fun (y92 : (Int × aN)) => j90 y92.2.L y92.2.At y92.1 else j90 y91.2.L y91.2.At 0)))) (fun (j84 : List Int → Int → Int → Option (bH × aN)) => (cN n (aN.mk v81 v82) 4).bind fun (y85 : (Int × aN)) => (if (y85.1 == 0) = true then (cN n y85.2 32).bind fun (y86 : (Int × aN)) => j84 y86.2.L y86.2.At y86.1 else j84 y85.2.L y85.2.At 0)))) (fun (j78 : List Int → Int → ByteArray → Option (bH × aN)) => (cN n (aN.mk v75 v76) 3).bind fun (y79 : (Int × aN)) => (if (y79.1 == 0) = true then (nJ n y79.2).bind fun (y80 : (ByteArray × aN)) => j78 y80.2.L y80.2.At y80.1 else j78 y79.2.L y79.2.At (⟨#[]⟩ : ByteArray))))) (fun (j72 : List Int → Int → Int → Option (bH × aN)) => (cN n (aN.mk v68 v69) 2).bind fun (y73 : (Int × aN)) => (if (y73.1 == 0) = true then (cN n y73.2 14).bind fun (y74 : (Int × aN)) => j72 y74.2.L y74.2.At y74.1 else j72 y73.2.L y73.2.At 0))))) else j1 v68 v69 v70)
def sK  (n : Nat) (p0 : aN) : Option (bH × aN) := (aS (fun (v139 : List Int) (v140 : Int) (v141 : List bY) => some ((bH.mk v141), (aN.mk v139 v140))) (fun (j1 : List Int → Int → List bY → Option (bH × aN)) => (cN n p0 7).bind fun (y2 : (Int × aN)) => kG j1 n y2.1 y2.2.L y2.2.At ([] : List bY)))
theorem Kg  (n : Nat) (p0 : aN) (r : (bH × aN)) (h : sK n p0 = some r) : dI E 11 1 [A1 0 0] [E0 p0] (.agg [D3 r.1.Rules]) [E0 r.2] := by
 refine gT Tryz.func11 rfl ?_
 unfold sK at h
 refine za [0, 2] ?_
 refine za [0, 2, 3] ?_
 refine aX h (fun A j => ∀ v139 v140 v141, j v139 v140 v141 = some r → A (mk [M5, L6] [A2 v139 v140, H0 1 31 3, H0 2 31 4, (3, .vec 63 6 (List.map bF ([] : List bY))), (4, I6 v141)] 5)) (fun v139 v140 v141 h => ?_) (fun j1 Aj1 hj1 h => ?_)
 refine za [2] ?_
 refine aL (wN 4 (T := 63) (sz := 6) (l := List.map bF v141) (L2 := [M5]) (G2 := [A2 v139 v140, (1, J4 v141), (2, J4 v141), (3, .vec 63 6 (List.map bF ([] : List bY)))]) (by kernel_rfl) (by kernel_rfl) (by kernel_rfl)) ?_
 cases h
 exact aI zr
 refine zx fun _ => ?_
 refine zk 1 ?_
 obtain ⟨y2, he, h⟩ := aB h
 refine zo [(0, 0)] cS (bG n _ _ y2 he) ?_
 clear he
 refine zk 1 ?_
 refine ze [0, 2, 3, 4] ?_
 refine aK ?_
 refine bJ (fun n s => ∃ v67 v68 v69 v70, kG j1 n v67 v68 v69 v70 = some r ∧ s = mk [H7, M5, L6, C6 4 v67] [A2 v68 v69, H0 1 31 3, H0 2 31 4, (3, .vec 63 6 (List.map bF ([] : List bY))), (4, I6 v70)] 5) n _ (eA.trans (xM (n := 1) (T0 := 31) (l := [cQ]) (G2 := [E0 y2.2, H0 1 31 6, (2, .blk 31 [cQ]), (6, .vec 63 6 (List.map bF ([] : List bY)))]) (lim2 := 7) 0 63 6 (by kernel_rfl) (by kernel_rfl) (by kernel_rfl) (by kernel_rfl)) (eA.trans (xM (n := 2) (T0 := 31) (l := [cQ]) (G2 := [E0 y2.2, H0 1 31 6, H0 2 31 7, (6, .vec 63 6 (List.map bF ([] : List bY))), (7, .vec 63 6 (List.map bF ([] : List bY)))]) (lim2 := 8) 0 63 6 (by kernel_rfl) (by kernel_rfl) (by kernel_rfl) (by kernel_rfl)) (zv [(0, 0), (1, 1), (2, 2), (6, 3), (7, 4)] [0, 2, 3, 4] 5))) ⟨_, _, _, _, h, rfl⟩ (fun s ⟨v67, v68, v69, v70, h, _⟩ => nomatch h) ?_
 rintro n s ⟨v67, v68, v69, v70, h, rfl⟩
 rw [kG] at h
 refine aO ?_
 refine za [0, 2, 3, 4, 10] ?_
 refine zi h (fun h => ?_) fun h => ?_
 refine aC ?_
 refine aX h (fun A j => ∀ v126 v127 v128, j v126 v127 v128 = some r → A (mk [H7, M5, L6, C6 4 v67] [A2 v126 v127, H0 1 31 3, H0 2 31 4, (3, .vec 63 6 (List.map bF ([] : List bY))), (4, I6 v128)] 5)) (fun v126 v127 v128 h => ?_) (fun j71 Aj71 hj71 h => ?_)
 refine bB ?_
 refine zb ?_
 exact eZ (zv [(0, 0), (1, 1), (2, 2), (3, 3), (4, 4)] [0, 2, 3, 4] 5) (⟨_, _, _, _, h, rfl⟩)
 refine aK ?_
 refine za [0, 2, 3, 4, 5] ?_
 refine aX h (fun A j => ∀ v75 v76 v77, j v75 v76 v77 = some r → A (mk [H7, M5, L6, C6 4 v67, C0 5 3 0] [A2 v75 v76, H0 1 31 4, H0 2 31 5, (3, .blk 63 [I v77, Sx (⟨#[]⟩ : ByteArray), I 0, I 0, Sx (⟨#[]⟩ : ByteArray), cQ]), (4, .vec 63 6 (List.map bF ([] : List bY))), (5, I6 v70)] 6)) (fun v75 v76 v77 h => ?_) (fun j72 Aj72 hj72 h => ?_)
 refine aX h (fun A j => ∀ v81 v82 v83, j v81 v82 v83 = some r → A (mk [H7, M5, L6, C6 4 v67, C0 5 3 0] [A2 v81 v82, H0 1 31 4, H0 2 31 5, (3, .blk 63 [I v77, Sx v83, I 0, I 0, Sx (⟨#[]⟩ : ByteArray), cQ]), (4, .vec 63 6 (List.map bF ([] : List bY))), (5, I6 v70)] 6)) (fun v81 v82 v83 h => ?_) (fun j78 Aj78 hj78 h => ?_)
 refine aX h (fun A j => ∀ v87 v88 v89, j v87 v88 v89 = some r → A (mk [H7, M5, L6, C6 4 v67, C0 5 3 0] [A2 v87 v88, H0 1 31 4, H0 2 31 5, (3, .blk 63 [I v77, Sx v83, I v89, I 0, Sx (⟨#[]⟩ : ByteArray), cQ]), (4, .vec 63 6 (List.map bF ([] : List bY))), (5, I6 v70)] 6)) (fun v87 v88 v89 h => ?_) (fun j84 Aj84 hj84 h => ?_)
 refine aX h (fun A j => ∀ v93 v94 v95, j v93 v94 v95 = some r → A (mk [H7, M5, L6, C6 4 v67, C0 5 3 0] [A2 v93 v94, H0 1 31 4, H0 2 31 5, (3, .blk 63 [I v77, Sx v83, I v89, I v95, Sx (⟨#[]⟩ : ByteArray), cQ]), (4, .vec 63 6 (List.map bF ([] : List bY))), (5, I6 v70)] 6)) (fun v93 v94 v95 h => ?_) (fun j90 Aj90 hj90 h => ?_)
 refine aX h (fun A j => ∀ v99 v100 v101, j v99 v100 v101 = some r → A (mk [H7, M5, L6, C6 4 v67, C0 5 3 0] [A2 v99 v100, H0 1 31 4, H0 2 31 5, (3, .blk 63 [I v77, Sx v83, I v89, I v95, Sx v101, cQ]), (4, .vec 63 6 (List.map bF ([] : List bY))), (5, I6 v70)] 6)) (fun v99 v100 v101 h => ?_) (fun j96 Aj96 hj96 h => ?_)
 refine aX h (fun A j => ∀ v122 v123 v124, j v122 v123 v124 = some r → A (mk [H7, M5, L6, C6 4 v67, C0 5 3 0] [A2 v122 v123, H0 1 31 4, H0 2 31 5, (3, .blk 63 [I v77, Sx v83, I v89, I v95, Sx v101, .app 6 (List.map bZ v124)]), (4, .vec 63 6 (List.map bF ([] : List bY))), (5, I6 v70), B7 6 81 4 v124] 7)) (fun v122 v123 v124 h => ?_) (fun j102 Aj102 hj102 h => ?_)
 refine bB ?_
 refine zy fun _ => ?_
 refine zk 4 ?_
 obtain ⟨l125, he, h⟩ := aB h
 refine yB (enc := bF) (l := v70) (els := [bY.mk v77 v83 v89 v95 v101 v124]) (r := l125) (m := 5) (e := 63) (sz := 6) (bytes := 80) (nm := 11) he (by kernel_rfl) (fun x => by kernel_rfl) (by kernel_rfl) (by kernel_rfl) rfl rfl rfl ?_
 clear he
 refine zk 2 ?_
 refine cF ?_
 exact eZ (zv [(0, 0), (1, 1), (2, 2), (4, 3), (11, 4)] [0, 2, 3, 4] 5) (hj71 _ _ _ h)
 refine zx fun _ => ?_
 refine zk 1 ?_
 obtain ⟨y103, he, h⟩ := aB h
 refine zo [(0, 0)] Se (pP n _ _ _ y103 he) ?_
 clear he
 refine zk 1 ?_
 refine ze [0, 2, 3, 4, 5, 6] ?_
 refine aK ?_
 refine bJ (fun n s => ∃ v109 v110 v111 v112, jW v89 j102 v67 v77 v83 v95 v101 v70 n v109 v110 v111 v112 = some r ∧ s = mk [H7, M5, L6, C6 4 v67, C0 5 3 0, C6 6 v109] [A2 v110 v111, H0 1 31 4, H0 2 31 5, (3, .blk 63 [I v77, Sx v83, I v89, I v95, Sx v101, .app 6 (List.map bZ v112)]), (4, .vec 63 6 (List.map bF ([] : List bY))), (5, I6 v70), B7 6 81 4 v112] 7) n _ (eA.trans (lX (n := 3) (T0 := 63) (l := [I v77, Sx v83, I v89, I v95, Sx v101, cQ]) (G2 := [E0 y103.2, H0 1 31 4, H0 2 31 5, (3, .blk 63 [I v77, Sx v83, I v89, I v95, Sx v101, .app 9 (List.map bZ ([] : List bM))]), (4, .vec 63 6 (List.map bF ([] : List bY))), (5, I6 v70), (9, .tok 81 4 (List.length ([] : List bM)))]) (lim2 := 10) 5 81 4 (by kernel_rfl) (by kernel_rfl) (by kernel_rfl) (by kernel_rfl)) (zv [(0, 0), (1, 1), (2, 2), (3, 3), (4, 4), (5, 5), (9, 6)] [0, 2, 3, 4, 5, 6] 7)) ⟨_, _, _, _, h, rfl⟩ (fun s ⟨v109, v110, v111, v112, h, _⟩ => nomatch h) ?_
 rintro n s ⟨v109, v110, v111, v112, h, rfl⟩
 rw [jW] at h
 refine aO ?_
 refine za [0, 2, 3, 4, 5, 6, 47] ?_
 refine zi h (fun h => ?_) fun h => ?_
 refine aC ?_
 refine aO ?_
 refine aK ?_
 refine Uo [[], [0], [], [], [3], [2, 4, 3], [5, 2, 4, 3], [1, 6, 5, 0, 2, 4, 3], [0, 1, 2, 3, 4, 5, 6, 7], [8, 7, 0, 1, 2, 3, 4, 5, 6]] fun _ => ?_
 refine zk 5 ?_
 obtain ⟨y113, he, h⟩ := aB h
 refine zo [(0, 0)] fok33 (Mk n _ _ y113 he) ?_
 clear he
 refine zk 1 ?_
 obtain ⟨l114, he, h⟩ := aB h
 refine cH (enc := bZ) (l := v112) (els := [y113.1]) (r := l114) (old := some 6) (e := 81) (sz := 4) (bytes := 40) (k := (H4 v112)) (nm := 16) he (by kernel_rfl) (by kernel_rfl) (fun x => by kernel_rfl) (by kernel_rfl) (by kernel_rfl) rfl rfl rfl ?_
 clear he
 refine zk 2 ?_
 refine cF ?_
 refine bB ?_
 refine zb ?_
 exact eZ (zv [(0, 0), (1, 1), (2, 2), (3, 3), (4, 4), (5, 5), (16, 6)] [0, 2, 3, 4, 5, 6] 7) (⟨_, _, _, _, h, rfl⟩)
 exact aL (zv [(0, 0), (1, 1), (2, 2), (3, 3), (4, 4), (5, 5), (6, 6)] [0, 2, 3, 4, 5] 7) (bK (hj102 _ _ _ h))
 refine zx fun _ => ?_
 refine zk 1 ?_
 obtain ⟨y97, he, h⟩ := aB h
 refine zo [(0, 0)] cS (bG n _ _ y97 he) ?_
 clear he
 refine zk 1 ?_
 refine ze [0, 2, 3, 4, 5, 40] ?_
 refine zi h (fun h => ?_) fun h => ?_
 refine bB ?_
 refine zy fun _ => ?_
 refine zk 1 ?_
 obtain ⟨y98, he, h⟩ := aB h
 refine zo [(0, 0)] Yd (vN n _ y98 he) ?_
 clear he
 refine zk 2 ?_
 refine cF ?_
 exact eZ (zv [(0, 0), (1, 1), (2, 2), (3, 3), (4, 4), (5, 5)] [0, 2, 3, 4, 5] 6) (hj96 _ _ _ h)
 exact aL (zv [(0, 0), (1, 1), (2, 2), (3, 3), (4, 4), (5, 5)] [0, 2, 3, 4, 5] 6) (aC (hj96 _ _ _ h))
 refine zx fun _ => ?_
 refine zk 1 ?_
 obtain ⟨y91, he, h⟩ := aB h
 refine zo [(0, 0)] cS (bG n _ _ y91 he) ?_
 clear he
 refine zk 1 ?_
 refine ze [0, 2, 3, 4, 5, 34] ?_
 refine zi h (fun h => ?_) fun h => ?_
 refine bB ?_
 refine zy fun _ => ?_
 refine zk 1 ?_
 obtain ⟨y92, he, h⟩ := aB h
 refine zo [(0, 0)] cS (bG n _ _ y92 he) ?_
 clear he
 refine zk 2 ?_
 refine cF ?_
 exact eZ (zv [(0, 0), (1, 1), (2, 2), (3, 3), (4, 4), (5, 5)] [0, 2, 3, 4, 5] 6) (hj90 _ _ _ h)
 exact aL (zv [(0, 0), (1, 1), (2, 2), (3, 3), (4, 4), (5, 5)] [0, 2, 3, 4, 5] 6) (aC (hj90 _ _ _ h))
 refine zx fun _ => ?_
 refine zk 1 ?_
 obtain ⟨y85, he, h⟩ := aB h
 refine zo [(0, 0)] cS (bG n _ _ y85 he) ?_
 clear he
 refine zk 1 ?_
 refine ze [0, 2, 3, 4, 5, 28] ?_
 refine zi h (fun h => ?_) fun h => ?_
 refine bB ?_
 refine zy fun _ => ?_
 refine zk 1 ?_
 obtain ⟨y86, he, h⟩ := aB h
 refine zo [(0, 0)] cS (bG n _ _ y86 he) ?_
 clear he
 refine zk 2 ?_
 refine cF ?_
 exact eZ (zv [(0, 0), (1, 1), (2, 2), (3, 3), (4, 4), (5, 5)] [0, 2, 3, 4, 5] 6) (hj84 _ _ _ h)
 exact aL (zv [(0, 0), (1, 1), (2, 2), (3, 3), (4, 4), (5, 5)] [0, 2, 3, 4, 5] 6) (aC (hj84 _ _ _ h))
 refine zx fun _ => ?_
 refine zk 1 ?_
 obtain ⟨y79, he, h⟩ := aB h
 refine zo [(0, 0)] cS (bG n _ _ y79 he) ?_
 clear he
 refine zk 1 ?_
 refine ze [0, 2, 3, 4, 5, 22] ?_
 refine zi h (fun h => ?_) fun h => ?_
 refine bB ?_
 refine zy fun _ => ?_
 refine zk 1 ?_
 obtain ⟨y80, he, h⟩ := aB h
 refine zo [(0, 0)] Yd (vN n _ y80 he) ?_
 clear he
 refine zk 2 ?_
 refine cF ?_
 exact eZ (zv [(0, 0), (1, 1), (2, 2), (3, 3), (4, 4), (5, 5)] [0, 2, 3, 4, 5] 6) (hj78 _ _ _ h)
 exact aL (zv [(0, 0), (1, 1), (2, 2), (3, 3), (4, 4), (5, 5)] [0, 2, 3, 4, 5] 6) (aC (hj78 _ _ _ h))
 refine zx fun _ => ?_
 refine zk 1 ?_
 obtain ⟨y73, he, h⟩ := aB h
 refine zo [(0, 0)] cS (bG n _ _ y73 he) ?_
 clear he
 refine zk 1 ?_
 refine ze [0, 2, 3, 4, 5, 16] ?_
 refine zi h (fun h => ?_) fun h => ?_
 refine bB ?_
 refine zy fun _ => ?_
 refine zk 1 ?_
 obtain ⟨y74, he, h⟩ := aB h
 refine zo [(0, 0)] cS (bG n _ _ y74 he) ?_
 clear he
 refine zk 2 ?_
 refine cF ?_
 exact eZ (zv [(0, 0), (1, 1), (2, 2), (8, 3), (3, 4), (4, 5)] [0, 2, 3, 4, 5] 6) (hj72 _ _ _ h)
 exact aL (zv [(0, 0), (1, 1), (2, 2), (8, 3), (3, 4), (4, 5)] [0, 2, 3, 4, 5] 6) (aC (hj72 _ _ _ h))
 exact aL (zv [(0, 0), (1, 1), (2, 2), (3, 3), (4, 4)] [2, 3] 5) (bK (hj1 _ _ _ h))
def lU (j1 : List dM → List Int → Int → Option (bS × aN)) : Nat → Int → List Int → Int → List dM → Option (bS × aN)
 | 0, _, _, _, _ => none
 | n + 1, v12, v13, v14, v15 => (cN n (aN.mk v13 v14) 4).bind fun (y16 : (Int × aN)) => (if (decide (v12 < y16.1)) = true then (idx [(⟨#[105, 110, 107]⟩ : ByteArray), (⟨#[112, 97, 112, 101, 114]⟩ : ByteArray), (⟨#[115, 112, 97, 99, 101]⟩ : ByteArray)] v12).bind fun (e17 : ByteArray) => (cN n y16.2 200).bind fun (y18 : (Int × aN)) => (cN n y18.2 40).bind fun (y19 : (Int × aN)) => (cN n y19.2 16777216).bind fun (y20 : (Int × aN)) => (cN n y20.2 5).bind fun (y21 : (Int × aN)) => (pD 48 v15 [(dM.mk e17 y18.1 (IntKind.wrap .i64 (y19.1 - 1)) y20.1 y21.1)]).bind fun (l22 : List dM) => lU j1 n (IntKind.wrap .i64 (v12 + 1)) y21.2.L y21.2.At l22 else j1 v15 y16.2.L y16.2.At)
def sA  (n : Nat) (p0 : aN) : Option (bS × aN) := (aS (fun (v30 : List dM) (v31 : List Int) (v32 : Int) => some ((bS.mk v30), (aN.mk v31 v32))) (fun (j1 : List dM → List Int → Int → Option (bS × aN)) => lU j1 n 0 p0.L p0.At ([] : List dM)))
theorem Kc  (n : Nat) (p0 : aN) (r : (bS × aN)) (h : sA n p0 = some r) : dI E 12 1 [A1 0 0] [E0 p0] (.agg [E4 r.1.Tokens]) [E0 r.2] := by
 refine gT Tryz.func12 rfl ?_
 unfold sA at h
 refine za [0, 2] ?_
 refine za [0, 2, 3] ?_
 refine za [0, 2, 3, 4] ?_
 refine aX h (fun A j => ∀ v30 v31 v32, j v30 v31 v32 = some r → A (mk [M5, L6] [A2 v31 v32, (1, .blk 35 [cQ]), (2, .blk 35 [.app 3 (List.map bQ v30)]), B7 3 85 5 v30] 4)) (fun v30 v31 v32 h => ?_) (fun j1 Aj1 hj1 h => ?_)
 refine za [2] ?_
 cases h
 exact aI zr
 refine za [0, 2, 3, 4, 5] ?_
 refine aK ?_
 refine bJ (fun n s => ∃ v12 v13 v14 v15, lU j1 n v12 v13 v14 v15 = some r ∧ s = mk [H7, M5, L6, (4, .c (.app 3 (List.map eS [(⟨#[105, 110, 107]⟩ : ByteArray), (⟨#[112, 97, 112, 101, 114]⟩ : ByteArray), (⟨#[115, 112, 97, 99, 101]⟩ : ByteArray)]))), C6 5 v12] [A2 v13 v14, (1, .blk 35 [cQ]), (2, .blk 35 [.app 4 (List.map bQ v15)]), (3, .tok 9 1 (List.length [(⟨#[105, 110, 107]⟩ : ByteArray), (⟨#[112, 97, 112, 101, 114]⟩ : ByteArray), (⟨#[115, 112, 97, 99, 101]⟩ : ByteArray)])), B7 4 85 5 v15] 5) n _ (eA.trans (lX (n := 2) (T0 := 35) (l := [cQ]) (G2 := [E0 p0, (1, .blk 35 [cQ]), (2, .blk 35 [.app 6 (List.map bQ ([] : List dM))]), (3, .tok 9 1 (List.length [(⟨#[105, 110, 107]⟩ : ByteArray), (⟨#[112, 97, 112, 101, 114]⟩ : ByteArray), (⟨#[115, 112, 97, 99, 101]⟩ : ByteArray)])), (6, .tok 85 5 (List.length ([] : List dM)))]) (lim2 := 7) 0 85 5 (by kernel_rfl) (by kernel_rfl) (by kernel_rfl) (by kernel_rfl)) (zv [(0, 0), (1, 1), (2, 2), (3, 3), (6, 4)] [0, 2, 3, 4, 5] 5)) ⟨_, _, _, _, h, rfl⟩ (fun s ⟨v12, v13, v14, v15, h, _⟩ => nomatch h) ?_
 rintro n s ⟨v12, v13, v14, v15, h, rfl⟩
 rw [lU] at h
 refine aO ?_
 refine zx fun _ => ?_
 refine zk 2 ?_
 obtain ⟨y16, he, h⟩ := aB h
 refine zo [(0, 0)] cS (bG n _ _ y16 he) ?_
 clear he
 refine zk 1 ?_
 refine ze [0, 2, 3, 4, 5, 10] ?_
 refine zi h (fun h => ?_) fun h => ?_
 refine aC ?_
 refine aO ?_
 refine aK ?_
 refine Uo [[], [0], [], [], [2, 3], [4, 2, 3], [], [6], [], [8, 7, 6], [9, 8, 7, 6], [], [11, 9, 8, 7, 6], [], [13, 12, 11, 9, 8, 7, 6], [5, 7, 10, 12, 14, 4, 2, 3, 6, 9, 8, 11, 13], [15, 5, 7, 10, 12, 14, 4, 2, 3, 6, 9, 8, 11, 13], [1, 16, 14, 0, 15, 5, 7, 10, 12, 4, 2, 3, 6, 9, 8, 11, 13], [0, 1, 2, 3, 4, 5, 6, 7, 8, 9, 10, 11, 12, 13, 14, 15, 16, 17], [18, 17, 0, 1, 2, 3, 4, 5, 6, 7, 8, 9, 10, 11, 12, 13, 14, 15, 16]] fun _ => ?_
 refine zk 4 ?_
 obtain ⟨e17, he, h⟩ := aB h
 refine zd eS he ?_
 clear he
 refine zk 2 ?_
 obtain ⟨y18, he, h⟩ := aB h
 refine zo [(0, 0)] cS (bG n _ _ y18 he) ?_
 clear he
 refine zk 1 ?_
 obtain ⟨y19, he, h⟩ := aB h
 refine zo [(0, 0)] cS (bG n _ _ y19 he) ?_
 clear he
 refine zk 2 ?_
 obtain ⟨y20, he, h⟩ := aB h
 refine zo [(0, 0)] cS (bG n _ _ y20 he) ?_
 clear he
 refine zk 1 ?_
 obtain ⟨y21, he, h⟩ := aB h
 refine zo [(0, 0)] cS (bG n _ _ y21 he) ?_
 clear he
 refine zk 2 ?_
 obtain ⟨l22, he, h⟩ := aB h
 refine cH (enc := bQ) (l := v15) (els := [dM.mk e17 y18.1 (F6 y19.1) y20.1 y21.1]) (r := l22) (old := some 4) (e := 85) (sz := 5) (bytes := 48) (k := (H4 v15)) (nm := 26) he (by kernel_rfl) (by kernel_rfl) (fun x => by kernel_rfl) (by kernel_rfl) (by kernel_rfl) rfl rfl rfl ?_
 clear he
 refine zk 2 ?_
 refine cF ?_
 refine bB ?_
 refine zb ?_
 exact eZ (zv [(0, 0), (1, 1), (2, 2), (3, 3), (26, 4)] [0, 2, 3, 4, 5] 5) (⟨_, _, _, _, h, rfl⟩)
 exact aL (zv [(0, 0), (1, 1), (2, 2), (4, 3)] [2, 3] 4) (bK (hj1 _ _ _ h))
def vZ  (n : Nat) (p0 : aN) : Option (cY × aN) := (cN n p0 2).bind fun (y1 : (Int × aN)) => (cN n y1.2 2).bind fun (y2 : (Int × aN)) => (cN n y2.2 5).bind fun (y3 : (Int × aN)) => (idx [100, 100, 50, 150, 400] y3.1).bind fun (e4 : Int) => some ((cY.mk (y1.1 == 1) (y2.1 == 1) e4), y3.2)
theorem Nm  (n : Nat) (p0 : aN) (r : (cY × aN)) (h : vZ n p0 = some r) : dI E 13 1 [A1 0 0] [E0 p0] (H6 r.1) [E0 r.2] := by
 refine gT Tryz.func13 rfl ?_
 unfold vZ at h
 refine za [0, 2] ?_
 refine zx fun _ => ?_
 refine zk 1 ?_
 obtain ⟨y1, he, h⟩ := aB h
 refine zo [(0, 0)] cS (bG n _ _ y1 he) ?_
 clear he
 refine zk 2 ?_
 obtain ⟨y2, he, h⟩ := aB h
 refine zo [(0, 0)] cS (bG n _ _ y2 he) ?_
 clear he
 refine zk 3 ?_
 obtain ⟨y3, he, h⟩ := aB h
 refine zo [(0, 0)] cS (bG n _ _ y3 he) ?_
 clear he
 obtain ⟨e4, he, h⟩ := aB h
 refine zd aH he ?_
 clear he
 refine zk 3 ?_
 refine ze [2] ?_
 cases h
 exact aI zr
def jJ (p1 : bA) (j1 : List aR → List Int → Int → Option ((List aR) × aN)) : Nat → List aR → Int → List Int → Int → Option ((List aR) × aN)
 | 0, _, _, _, _ => none
 | n + 1, v10, v11, v12, v13 => (if (decide (v11 < (List.length p1.Nodes : Int))) = true then (aS (fun (v19 : List aR) (v20 : List Int) (v21 : Int) => jJ p1 j1 n v19 (IntKind.wrap .i64 (v11 + 1)) v20 v21) (fun (j14 : List aR → List Int → Int → Option ((List aR) × aN)) => (cN n (aN.mk v12 v13) 4).bind fun (y15 : (Int × aN)) => (if (y15.1 == 0) = true then (idx p1.Nodes v11).bind fun (e16 : aP) => (cN n y15.2 32).bind fun (y17 : (Int × aN)) => (pD 16 v10 [(aR.mk e16.ID y17.1)]).bind fun (l18 : List aR) => j14 l18 y17.2.L y17.2.At else j14 v10 y15.2.L y15.2.At))) else j1 v10 v12 v13)
def qM  (n : Nat) (p0 : aN) (p1 : bA) : Option ((List aR) × aN) := (aS (fun (v26 : List aR) (v27 : List Int) (v28 : Int) => some (v26, (aN.mk v27 v28))) (fun (j1 : List aR → List Int → Int → Option ((List aR) × aN)) => jJ p1 j1 n ([] : List aR) 0 p0.L p0.At))
theorem Hm  (n : Nat) (p0 : aN) (p1 : bA) (r : ((List aR) × aN)) (h : qM n p0 p1 = some r) : dI E 14 1 [A1 0 0, C8 p1] [E0 p0] (F0 r.1) [E0 r.2] := by
 refine gT Tryz.func14 rfl ?_
 unfold qM at h
 refine za [0, 3] ?_
 refine za [0, 3, 5] ?_
 refine aX h (fun A j => ∀ v26 v27 v28, j v26 v27 v28 = some r → A (mk [(5, .c (.app 1 (List.map bL v26)))] [A2 v27 v28, B7 1 67 2 v26] 2)) (fun v26 v27 v28 h => ?_) (fun j1 Aj1 hj1 h => ?_)
 refine za [4] ?_
 cases h
 exact aI zr
 refine za [0, 3, 5, 6] ?_
 refine aK ?_
 refine bJ (fun n s => ∃ v10 v11 v12 v13, jJ p1 j1 n v10 v11 v12 v13 = some r ∧ s = mk [H7, M9, (5, .c (.app 2 (List.map bL v10))), C6 6 v11] [A2 v12 v13, L4 1 p1, B7 2 67 2 v10] 3) n _ (eA.trans (nC (L2 := [H7, M9, (5, .c (.app 5 (List.map bL ([] : List aR)))), I9 6]) (G2 := [E0 p0, L4 1 p1, (5, .tok 67 2 (List.length ([] : List aR)))]) (lim2 := 6) 5 67 2 (by kernel_rfl) (by kernel_rfl) (by kernel_rfl) (by kernel_rfl)) (zv [(0, 0), (1, 1), (5, 2)] [0, 3, 5, 6] 3)) ⟨_, _, _, _, h, rfl⟩ (fun s ⟨v10, v11, v12, v13, h, _⟩ => nomatch h) ?_
 rintro n s ⟨v10, v11, v12, v13, h, rfl⟩
 rw [jJ] at h
 refine aO ?_
 refine zx fun _ => ?_
 refine zk 3 ?_
 refine zl aE p1.Nodes ?_
 refine zk 1 ?_
 refine ze [0, 3, 5, 6, 11] ?_
 refine zi h (fun h => ?_) fun h => ?_
 refine aC ?_
 refine aX h (fun A j => ∀ v19 v20 v21, j v19 v20 v21 = some r → A (mk [H7, M9, (5, .c (.app 2 (List.map bL v19))), C6 6 v11] [A2 v20 v21, L4 1 p1, B7 2 67 2 v19] 3)) (fun v19 v20 v21 h => ?_) (fun j14 Aj14 hj14 h => ?_)
 refine bB ?_
 refine zb ?_
 exact eZ (zv [(0, 0), (1, 1), (2, 2)] [0, 3, 5, 6] 3) (⟨_, _, _, _, h, rfl⟩)
 refine aK ?_
 refine zx fun _ => ?_
 refine zk 1 ?_
 obtain ⟨y15, he, h⟩ := aB h
 refine zo [(0, 0)] cS (bG n _ _ y15 he) ?_
 clear he
 refine zk 1 ?_
 refine ze [0, 3, 5, 6, 16] ?_
 refine zi h (fun h => ?_) fun h => ?_
 refine bB ?_
 refine Uo [[], [], [1], [], [2, 3, 1], [4, 2, 3, 1], [5, 4, 2, 3, 1], [], [7], [6, 8, 5, 4, 2, 3, 1, 7], [9, 6, 8, 5, 4, 2, 3, 1, 7], [0, 10, 8, 9, 6, 5, 4, 2, 3, 1, 7], [11, 0, 1, 2, 3, 4, 5, 6, 7, 8, 9, 10]] fun _ => ?_
 refine zk 4 ?_
 obtain ⟨e16, he, h⟩ := aB h
 refine zd aE he ?_
 clear he
 refine zk 3 ?_
 obtain ⟨y17, he, h⟩ := aB h
 refine zo [(0, 0)] cS (bG n _ _ y17 he) ?_
 clear he
 refine zk 2 ?_
 obtain ⟨l18, he, h⟩ := aB h
 refine cH (enc := bL) (l := v10) (els := [aR.mk e16.ID y17.1]) (r := l18) (old := some 2) (e := 67) (sz := 2) (bytes := 16) (k := (H4 v10)) (nm := 22) he (by kernel_rfl) (by kernel_rfl) (fun x => by kernel_rfl) (by kernel_rfl) (by kernel_rfl) rfl rfl rfl ?_
 clear he
 refine zk 1 ?_
 refine cF ?_
 exact eZ (zv [(0, 0), (1, 1), (22, 2)] [0, 3, 5, 6] 3) (hj14 _ _ _ h)
 exact aL (zv [(0, 0), (1, 1), (2, 2)] [0, 3, 5, 6] 3) (aC (hj14 _ _ _ h))
 exact aL (zv [(0, 0), (2, 1)] [5] 2) (bK (hj1 _ _ _ h))
def eT (p0 : ByteArray) (j1 : Unit → Option Bool) : Nat → Int → Option Bool
 | 0, _ => none
 | n + 1, v3 => (if (decide (v3 < (ByteArray.size p0 : Int))) = true then (xW p0 v3).bind fun (u4 : Int) => (if ((!(((decide (u4 ≥ 97)) && (decide (u4 ≤ 122))) || ((decide (u4 ≥ 65)) && (decide (u4 ≤ 90))))) && ((v3 == 0) || ((((decide (u4 < 48)) || (decide (u4 > 57))) && (u4 != 45)) && (u4 != 95)))) = true then some false else eT p0 j1 n (IntKind.wrap .i64 (v3 + 1))) else j1 ())
def eH  (n : Nat) (p0 : ByteArray) : Option Bool := (if (((ByteArray.size p0 : Int) == 0) || (decide ((ByteArray.size p0 : Int) > 24))) = true then some false else (aS (fun (_ : Unit) => some true) (fun (j1 : Unit → Option Bool) => eT p0 j1 n 0)))
theorem kD  (n : Nat) (p0 : ByteArray) (r : Bool) (h : eH n p0 = some r) : dI E 66 0 [F1 p0] [] (B2 r) [] := by
 refine gT Tryz.func66 rfl ?_
 unfold eH at h
 refine za [0] ?_
 refine aO ?_
 refine zx fun _ => ?_
 refine zk 4 ?_
 refine zE (F1 p0) ?_
 refine zE (.c (I (ByteArray.size p0 : Int))) ?_
 refine zE (.c (Bo (decide ((ByteArray.size p0 : Int) > 24)))) ?_
 refine zP (.bool (((ByteArray.size p0 : Int) == 0) || (decide ((ByteArray.size p0 : Int) > 24)))) ?_
 refine ze [0, 13] ?_
 refine zi h (fun h => ?_) fun h => ?_
 refine za [2] ?_
 cases h
 exact aI zr
 refine aC ?_
 refine aX h (fun A j => ∀ u, j u = some r → A (mk [] [] 0)) (fun u h => ?_) (fun j1 Aj1 hj1 h => ?_)
 refine za [2] ?_
 cases h
 exact aI zr
 refine za [0, 15, 16] ?_
 refine aK ?_
 refine bJ (fun n s => ∃ v3, eT p0 j1 n v3 = some r ∧ s = mk [(0, F1 p0), (15, .c (I (ByteArray.size p0 : Int))), C6 16 v3] [] 0) n _ (zv [] [0, 15, 16] 0) ⟨_, h, rfl⟩ (fun s ⟨v3, h, _⟩ => nomatch h) ?_
 rintro n s ⟨v3, h, rfl⟩
 rw [eT] at h
 refine za [0, 15, 16, 17] ?_
 refine aO ?_
 refine zi h (fun h => ?_) fun h => ?_
 refine aC ?_
 refine aO ?_
 refine aK ?_
 refine za [0, 3, 15, 16] ?_
 refine zx fun _ => ?_
 refine zk 2 ?_
 obtain ⟨u4, he, h⟩ := aB h
 refine zs he ?_
 clear he
 refine zk 1 ?_
 refine ze [0, 3, 4, 15, 16] ?_
 refine zx fun _ => ?_
 refine zk 3 ?_
 refine zE (I5 u4) ?_
 refine zE (B2 (I7 u4 122)) ?_
 refine zP (.bool (D7 u4 97 122)) ?_
 refine zk 1 ?_
 refine zE (I5 u4) ?_
 refine zE (B2 (I8 u4 65)) ?_
 refine zF [!(D7 u4 97 122)] (B2 (I8 u4 65)) ?_
 refine zE (I5 u4) ?_
 refine zE (B2 (I7 u4 90)) ?_
 refine zP (.bool (D7 u4 65 90)) ?_
 refine zP (.bool ((D7 u4 97 122) || (D7 u4 65 90))) ?_
 refine zk 1 ?_
 refine mC [0, 3, 4, 5, 15, 16] (L2 := [(0, F1 p0), (15, .c (I (ByteArray.size p0 : Int))), C6 16 v3, C6 3 v3, (4, I5 u4), (5, B2 ((D7 u4 97 122) || (D7 u4 65 90)))]) (G2 := []) 22 ?_
 refine zx fun _ => ?_
 refine zk 3 ?_
 refine zE (A6 v3) ?_
 refine zE (B2 (v3 == 0)) ?_
 refine zF [!((D7 u4 97 122) || (D7 u4 65 90))] (B2 (v3 == 0)) ?_
 refine zE (I5 u4) ?_
 refine zE (J5 u4 48) ?_
 refine zF [!((D7 u4 97 122) || (D7 u4 65 90)), !(v3 == 0)] (J5 u4 48) ?_
 refine zE (I5 u4) ?_
 refine zE (L3 u4 57) ?_
 refine zP (.bool (L7 u4)) ?_
 refine zF [!((D7 u4 97 122) || (D7 u4 65 90)), !(v3 == 0)] (B2 (L7 u4)) ?_
 refine zE (I5 u4) ?_
 refine zE (B2 (u4 != 45)) ?_
 refine zP (.bool ((L7 u4) && (u4 != 45))) ?_
 refine zF [!((D7 u4 97 122) || (D7 u4 65 90)), !(v3 == 0)] (B2 ((L7 u4) && (u4 != 45))) ?_
 refine zE (I5 u4) ?_
 refine zE (B2 (u4 != 95)) ?_
 refine zP (.bool (((L7 u4) && (u4 != 45)) && (u4 != 95))) ?_
 refine zP (.bool ((v3 == 0) || (((L7 u4) && (u4 != 45)) && (u4 != 95)))) ?_
 refine zP (.bool ((!((D7 u4 97 122) || (D7 u4 65 90))) && ((v3 == 0) || (((L7 u4) && (u4 != 45)) && (u4 != 95))))) ?_
 refine mC [0, 15, 16, 57] (L2 := [(0, F1 p0), (15, .c (I (ByteArray.size p0 : Int))), C6 16 v3, (57, B2 ((!((D7 u4 97 122) || (D7 u4 65 90))) && ((v3 == 0) || (((L7 u4) && (u4 != 45)) && (u4 != 95)))))]) (G2 := []) 44 ?_
 refine zi h (fun h => ?_) fun h => ?_
 refine za [2] ?_
 cases h
 exact aI zr
 refine aC ?_
 refine bB ?_
 refine zb ?_
 exact eZ (zv [] [0, 15, 16] 0) (⟨_, h, rfl⟩)
 exact aL (zv [] [] 0) (bK (hj1 _ h))
def gX  (n : Nat) (p0 : Int) : Option Bool := some ((decide (p0 ≥ 0)) && (decide (p0 < 22)))
theorem pG  (n : Nat) (p0 : Int) (r : Bool) (h : gX n p0 = some r) : dI E 50 0 [A6 p0] [] (B2 r) [] := by
 refine gT Tryz.func50 rfl ?_
 unfold gX at h
 refine za [0] ?_
 refine zx fun _ => ?_
 refine zk 3 ?_
 refine zE (A6 p0) ?_
 refine zE (J5 p0 22) ?_
 refine zP (.bool ((I8 p0 0) && (D9 p0 22))) ?_
 refine zk 1 ?_
 refine ze [2] ?_
 cases h
 exact aI zr
end Go.Proofs.YtojkihhnioeggaaGreatDoor.S
