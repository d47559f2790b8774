import Derived.Test.YtojkihhnioeggaaGreatDoorQCGM2
set_option linter.unusedVariables false
set_option linter.unusedSimpArgs false
set_option maxRecDepth 100000
set_option maxHeartbeats 4000000
namespace Go.Proofs.YtojkihhnioeggaaGreatDoor.S
open Go Go.Bm
def iL (p0 : aL) (self_ref14_build : aL → Int → bB → Option bB) (p2 : bB) (j2 : List Int → Int → Int → List aR → Option bB) : Nat → List Int → Int → Int → Int → List aR → Option bB
 | 0, _, _, _, _, _ => none
 | n + 1, v6, v7, v8, v9, v10 => (if (decide (v7 < (List.length p0.Kids : Int))) = true then (pV 8 v6 [v9]).bind fun (l11 : List Int) => (idx p0.Kids v7).bind fun (e12 : aL) => (self_ref14_build e12 p2.Next (bB.mk v8 v9 v10)).bind fun (y13 : bB) => iL p0 self_ref14_build p2 j2 n l11 (IntKind.wrap .i64 (v7 + 1)) y13.Root y13.Next y13.Nodes else j2 v6 v8 v9 v10)
def mF (self_ref14_build : aL → Int → bB → Option bB) (n : Nat) (p0 : aL) (p1 : Int) (p2 : bB) : Option bB := (pV 112 p2.Nodes [(aR.mk p2.Next p1 p0.Kind p0.Key p0.Attrs p0.Actions ([] : List Int))]).bind fun (l1 : List aR) => (aS (fun (v19 : List Int) (v20 : Int) (v21 : Int) (v22 : List aR) => (uU (List.length p2.Nodes : Int) (List.length v22)).bind fun (k23 : Nat) => (v22[k23]?).bind fun (e24 : aR) => some (bB.mk v20 v21 (List.set v22 k23 (aR.mk e24.ID e24.Parent e24.Kind e24.Key e24.Attrs e24.Actions v19)))) (fun (j2 : List Int → Int → Int → List aR → Option bB) => iL p0 self_ref14_build p2 j2 n ([] : List Int) 0 p2.Root (IntKind.wrap .i64 (p2.Next + 1)) l1))
theorem xF (self_ref14_build : aL → Int → bB → Option bB) (ih_ref14_build : ∀ (p0 : aL) (p1 : Int) (p2 : bB) (r : bB), self_ref14_build p0 p1 p2 = some r → cW E 60 1 [B2 p0, B7 p1, .agg [I p2.Root, I p2.Next, .row 0]] [(0, H6 p2.Nodes)] (.agg [I r.Root, I r.Next, .row 1]) [(1, H6 r.Nodes)]) (n : Nat) (p0 : aL) (p1 : Int) (p2 : bB) (r : bB) (h : mF self_ref14_build n p0 p1 p2 = some r) : cW E 60 1 [B2 p0, B7 p1, .agg [I p2.Root, I p2.Next, .row 0]] [(0, H6 p2.Nodes)] (.agg [I r.Root, I r.Next, .row 1]) [(1, H6 r.Nodes)] := by
 refine eV Tryz.func60 rfl ?_
 unfold mF at h
 refine za [1, 3, 5, 6] ?_
 refine za [1, 3, 5, 6, 7] ?_
 refine zx fun _ => ?_
 refine zk 2 ?_
 refine cZ (v := .c (I (List.length p2.Nodes : Int))) (foot := [0]) (Kp (enc := aE) (l := p2.Nodes) (n := 0) (by kernel_rfl)) (by kernel_rfl) rfl rfl ?_
 refine zk 1 ?_
 refine ze [1, 3, 5, 6, 7, 8] ?_
 refine zx fun _ => ?_
 refine zk 14 ?_
 obtain ⟨l1, he, h⟩ := aC h
 refine uH (enc := aE) (l := p2.Nodes) (els := [(aR.mk p2.Next p1 p0.Kind p0.Key p0.Attrs p0.Actions ([] : List Int))]) (r := l1) (m := 0) (e := 58) (sz := 7) (bytes := 112) (nm := 25) he (by kernel_rfl) (fun x => by kernel_rfl) (by kernel_rfl) (by kernel_rfl) rfl rfl rfl ?_
 clear he
 refine zk 2 ?_
 refine ze [3, 5, 6, 7, 8] ?_
 refine za [3, 5, 6, 7, 8] ?_
 refine za [3, 5, 6, 7, 8, 9] ?_
 refine aQ h (fun A j => ∀ v19 v20 v21 v22, j v19 v20 v21 v22 = some r → A (mk [O3, O9, (8, .c (I (List.length p2.Nodes : Int))), (9, .c (.app 3 (List.map aN v19)))] [(1, .blk 27 [I v20, I v21, .row 4]), (2, .blk 27 [I 0, I 0, cE]), C4 3 3 1 v19, (4, H6 v22)] 5)) (fun v19 v20 v21 v22 h => ?_) (fun j2 Aj2 hj2 h => ?_)
 refine zx fun _ => ?_
 refine zk 4 ?_
 obtain ⟨k23, he, h⟩ := aC h
 refine cZ (v := .c (.ptr 4 (k23 * 7))) (foot := [4]) (rO (enc := aE) (l := v22) (n := 4) (sz := 7) (k := k23) (ix := (List.length p2.Nodes : Int)) he (by kernel_rfl)) (by kernel_rfl) rfl rfl ?_
 have hb_k23 := mR he; clear he
 refine zk 1 ?_
 obtain ⟨e24, he, h⟩ := aC h
 refine wS (enc := aE) (n := 4) (q := k23) (f := 6) (sz := 7) (T0 := 58) (lp := [D4 v19]) (l := v22) (e := e24) (e2 := (aR.mk e24.ID e24.Parent e24.Kind e24.Key e24.Attrs e24.Actions v19)) he (by kernel_rfl) (by simp only [List.length_cons, List.length_nil]; omega) (by kernel_rfl) (by kernel_rfl) rfl rfl ?_
 clear he
 refine ze [5, 6] ?_
 refine za [6] ?_
 have h := Option.some.inj h
 subst h
 refine aH (uY rfl [(4, 1), (2, 2)] [6] (L2 := [O9]) (G2 := [(1, H6 (List.set v22 k23 (aR.mk e24.ID e24.Parent e24.Kind e24.Key e24.Attrs e24.Actions v19))), (2, .blk 27 [I v20, I v21, .row 1])]) (lim2 := 3) (by kernel_rfl)) ?_
 exact aD (Kn (.inl rfl) (by kernel_rfl) (by kernel_rfl))
 refine za [3, 5, 6, 7, 8, 9, 10] ?_
 refine aG ?_
 refine bA (fun n s => ∃ v6 v7 v8 v9 v10, iL p0 self_ref14_build p2 j2 n v6 v7 v8 v9 v10 = some r ∧ s = mk [N5, A1 5 2 0, A1 6 3 0, A6 7 p2.Next, (8, .c (I (List.length p2.Nodes : Int))), (9, .c (.app 4 (List.map aN v6))), A6 10 v7] [(1, B0 p0), (2, .blk 27 [I v8, I v9, .row 5]), (3, .blk 27 [I 0, I 0, cE]), C4 4 3 1 v6, (5, H6 v10)] 6) n _ (dT.trans (mO (L2 := [N5, A1 5 2 0, A1 6 3 0, A6 7 p2.Next, (8, .c (I (List.length p2.Nodes : Int))), (9, .c (.app 35 (List.map aN ([] : List Int)))), I5 10]) (G2 := [(1, B0 p0), (2, .blk 27 [I p2.Root, I (D9 p2.Next 1), .row 25]), (3, .blk 27 [I 0, I 0, cE]), (24, .tok 58 7 (List.length [(aR.mk p2.Next p1 p0.Kind p0.Key p0.Attrs p0.Actions ([] : List Int))])), (25, H6 l1), (35, .tok 3 1 (List.length ([] : List Int)))]) (lim2 := 36) 9 3 1 (by kernel_rfl) (by kernel_rfl) (by kernel_rfl) (by kernel_rfl)) (zv [(1, 1), (2, 2), (3, 3), (35, 4), (25, 5)] [3, 5, 6, 7, 8, 9, 10] 6)) ⟨_, _, _, _, _, h, rfl⟩ (fun s ⟨v6, v7, v8, v9, v10, h, _⟩ => nomatch h) ?_
 rintro n s ⟨v6, v7, v8, v9, v10, h, rfl⟩
 rw [iL] at h
 refine aI ?_
 refine zx fun _ => ?_
 refine zk 3 ?_
 refine zl bC p0.Kids ?_
 refine zk 1 ?_
 refine ze [3, 5, 6, 7, 8, 9, 10, 40] ?_
 refine zi h (fun h => ?_) fun h => ?_
 refine aB ?_
 refine aI ?_
 refine aG ?_
 refine zx fun _ => ?_
 refine zk 4 ?_
 obtain ⟨l11, he, h⟩ := aC h
 refine cH (enc := aN) (l := v6) (els := [v9]) (r := l11) (old := some 4) (e := 3) (sz := 1) (bytes := 8) (k := (H1 v6)) (nm := 15) he (by kernel_rfl) (by kernel_rfl) (fun x => by kernel_rfl) (by kernel_rfl) (by kernel_rfl) rfl rfl rfl ?_
 clear he
 refine zk 1 ?_
 refine ze [3, 5, 6, 7, 8, 9, 10] ?_
 refine Rg [[], [0], [], [1, 2, 0], [3, 1, 2, 0], [], [], [4, 5, 6, 3, 1, 2, 0], [7, 0, 1, 2, 3, 4, 5, 6]] fun _ => ?_
 refine zk 3 ?_
 obtain ⟨e12, he, h⟩ := aC h
 refine cZ (v := .c (E9 e12)) (foot := []) (dN (enc := bC) (sz := 5) (l := p0.Kids) (ix := v7) he (by kernel_rfl) (gD e12) (by kernel_rfl)) (by kernel_rfl) rfl rfl ?_
 clear he
 refine zk 3 ?_
 obtain ⟨y13, he, h⟩ := aC h
 refine tB (F := 60) (As := [B2 e12, B7 p2.Next, .agg [I v8, I v9, .row 5]]) (Bs := [B2 e12, B7 p2.Next, .agg [I v8, I v9, .row 0]]) (σ := [(0, 5), (1, 24)]) (k := 1) (kn := 1) (nm := 24) (Gc := [(0, H6 v10)]) (Gf := [(1, H6 y13.Nodes)]) (r := .agg [I y13.Root, I y13.Next, .row 1]) (v := .agg [I y13.Root, I y13.Next, .row 24]) (by kernel_rfl) fok60 ⟨.inl (by kernel_rfl), ⟨.inl (by kernel_rfl), ⟨.inr ⟨(by kernel_rfl), (by kernel_rfl)⟩, trivial⟩⟩⟩ (ih_ref14_build _ _ _ y13 he) (by kernel_rfl) (by kernel_rfl) (by kernel_rfl) (by kernel_rfl) (by kernel_rfl) (by kernel_rfl) rfl rfl rfl ?_
 clear he
 refine zk 1 ?_
 refine bV ?_
 refine aW ?_
 refine zb ?_
 exact dF (zv [(1, 1), (2, 2), (3, 3), (15, 4), (24, 5)] [3, 5, 6, 7, 8, 9, 10] 6) (⟨_, _, _, _, _, h, rfl⟩)
 exact aH (zv [(2, 1), (3, 2), (4, 3), (5, 4)] [5, 6, 8, 9] 5) (bG (hj2 _ _ _ _ h))
def kD : Nat → aL → Int → bB → Option bB
 | 0, _, _, _ => none
 | n + 1, p0, p1, p2 => mF (fun a0 a1 a2 => kD n a0 a1 a2) n p0 p1 p2
theorem Fh (n : Nat) : (∀ (p0 : aL) (p1 : Int) (p2 : bB) (r : bB), kD n p0 p1 p2 = some r → cW E 60 1 [B2 p0, B7 p1, .agg [I p2.Root, I p2.Next, .row 0]] [(0, H6 p2.Nodes)] (.agg [I r.Root, I r.Next, .row 1]) [(1, H6 r.Nodes)]) := by
 induction n with
 | zero => intro p0 p1 p2 r h; rw [kD] at h; cases h
 | succ n ih => intro p0 p1 p2 r h; rw [kD] at h; exact xF _ ih n _ _ _ r h
def nN  (n : Nat) (p0 : aL) (p1 : Int) : Option (bB × Int) := (iR n p0).bind fun (y1 : Int) => (if (y1 != 0) = true then some ((bB.mk 0 0 ([] : List aR)), y1) else (if ((decide (p1 < 1)) || (decide (p1 > 1099511627376))) = true then some ((bB.mk 0 0 ([] : List aR)), 1) else (kD n p0 0 (bB.mk p1 p1 ([] : List aR))).bind fun (y2 : bB) => some (y2, 0)))
theorem vD  (n : Nat) (p0 : aL) (p1 : Int) (r : (bB × Int)) (h : nN n p0 p1 = some r) : cW E 28 0 [B2 p0, B7 p1] [] (.tup [C0 r.1, B7 r.2]) [] := by
 refine eV Tryz.func28 rfl ?_
 unfold nN at h
 refine za [1, 2, 4] ?_
 refine aI ?_
 refine zx fun _ => ?_
 refine zk 1 ?_
 obtain ⟨y1, he, h⟩ := aC h
 refine zc Yv (nQ n _ y1 he) ?_
 clear he
 refine zk 1 ?_
 refine ze [1, 2, 4, 6] ?_
 refine za [1, 2, 4, 6, 11] ?_
 refine zi h (fun h => ?_) fun h => ?_
 refine za [4, 5] ?_
 cases h
 exact aD zr
 refine aB ?_
 refine aI ?_
 refine zx fun _ => ?_
 refine zk 3 ?_
 refine zE (B7 p1) ?_
 refine zE (J5 p1 1099511627376) ?_
 refine zP (.bool (A3 p1 1 1099511627376)) ?_
 refine ze [1, 2, 4, 19] ?_
 refine zi h (fun h => ?_) fun h => ?_
 refine za [4, 5] ?_
 cases h
 exact aD zr
 refine aB ?_
 refine za [2, 4, 7] ?_
 refine zx fun _ => ?_
 refine zk 2 ?_
 obtain ⟨y2, he, h⟩ := aC h
 refine tB (F := 60) (As := [B2 p0, .c (I 0), .agg [I p1, I p1, cE]]) (Bs := [B2 p0, .c (I 0), .agg [I p1, I p1, cE]]) (σ := [(1, 21)]) (k := 0) (kn := 1) (nm := 21) (Gc := []) (Gf := [(1, H6 y2.Nodes)]) (r := .agg [I y2.Root, I y2.Next, .row 1]) (v := .agg [I y2.Root, I y2.Next, .row 21]) (by kernel_rfl) fok60 ⟨.inl (by kernel_rfl), ⟨.inl (by kernel_rfl), ⟨.inr ⟨(by kernel_rfl), (by kernel_rfl)⟩, trivial⟩⟩⟩ (cW.nil1 (Fh n _ _ _ y2 he) rfl rfl) (by kernel_rfl) (by kernel_rfl) (by kernel_rfl) (by kernel_rfl) (by kernel_rfl) (by kernel_rfl) rfl rfl rfl ?_
 clear he
 refine zk 2 ?_
 refine jY [4, 5] (L2 := [H8, I5 5]) (G2 := [(0, B0 p0), (1, .blk 27 [I y2.Root, I y2.Next, .row 21]), (17, .blk 27 [I p1, I p1, cE]), (21, H6 y2.Nodes)]) 24 ?_
 refine aH (sW 21 (T := 58) (sz := 7) (l := List.map aE y2.Nodes) (L2 := [H8, I5 5]) (G2 := [(0, B0 p0), I1 1 y2, (17, .blk 27 [I p1, I p1, cE])]) (by kernel_rfl) (by kernel_rfl) (by kernel_rfl)) ?_
 cases h
 exact aD zr
def vY  (n : Nat) (p0 : aO) (p1 : Int) : Option (bB × aO) := (wJ n p0 p1).bind fun (y1 : (aL × aO)) => (mM n y1.2 1 5).bind fun (y2 : (Int × aO)) => (nN n y1.1 y2.1).bind fun (y3 : (bB × Int)) => some (y3.1, y2.2)
theorem Ob  (n : Nat) (p0 : aO) (p1 : Int) (r : (bB × aO)) (h : vY n p0 p1 = some r) : cW E 10 1 [B9 0 0, B7 p1] [E4 p0] (C0 r.1) [E4 r.2] := by
 refine eV Tryz.func10 rfl ?_
 unfold vY at h
 refine za [0, 1, 4] ?_
 refine zx fun _ => ?_
 refine zk 2 ?_
 obtain ⟨y1, he, h⟩ := aC h
 refine zo [(0, 0)] fok27 (Nr n _ _ y1 he) ?_
 clear he
 refine zk 1 ?_
 obtain ⟨y2, he, h⟩ := aC h
 refine zo [(0, 0)] Ol (nU n _ _ _ y2 he) ?_
 clear he
 obtain ⟨y3, he, h⟩ := aC h
 refine zc fok28 (vD n _ _ y3 he) ?_
 clear he
 refine zk 6 ?_
 refine ze [4, 5] ?_
 refine za [4] ?_
 cases h
 exact aD zr
def dI  (n : Nat) (p0 : Int) (p1 : Int) : Option Bool := (aS (fun (v8 : Int) (v9 : Int) => some ((((decide (p0 ≥ 0)) && (decide (p0 < 22))) && (decide (p1 ≥ v8))) && (decide (p1 ≤ v9)))) (fun (j1 : Int → Int → Option Bool) => (if (p0 == 0) = true then j1 0 16777215 else (if (p0 == 1) = true then j1 (-1 : Int) 16777215 else (if (p0 == 2) = true then j1 1 1000 else (if (p0 == 3) = true then j1 0 7 else (aS (fun (v3 : Bool) => (if v3 = true then j1 0 1 else (aS (fun (v5 : Bool) => (if v5 = true then j1 0 4 else (if (p0 == 7) = true then j1 0 3 else (if (p0 == 8) = true then j1 0 2 else (aS (fun (v7 : Bool) => (if v7 = true then j1 0 1000 else (if (p0 == 12) = true then j1 (-1 : Int) 1048576 else j1 0 1048576))) (fun (j6 : Bool → Option Bool) => (if (p0 == 10) = true then j6 (p0 == 10) else j6 (p0 == 11)))))))) (fun (j4 : Bool → Option Bool) => (if (p0 == 5) = true then j4 (p0 == 5) else j4 (p0 == 6)))))) (fun (j2 : Bool → Option Bool) => (if (p0 == 4) = true then j2 (p0 == 4) else j2 (p0 == 21))))))))))
theorem oQ  (n : Nat) (p0 : Int) (p1 : Int) (r : Bool) (h : dI n p0 p1 = some r) : cW E 65 0 [B7 p0, B7 p1] [] (B3 r) [] := by
 refine eV Tryz.func65 rfl ?_
 unfold dI at h
 refine za [0, 1] ?_
 refine za [0, 1, 5, 6] ?_
 refine aQ h (fun A j => ∀ v8 v9, j v8 v9 = some r → A (mk [A6 0 p0, A6 1 p1, A6 5 v8, A6 6 v9] [] 0)) (fun v8 v9 h => ?_) (fun j1 Aj1 hj1 h => ?_)
 refine zx fun _ => ?_
 refine zk 3 ?_
 refine zE (B7 p0) ?_
 refine zE (H9 p0 22) ?_
 refine zP (.bool ((I0 p0 0) && (C1 p0 22))) ?_
 refine zk 1 ?_
 refine zE (B7 p1) ?_
 refine zE (B7 v8) ?_
 refine zE (B3 (I0 p1 v8)) ?_
 refine zP (.bool (((I0 p0 0) && (C1 p0 22)) && (I0 p1 v8))) ?_
 refine zk 1 ?_
 refine zE (B7 p1) ?_
 refine zE (B7 v9) ?_
 refine zE (B3 (I2 p1 v9)) ?_
 refine zP (.bool ((((I0 p0 0) && (C1 p0 22)) && (I0 p1 v8)) && (I2 p1 v9))) ?_
 refine zk 1 ?_
 refine jY [4] (L2 := [(4, B3 ((((I0 p0 0) && (C1 p0 22)) && (I0 p1 v8)) && (I2 p1 v9)))]) (G2 := []) 17 ?_
 cases h
 exact aD zr
 refine za [0, 1, 5, 6, 7] ?_
 refine aG ?_
 refine za [0, 1, 5, 6, 7, 8] ?_
 refine zi h (fun h => ?_) fun h => ?_
 refine aW ?_
 refine zb ?_
 exact dF (zv [] [0, 1, 5, 6] 0) (hj1 _ _ h)
 refine za [0, 1, 5, 6, 7, 10] ?_
 refine zi h (fun h => ?_) fun h => ?_
 refine aW ?_
 refine zb ?_
 exact dF (zv [] [0, 1, 5, 6] 0) (hj1 _ _ h)
 refine za [0, 1, 5, 6, 7, 12] ?_
 refine zi h (fun h => ?_) fun h => ?_
 refine aW ?_
 refine zb ?_
 exact dF (zv [] [0, 1, 5, 6] 0) (hj1 _ _ h)
 refine za [0, 1, 5, 6, 7, 14] ?_
 refine zi h (fun h => ?_) fun h => ?_
 refine aW ?_
 refine zb ?_
 exact dF (zv [] [0, 1, 5, 6] 0) (hj1 _ _ h)
 refine aQ h (fun A j => ∀ v3, j v3 = some r → A (mk [A6 0 p0, A6 1 p1, I5 5, (6, .c (I 1048576)), A6 7 p0, J3 16 v3] [] 0)) (fun v3 h => ?_) (fun j2 Aj2 hj2 h => ?_)
 refine zi h (fun h => ?_) fun h => ?_
 refine aW ?_
 refine zb ?_
 exact dF (zv [] [0, 1, 5, 6] 0) (hj1 _ _ h)
 refine aQ h (fun A j => ∀ v5, j v5 = some r → A (mk [A6 0 p0, A6 1 p1, I5 5, (6, .c (I 1048576)), A6 7 p0, J3 19 v5] [] 0)) (fun v5 h => ?_) (fun j4 Aj4 hj4 h => ?_)
 refine zi h (fun h => ?_) fun h => ?_
 refine aW ?_
 refine zb ?_
 exact dF (zv [] [0, 1, 5, 6] 0) (hj1 _ _ h)
 refine za [0, 1, 5, 6, 7, 22] ?_
 refine zi h (fun h => ?_) fun h => ?_
 refine aW ?_
 refine zb ?_
 exact dF (zv [] [0, 1, 5, 6] 0) (hj1 _ _ h)
 refine za [0, 1, 5, 6, 7, 24] ?_
 refine zi h (fun h => ?_) fun h => ?_
 refine aW ?_
 refine zb ?_
 exact dF (zv [] [0, 1, 5, 6] 0) (hj1 _ _ h)
 refine aQ h (fun A j => ∀ v7, j v7 = some r → A (mk [A6 0 p0, A6 1 p1, I5 5, (6, .c (I 1048576)), A6 7 p0, J3 26 v7] [] 0)) (fun v7 h => ?_) (fun j6 Aj6 hj6 h => ?_)
 refine zi h (fun h => ?_) fun h => ?_
 refine aW ?_
 refine zb ?_
 exact dF (zv [] [0, 1, 5, 6] 0) (hj1 _ _ h)
 refine za [0, 1, 5, 6, 29] ?_
 refine zi h (fun h => ?_) fun h => ?_
 refine aW ?_
 refine zb ?_
 exact dF (zv [] [0, 1, 5, 6] 0) (hj1 _ _ h)
 exact aH (zv [] [0, 1, 5, 6] 0) (aB (hj1 _ _ h))
 refine za [0, 1, 5, 6, 7, 26] ?_
 refine zi h (fun h => ?_) fun h => ?_
 exact aH (zv [] [0, 1, 5, 6, 7, 26] 0) (aB (hj6 _ h))
 refine aW ?_
 refine zb ?_
 exact dF (zv [] [0, 1, 5, 6, 7, 26] 0) (hj6 _ h)
 refine za [0, 1, 5, 6, 7, 19] ?_
 refine zi h (fun h => ?_) fun h => ?_
 exact aH (zv [] [0, 1, 5, 6, 7, 19] 0) (aB (hj4 _ h))
 refine aW ?_
 refine zb ?_
 exact dF (zv [] [0, 1, 5, 6, 7, 19] 0) (hj4 _ h)
 refine za [0, 1, 5, 6, 7, 16] ?_
 refine zi h (fun h => ?_) fun h => ?_
 exact aH (zv [] [0, 1, 5, 6, 7, 16] 0) (aB (hj2 _ h))
 refine aW ?_
 refine zb ?_
 exact dF (zv [] [0, 1, 5, 6, 7, 16] 0) (hj2 _ h)
def nM (v3 : Int) (j9 : Int → Option (bN × aO)) (y7 : (Int × aO)) : Nat → Int → Option (bN × aO)
 | 0, _ => none
 | n + 1, v11 => (dI n v3 v11).bind fun (y12 : Bool) => (if (!y12) = true then (if (decide ((Hf 0 (IntKind.wrap .i64 (Int.tdiv v11 2))) < 2)) = true then j9 1 else nM v3 j9 y7 n (Hf 0 (IntKind.wrap .i64 (Int.tdiv v11 2)))) else j9 v11)
def vQ  (n : Nat) (p0 : aO) (p1 : Int) : Option (bN × aO) := (cK n p0 22).bind fun (y1 : (Int × aO)) => (aS (fun (v3 : Int) => (cK n y1.2 8).bind fun (y4 : (Int × aO)) => (if (y4.1 == 0) = true then (cK n y4.2 4).bind fun (y5 : (Int × aO)) => (idx [(⟨#[105, 110, 107]⟩ : ByteArray), (⟨#[112, 97, 112, 101, 114]⟩ : ByteArray), (⟨#[115, 112, 97, 99, 101]⟩ : ByteArray), (⟨#[110, 111, 110, 101]⟩ : ByteArray)] y5.1).bind fun (e6 : ByteArray) => some ((bN.mk v3 1 0 e6), y5.2) else (if (y4.1 == 1) = true then some ((bN.mk v3 2 0 (⟨#[]⟩ : ByteArray)), y4.2) else (if (y4.1 == 2) = true then some ((bN.mk v3 3 0 (⟨#[]⟩ : ByteArray)), y4.2) else (cK n y4.2 (List.length [0, 1, 2, 3, 4, 8, 12, 20, 40, 90, 300, (-1 : Int)] : Int)).bind fun (y7 : (Int × aO)) => (idx [0, 1, 2, 3, 4, 8, 12, 20, 40, 90, 300, (-1 : Int)] y7.1).bind fun (e8 : Int) => (aS (fun (v14 : Int) => some ((bN.mk v3 0 v14 (⟨#[]⟩ : ByteArray)), y7.2)) (fun (j9 : Int → Option (bN × aO)) => nM v3 j9 y7 n e8)))))) (fun (j2 : Int → Option (bN × aO)) => (if (((jW .i64 p1 7) != 0) && ((y1.1 == 5) || (y1.1 == 21))) = true then j2 9 else j2 y1.1)))
theorem Nd  (n : Nat) (p0 : aO) (p1 : Int) (r : (bN × aO)) (h : vQ n p0 p1 = some r) : cW E 33 1 [B9 0 0, B7 p1] [E4 p0] (M8 r.1) [E4 r.2] := by
 refine eV Tryz.func33 rfl ?_
 unfold vQ at h
 refine za [0, 1, 4] ?_
 refine zx fun _ => ?_
 refine zk 1 ?_
 obtain ⟨y1, he, h⟩ := aC h
 refine zo [(0, 0)] cP (bJ n _ _ y1 he) ?_
 clear he
 refine zk 3 ?_
 refine ze [0, 1, 4, 5] ?_
 refine aQ h (fun A j => ∀ v3, j v3 = some r → A (mk [I3, H8, A1 5 2 0] [E4 y1.2, (1, .blk 81 [I 0, I 0, I 0, Sx (⟨#[]⟩ : ByteArray)]), (2, .blk 81 [I v3, I 0, I 0, Sx (⟨#[]⟩ : ByteArray)])] 3)) (fun v3 h => ?_) (fun j2 Aj2 hj2 h => ?_)
 refine aI ?_
 refine zx fun _ => ?_
 refine zk 1 ?_
 obtain ⟨y4, he, h⟩ := aC h
 refine zo [(0, 0)] cP (bJ n _ _ y4 he) ?_
 clear he
 refine ze [0, 4, 5, 25] ?_
 refine aG ?_
 refine za [0, 4, 5, 25, 26] ?_
 refine zi h (fun h => ?_) fun h => ?_
 refine xI [[], [], [1], [0, 2, 1], [3, 0, 2, 1], [], [5, 2, 1], [0, 1, 2, 3, 4, 5, 6], [7, 4, 6, 0, 1, 2, 3, 5]] fun _ => ?_
 refine zk 2 ?_
 obtain ⟨y5, he, h⟩ := aC h
 refine zo [(0, 0)] cP (bJ n _ _ y5 he) ?_
 clear he
 obtain ⟨e6, he, h⟩ := aC h
 refine zd eS he ?_
 clear he
 refine zk 5 ?_
 refine ze [4, 5] ?_
 refine za [4] ?_
 cases h
 exact aD zr
 refine za [0, 4, 5, 25, 36] ?_
 refine zi h (fun h => ?_) fun h => ?_
 refine za [4, 5] ?_
 refine za [4] ?_
 cases h
 exact aD zr
 refine za [0, 4, 5, 40] ?_
 refine zi h (fun h => ?_) fun h => ?_
 refine za [4, 5] ?_
 refine za [4] ?_
 cases h
 exact aD zr
 refine aB ?_
 refine za [0, 4, 5, 6] ?_
 refine zx fun _ => ?_
 refine zk 3 ?_
 refine zl aN [0, 1, 2, 3, 4, 8, 12, 20, 40, 90, 300, (-1 : Int)] ?_
 obtain ⟨y7, he, h⟩ := aC h
 refine zo [(0, 0)] cP (bJ n _ _ y7 he) ?_
 clear he
 obtain ⟨e8, he, h⟩ := aC h
 refine zd aN he ?_
 clear he
 refine zk 3 ?_
 refine jY [4, 5] (L2 := [H8, A1 5 2 0]) (G2 := [E4 y7.2, (1, .blk 81 [I 0, I 0, I 0, Sx (⟨#[]⟩ : ByteArray)]), (2, .blk 81 [I v3, I 0, I e8, Sx (⟨#[]⟩ : ByteArray)]), (11, .tok 3 1 (List.length [0, 1, 2, 3, 4, 8, 12, 20, 40, 90, 300, (-1 : Int)]))]) 22 ?_
 refine aQ h (fun A j => ∀ v14, j v14 = some r → A (mk [H8, A1 5 2 0] [E4 y7.2, (1, .blk 81 [I 0, I 0, I 0, Sx (⟨#[]⟩ : ByteArray)]), (2, .blk 81 [I v3, I 0, I v14, Sx (⟨#[]⟩ : ByteArray)])] 3)) (fun v14 h => ?_) (fun j9 Aj9 hj9 h => ?_)
 refine za [4] ?_
 cases h
 exact aD zr
 refine aG ?_
 refine bA (fun n s => ∃ v11, nM v3 j9 y7 n v11 = some r ∧ s = mk [H8, A1 5 2 0] [E4 y7.2, (1, .blk 81 [I 0, I 0, I 0, Sx (⟨#[]⟩ : ByteArray)]), (2, .blk 81 [I v3, I 0, I v11, Sx (⟨#[]⟩ : ByteArray)])] 3) n _ (zv [(0, 0), (1, 1), (2, 2)] [4, 5] 3) ⟨_, h, rfl⟩ (fun s ⟨v11, h, _⟩ => nomatch h) ?_
 rintro n s ⟨v11, h, rfl⟩
 rw [nM] at h
 refine aI ?_
 refine zx fun _ => ?_
 refine zk 4 ?_
 obtain ⟨y12, he, h⟩ := aC h
 refine zc Vg (oQ n _ _ y12 he) ?_
 clear he
 refine zk 1 ?_
 refine ze [4, 5, 58] ?_
 refine zi h (fun h => ?_) fun h => ?_
 refine aB ?_
 refine aG ?_
 refine zx fun _ => ?_
 refine zk 3 ?_
 refine zw (v := .c (I (Hf 0 (IntKind.wrap .i64 (Int.tdiv v11 2))))) [] (rdW_max (k := .i64) (p := 0) (q := (IntKind.wrap .i64 (Int.tdiv v11 2))) (by kernel_rfl)) ?_
 refine zk 2 ?_
 refine ze [4, 5] ?_
 refine za [4, 5, 66] ?_
 refine zi h (fun h => ?_) fun h => ?_
 refine za [4, 5] ?_
 exact aH (zv [(0, 0), (1, 1), (2, 2)] [4, 5] 3) (bG (hj9 _ h))
 exact aH (zv [(0, 0), (1, 1), (2, 2)] [4, 5] 3) (aB (⟨_, h, rfl⟩))
 exact aH (zv [(0, 0), (1, 1), (2, 2)] [4, 5] 3) (bG (hj9 _ h))
 refine zx fun _ => ?_
 refine zk 4 ?_
 refine zE (B9 5 0) ?_
 refine zE (B7 y1.1) ?_
 refine zE (B3 (y1.1 == 5)) ?_
 refine zF [(O4 p1 7) != 0] (B3 (y1.1 == 5)) ?_
 refine zE (B9 5 0) ?_
 refine zE (B7 y1.1) ?_
 refine zE (B3 (y1.1 == 21)) ?_
 refine zP (.bool ((y1.1 == 5) || (y1.1 == 21))) ?_
 refine zP (.bool (((O4 p1 7) != 0) && ((y1.1 == 5) || (y1.1 == 21)))) ?_
 refine jY [0, 4, 5, 22] (L2 := [I3, H8, A1 5 5 0, (22, B3 (((O4 p1 7) != 0) && ((y1.1 == 5) || (y1.1 == 21))))]) (G2 := [E4 y1.2, (1, .blk 81 [I 0, I 0, I 0, Sx (⟨#[]⟩ : ByteArray)]), (5, .blk 81 [I y1.1, I 0, I 0, Sx (⟨#[]⟩ : ByteArray)])]) 20 ?_
 refine zi h (fun h => ?_) fun h => ?_
 refine aW ?_
 refine zb ?_
 exact dF (zv [(0, 0), (1, 1), (5, 2)] [0, 4, 5] 3) (hj2 _ h)
 exact aH (zv [(0, 0), (1, 1), (5, 2)] [0, 4, 5] 3) (aB (hj2 _ h))
def kJ (v89 : Int) (j102 : List Int → Int → List bN → Option (bK × aO)) (v67 : Int) (v77 : Int) (v83 : ByteArray) (v95 : Int) (v101 : ByteArray) (v70 : List bZ) : Nat → Int → List Int → Int → List bN → Option (bK × aO)
 | 0, _, _, _, _ => none
 | n + 1, v109, v110, v111, v112 => (if (decide (v109 > 0)) = true then (vQ n (aO.mk v110 v111) v89).bind fun (y113 : (bN × aO)) => (pV 40 v112 [y113.1]).bind fun (l114 : List bN) => kJ v89 j102 v67 v77 v83 v95 v101 v70 n (IntKind.wrap .i64 (v109 - 1)) y113.2.L y113.2.At l114 else j102 v110 v111 v112)
def kT (j1 : List Int → Int → List bZ → Option (bK × aO)) : Nat → Int → List Int → Int → List bZ → Option (bK × aO)
 | 0, _, _, _, _ => none
 | n + 1, v67, v68, v69, v70 => (if (decide (v67 > 0)) = true then (aS (fun (v126 : List Int) (v127 : Int) (v128 : List bZ) => kT j1 n (IntKind.wrap .i64 (v67 - 1)) v126 v127 v128) (fun (j71 : List Int → Int → List bZ → Option (bK × aO)) => (aS (fun (v75 : List Int) (v76 : Int) (v77 : Int) => (aS (fun (v81 : List Int) (v82 : Int) (v83 : ByteArray) => (aS (fun (v87 : List Int) (v88 : Int) (v89 : Int) => (aS (fun (v93 : List Int) (v94 : Int) (v95 : Int) => (aS (fun (v99 : List Int) (v100 : Int) (v101 : ByteArray) => (aS (fun (v122 : List Int) (v123 : Int) (v124 : List bN) => (pV 80 v70 [(bZ.mk v77 v83 v89 v95 v101 v124)]).bind fun (l125 : List bZ) => j71 v122 v123 l125) (fun (j102 : List Int → Int → List bN → Option (bK × aO)) => (mM n (aO.mk v99 v100) 1 4).bind fun (y103 : (Int × aO)) => kJ v89 j102 v67 v77 v83 v95 v101 v70 n y103.1 y103.2.L y103.2.At ([] : List bN)))) (fun (j96 : List Int → Int → ByteArray → Option (bK × aO)) => (cK n (aO.mk v93 v94) 5).bind fun (y97 : (Int × aO)) => (if (y97.1 == 0) = true then (nV n y97.2).bind fun (y98 : (ByteArray × aO)) => j96 y98.2.L y98.2.At y98.1 else j96 y97.2.L y97.2.At (⟨#[]⟩ : ByteArray))))) (fun (j90 : List Int → Int → Int → Option (bK × aO)) => (cK n (aO.mk v87 v88) 4).bind fun (y91 : (Int × aO)) => (if (y91.1 == 0) = true then (cK n y91.2 14).bind fun (y92 : (Int × aO)) => j90 y92.2.L y92.2.At y92.1 else j90 y91.2.L y91.2.At 0)))) (fun (j84 : List Int → Int → Int → Option (bK × aO)) => (cK n (aO.mk v81 v82) 4).bind fun (y85 : (Int × aO)) => (if (y85.1 == 0) = true then (cK n y85.2 32).bind fun (y86 : (Int × aO)) => j84 y86.2.L y86.2.At y86.1 else j84 y85.2.L y85.2.At 0)))) (fun (j78 : List Int → Int → ByteArray → Option (bK × aO)) => (cK n (aO.mk v75 v76) 3).bind fun (y79 : (Int × aO)) => (if (y79.1 == 0) = true then (nV n y79.2).bind fun (y80 : (ByteArray × aO)) => j78 y80.2.L y80.2.At y80.1 else j78 y79.2.L y79.2.At (⟨#[]⟩ : ByteArray))))) (fun (j72 : List Int → Int → Int → Option (bK × aO)) => (cK n (aO.mk v68 v69) 2).bind fun (y73 : (Int × aO)) => (if (y73.1 == 0) = true then (cK n y73.2 14).bind fun (y74 : (Int × aO)) => j72 y74.2.L y74.2.At y74.1 else j72 y73.2.L y73.2.At 0))))) else j1 v68 v69 v70)
def sO  (n : Nat) (p0 : aO) : Option (bK × aO) := (aS (fun (v139 : List Int) (v140 : Int) (v141 : List bZ) => some ((bK.mk v141), (aO.mk v139 v140))) (fun (j1 : List Int → Int → List bZ → Option (bK × aO)) => (cK n p0 7).bind fun (y2 : (Int × aO)) => kT j1 n y2.1 y2.2.L y2.2.At ([] : List bZ)))
theorem Kx  (n : Nat) (p0 : aO) (r : (bK × aO)) (h : sO n p0 = some r) : cW E 11 1 [B9 0 0] [E4 p0] (.agg [C5 r.1.Rules]) [E4 r.2] := by
 refine eV Tryz.func11 rfl ?_
 unfold sO at h
 refine za [0, 2] ?_
 refine za [0, 2, 3] ?_
 refine aQ h (fun A j => ∀ v139 v140 v141, j v139 v140 v141 = some r → A (mk [O0, N0] [A5 v139 v140, H5 1 31 3, H5 2 31 4, (3, .vec 63 6 (List.map aY ([] : List bZ))), (4, J1 v141)] 5)) (fun v139 v140 v141 h => ?_) (fun j1 Aj1 hj1 h => ?_)
 refine za [2] ?_
 refine aH (sW 4 (T := 63) (sz := 6) (l := List.map aY v141) (L2 := [O0]) (G2 := [A5 v139 v140, (1, .blk 31 [C5 v141]), (2, .blk 31 [C5 v141]), (3, .vec 63 6 (List.map aY ([] : List bZ)))]) (by kernel_rfl) (by kernel_rfl) (by kernel_rfl)) ?_
 cases h
 exact aD zr
 refine zx fun _ => ?_
 refine zk 1 ?_
 obtain ⟨y2, he, h⟩ := aC h
 refine zo [(0, 0)] cP (bJ n _ _ y2 he) ?_
 clear he
 refine zk 1 ?_
 refine ze [0, 2, 3, 4] ?_
 refine aG ?_
 refine bA (fun n s => ∃ v67 v68 v69 v70, kT j1 n v67 v68 v69 v70 = some r ∧ s = mk [I3, O0, N0, A6 4 v67] [A5 v68 v69, H5 1 31 3, H5 2 31 4, (3, .vec 63 6 (List.map aY ([] : List bZ))), (4, J1 v70)] 5) n _ (dT.trans (xS (n := 1) (T0 := 31) (l := [cE]) (G2 := [E4 y2.2, H5 1 31 6, (2, .blk 31 [cE]), (6, .vec 63 6 (List.map aY ([] : List bZ)))]) (lim2 := 7) 0 63 6 (by kernel_rfl) (by kernel_rfl) (by kernel_rfl) (by kernel_rfl)) (dT.trans (xS (n := 2) (T0 := 31) (l := [cE]) (G2 := [E4 y2.2, H5 1 31 6, H5 2 31 7, (6, .vec 63 6 (List.map aY ([] : List bZ))), (7, .vec 63 6 (List.map aY ([] : List bZ)))]) (lim2 := 8) 0 63 6 (by kernel_rfl) (by kernel_rfl) (by kernel_rfl) (by kernel_rfl)) (zv [(0, 0), (1, 1), (2, 2), (6, 3), (7, 4)] [0, 2, 3, 4] 5))) ⟨_, _, _, _, h, rfl⟩ (fun s ⟨v67, v68, v69, v70, h, _⟩ => nomatch h) ?_
 rintro n s ⟨v67, v68, v69, v70, h, rfl⟩
 rw [kT] at h
 refine aI ?_
 refine za [0, 2, 3, 4, 10] ?_
 refine zi h (fun h => ?_) fun h => ?_
 refine aB ?_
 refine aQ h (fun A j => ∀ v126 v127 v128, j v126 v127 v128 = some r → A (mk [I3, O0, N0, A6 4 v67] [A5 v126 v127, H5 1 31 3, H5 2 31 4, (3, .vec 63 6 (List.map aY ([] : List bZ))), (4, J1 v128)] 5)) (fun v126 v127 v128 h => ?_) (fun j71 Aj71 hj71 h => ?_)
 refine aW ?_
 refine zb ?_
 exact dF (zv [(0, 0), (1, 1), (2, 2), (3, 3), (4, 4)] [0, 2, 3, 4] 5) (⟨_, _, _, _, h, rfl⟩)
 refine aG ?_
 refine za [0, 2, 3, 4, 5] ?_
 refine aQ h (fun A j => ∀ v75 v76 v77, j v75 v76 v77 = some r → A (mk [I3, O0, N0, A6 4 v67, A1 5 3 0] [A5 v75 v76, H5 1 31 4, H5 2 31 5, (3, .blk 63 [I v77, Sx (⟨#[]⟩ : ByteArray), I 0, I 0, Sx (⟨#[]⟩ : ByteArray), cE]), (4, .vec 63 6 (List.map aY ([] : List bZ))), (5, J1 v70)] 6)) (fun v75 v76 v77 h => ?_) (fun j72 Aj72 hj72 h => ?_)
 refine aQ h (fun A j => ∀ v81 v82 v83, j v81 v82 v83 = some r → A (mk [I3, O0, N0, A6 4 v67, A1 5 3 0] [A5 v81 v82, H5 1 31 4, H5 2 31 5, (3, .blk 63 [I v77, Sx v83, I 0, I 0, Sx (⟨#[]⟩ : ByteArray), cE]), (4, .vec 63 6 (List.map aY ([] : List bZ))), (5, J1 v70)] 6)) (fun v81 v82 v83 h => ?_) (fun j78 Aj78 hj78 h => ?_)
 refine aQ h (fun A j => ∀ v87 v88 v89, j v87 v88 v89 = some r → A (mk [I3, O0, N0, A6 4 v67, A1 5 3 0] [A5 v87 v88, H5 1 31 4, H5 2 31 5, (3, .blk 63 [I v77, Sx v83, I v89, I 0, Sx (⟨#[]⟩ : ByteArray), cE]), (4, .vec 63 6 (List.map aY ([] : List bZ))), (5, J1 v70)] 6)) (fun v87 v88 v89 h => ?_) (fun j84 Aj84 hj84 h => ?_)
 refine aQ h (fun A j => ∀ v93 v94 v95, j v93 v94 v95 = some r → A (mk [I3, O0, N0, A6 4 v67, A1 5 3 0] [A5 v93 v94, H5 1 31 4, H5 2 31 5, (3, .blk 63 [I v77, Sx v83, I v89, I v95, Sx (⟨#[]⟩ : ByteArray), cE]), (4, .vec 63 6 (List.map aY ([] : List bZ))), (5, J1 v70)] 6)) (fun v93 v94 v95 h => ?_) (fun j90 Aj90 hj90 h => ?_)
 refine aQ h (fun A j => ∀ v99 v100 v101, j v99 v100 v101 = some r → A (mk [I3, O0, N0, A6 4 v67, A1 5 3 0] [A5 v99 v100, H5 1 31 4, H5 2 31 5, (3, .blk 63 [I v77, Sx v83, I v89, I v95, Sx v101, cE]), (4, .vec 63 6 (List.map aY ([] : List bZ))), (5, J1 v70)] 6)) (fun v99 v100 v101 h => ?_) (fun j96 Aj96 hj96 h => ?_)
 refine aQ h (fun A j => ∀ v122 v123 v124, j v122 v123 v124 = some r → A (mk [I3, O0, N0, A6 4 v67, A1 5 3 0] [A5 v122 v123, H5 1 31 4, H5 2 31 5, (3, .blk 63 [I v77, Sx v83, I v89, I v95, Sx v101, .app 6 (List.map bI v124)]), (4, .vec 63 6 (List.map aY ([] : List bZ))), (5, J1 v70), C4 6 81 4 v124] 7)) (fun v122 v123 v124 h => ?_) (fun j102 Aj102 hj102 h => ?_)
 refine aW ?_
 refine zy fun _ => ?_
 refine zk 4 ?_
 obtain ⟨l125, he, h⟩ := aC h
 refine uH (enc := aY) (l := v70) (els := [bZ.mk v77 v83 v89 v95 v101 v124]) (r := l125) (m := 5) (e := 63) (sz := 6) (bytes := 80) (nm := 11) he (by kernel_rfl) (fun x => by kernel_rfl) (by kernel_rfl) (by kernel_rfl) rfl rfl rfl ?_
 clear he
 refine zk 2 ?_
 refine bV ?_
 exact dF (zv [(0, 0), (1, 1), (2, 2), (4, 3), (11, 4)] [0, 2, 3, 4] 5) (hj71 _ _ _ h)
 refine zx fun _ => ?_
 refine zk 1 ?_
 obtain ⟨y103, he, h⟩ := aC h
 refine zo [(0, 0)] Ol (nU n _ _ _ y103 he) ?_
 clear he
 refine zk 1 ?_
 refine ze [0, 2, 3, 4, 5, 6] ?_
 refine aG ?_
 refine bA (fun n s => ∃ v109 v110 v111 v112, kJ v89 j102 v67 v77 v83 v95 v101 v70 n v109 v110 v111 v112 = some r ∧ s = mk [I3, O0, N0, A6 4 v67, A1 5 3 0, A6 6 v109] [A5 v110 v111, H5 1 31 4, H5 2 31 5, (3, .blk 63 [I v77, Sx v83, I v89, I v95, Sx v101, .app 6 (List.map bI v112)]), (4, .vec 63 6 (List.map aY ([] : List bZ))), (5, J1 v70), C4 6 81 4 v112] 7) n _ (dT.trans (lF (n := 3) (T0 := 63) (l := [I v77, Sx v83, I v89, I v95, Sx v101, cE]) (G2 := [E4 y103.2, H5 1 31 4, H5 2 31 5, (3, .blk 63 [I v77, Sx v83, I v89, I v95, Sx v101, .app 9 (List.map bI ([] : List bN))]), (4, .vec 63 6 (List.map aY ([] : List bZ))), (5, J1 v70), (9, .tok 81 4 (List.length ([] : List bN)))]) (lim2 := 10) 5 81 4 (by kernel_rfl) (by kernel_rfl) (by kernel_rfl) (by kernel_rfl)) (zv [(0, 0), (1, 1), (2, 2), (3, 3), (4, 4), (5, 5), (9, 6)] [0, 2, 3, 4, 5, 6] 7)) ⟨_, _, _, _, h, rfl⟩ (fun s ⟨v109, v110, v111, v112, h, _⟩ => nomatch h) ?_
 rintro n s ⟨v109, v110, v111, v112, h, rfl⟩
 rw [kJ] at h
 refine aI ?_
 refine za [0, 2, 3, 4, 5, 6, 47] ?_
 refine zi h (fun h => ?_) fun h => ?_
 refine aB ?_
 refine aI ?_
 refine aG ?_
 refine Rg [[], [0], [], [], [3], [2, 4, 3], [5, 2, 4, 3], [1, 6, 5, 0, 2, 4, 3], [0, 1, 2, 3, 4, 5, 6, 7], [8, 7, 0, 1, 2, 3, 4, 5, 6]] fun _ => ?_
 refine zk 5 ?_
 obtain ⟨y113, he, h⟩ := aC h
 refine zo [(0, 0)] fok33 (Nd n _ _ y113 he) ?_
 clear he
 refine zk 1 ?_
 obtain ⟨l114, he, h⟩ := aC h
 refine cH (enc := bI) (l := v112) (els := [y113.1]) (r := l114) (old := some 6) (e := 81) (sz := 4) (bytes := 40) (k := (H1 v112)) (nm := 16) he (by kernel_rfl) (by kernel_rfl) (fun x => by kernel_rfl) (by kernel_rfl) (by kernel_rfl) rfl rfl rfl ?_
 clear he
 refine zk 2 ?_
 refine bV ?_
 refine aW ?_
 refine zb ?_
 exact dF (zv [(0, 0), (1, 1), (2, 2), (3, 3), (4, 4), (5, 5), (16, 6)] [0, 2, 3, 4, 5, 6] 7) (⟨_, _, _, _, h, rfl⟩)
 exact aH (zv [(0, 0), (1, 1), (2, 2), (3, 3), (4, 4), (5, 5), (6, 6)] [0, 2, 3, 4, 5] 7) (bG (hj102 _ _ _ h))
 refine zx fun _ => ?_
 refine zk 1 ?_
 obtain ⟨y97, he, h⟩ := aC h
 refine zo [(0, 0)] cP (bJ n _ _ y97 he) ?_
 clear he
 refine zk 1 ?_
 refine ze [0, 2, 3, 4, 5, 40] ?_
 refine zi h (fun h => ?_) fun h => ?_
 refine aW ?_
 refine zy fun _ => ?_
 refine zk 1 ?_
 obtain ⟨y98, he, h⟩ := aC h
 refine zo [(0, 0)] Yn (vS n _ y98 he) ?_
 clear he
 refine zk 2 ?_
 refine bV ?_
 exact dF (zv [(0, 0), (1, 1), (2, 2), (3, 3), (4, 4), (5, 5)] [0, 2, 3, 4, 5] 6) (hj96 _ _ _ h)
 exact aH (zv [(0, 0), (1, 1), (2, 2), (3, 3), (4, 4), (5, 5)] [0, 2, 3, 4, 5] 6) (aB (hj96 _ _ _ h))
 refine zx fun _ => ?_
 refine zk 1 ?_
 obtain ⟨y91, he, h⟩ := aC h
 refine zo [(0, 0)] cP (bJ n _ _ y91 he) ?_
 clear he
 refine zk 1 ?_
 refine ze [0, 2, 3, 4, 5, 34] ?_
 refine zi h (fun h => ?_) fun h => ?_
 refine aW ?_
 refine zy fun _ => ?_
 refine zk 1 ?_
 obtain ⟨y92, he, h⟩ := aC h
 refine zo [(0, 0)] cP (bJ n _ _ y92 he) ?_
 clear he
 refine zk 2 ?_
 refine bV ?_
 exact dF (zv [(0, 0), (1, 1), (2, 2), (3, 3), (4, 4), (5, 5)] [0, 2, 3, 4, 5] 6) (hj90 _ _ _ h)
 exact aH (zv [(0, 0), (1, 1), (2, 2), (3, 3), (4, 4), (5, 5)] [0, 2, 3, 4, 5] 6) (aB (hj90 _ _ _ h))
 refine zx fun _ => ?_
 refine zk 1 ?_
 obtain ⟨y85, he, h⟩ := aC h
 refine zo [(0, 0)] cP (bJ n _ _ y85 he) ?_
 clear he
 refine zk 1 ?_
 refine ze [0, 2, 3, 4, 5, 28] ?_
 refine zi h (fun h => ?_) fun h => ?_
 refine aW ?_
 refine zy fun _ => ?_
 refine zk 1 ?_
 obtain ⟨y86, he, h⟩ := aC h
 refine zo [(0, 0)] cP (bJ n _ _ y86 he) ?_
 clear he
 refine zk 2 ?_
 refine bV ?_
 exact dF (zv [(0, 0), (1, 1), (2, 2), (3, 3), (4, 4), (5, 5)] [0, 2, 3, 4, 5] 6) (hj84 _ _ _ h)
 exact aH (zv [(0, 0), (1, 1), (2, 2), (3, 3), (4, 4), (5, 5)] [0, 2, 3, 4, 5] 6) (aB (hj84 _ _ _ h))
 refine zx fun _ => ?_
 refine zk 1 ?_
 obtain ⟨y79, he, h⟩ := aC h
 refine zo [(0, 0)] cP (bJ n _ _ y79 he) ?_
 clear he
 refine zk 1 ?_
 refine ze [0, 2, 3, 4, 5, 22] ?_
 refine zi h (fun h => ?_) fun h => ?_
 refine aW ?_
 refine zy fun _ => ?_
 refine zk 1 ?_
 obtain ⟨y80, he, h⟩ := aC h
 refine zo [(0, 0)] Yn (vS n _ y80 he) ?_
 clear he
 refine zk 2 ?_
 refine bV ?_
 exact dF (zv [(0, 0), (1, 1), (2, 2), (3, 3), (4, 4), (5, 5)] [0, 2, 3, 4, 5] 6) (hj78 _ _ _ h)
 exact aH (zv [(0, 0), (1, 1), (2, 2), (3, 3), (4, 4), (5, 5)] [0, 2, 3, 4, 5] 6) (aB (hj78 _ _ _ h))
 refine zx fun _ => ?_
 refine zk 1 ?_
 obtain ⟨y73, he, h⟩ := aC h
 refine zo [(0, 0)] cP (bJ n _ _ y73 he) ?_
 clear he
 refine zk 1 ?_
 refine ze [0, 2, 3, 4, 5, 16] ?_
 refine zi h (fun h => ?_) fun h => ?_
 refine aW ?_
 refine zy fun _ => ?_
 refine zk 1 ?_
 obtain ⟨y74, he, h⟩ := aC h
 refine zo [(0, 0)] cP (bJ n _ _ y74 he) ?_
 clear he
 refine zk 2 ?_
 refine bV ?_
 exact dF (zv [(0, 0), (1, 1), (2, 2), (8, 3), (3, 4), (4, 5)] [0, 2, 3, 4, 5] 6) (hj72 _ _ _ h)
 exact aH (zv [(0, 0), (1, 1), (2, 2), (8, 3), (3, 4), (4, 5)] [0, 2, 3, 4, 5] 6) (aB (hj72 _ _ _ h))
 exact aH (zv [(0, 0), (1, 1), (2, 2), (3, 3), (4, 4)] [2, 3] 5) (bG (hj1 _ _ _ h))
def mI (j1 : List dL → List Int → Int → Option (bS × aO)) : Nat → Int → List Int → Int → List dL → Option (bS × aO)
 | 0, _, _, _, _ => none
 | n + 1, v12, v13, v14, v15 => (cK n (aO.mk v13 v14) 4).bind fun (y16 : (Int × aO)) => (if (decide (v12 < y16.1)) = true then (idx [(⟨#[105, 110, 107]⟩ : ByteArray), (⟨#[112, 97, 112, 101, 114]⟩ : ByteArray), (⟨#[115, 112, 97, 99, 101]⟩ : ByteArray)] v12).bind fun (e17 : ByteArray) => (cK n y16.2 200).bind fun (y18 : (Int × aO)) => (cK n y18.2 40).bind fun (y19 : (Int × aO)) => (cK n y19.2 16777216).bind fun (y20 : (Int × aO)) => (cK n y20.2 5).bind fun (y21 : (Int × aO)) => (pV 48 v15 [(dL.mk e17 y18.1 (IntKind.wrap .i64 (y19.1 - 1)) y20.1 y21.1)]).bind fun (l22 : List dL) => mI j1 n (IntKind.wrap .i64 (v12 + 1)) y21.2.L y21.2.At l22 else j1 v15 y16.2.L y16.2.At)
def sD  (n : Nat) (p0 : aO) : Option (bS × aO) := (aS (fun (v30 : List dL) (v31 : List Int) (v32 : Int) => some ((bS.mk v30), (aO.mk v31 v32))) (fun (j1 : List dL → List Int → Int → Option (bS × aO)) => mI j1 n 0 p0.L p0.At ([] : List dL)))
theorem Kt  (n : Nat) (p0 : aO) (r : (bS × aO)) (h : sD n p0 = some r) : cW E 12 1 [B9 0 0] [E4 p0] (.agg [F8 r.1.Tokens]) [E4 r.2] := by
 refine eV Tryz.func12 rfl ?_
 unfold sD at h
 refine za [0, 2] ?_
 refine za [0, 2, 3] ?_
 refine za [0, 2, 3, 4] ?_
 refine aQ h (fun A j => ∀ v30 v31 v32, j v30 v31 v32 = some r → A (mk [O0, N0] [A5 v31 v32, (1, .blk 35 [cE]), (2, .blk 35 [.app 3 (List.map bH v30)]), C4 3 85 5 v30] 4)) (fun v30 v31 v32 h => ?_) (fun j1 Aj1 hj1 h => ?_)
 refine za [2] ?_
 cases h
 exact aD zr
 refine za [0, 2, 3, 4, 5] ?_
 refine aG ?_
 refine bA (fun n s => ∃ v12 v13 v14 v15, mI j1 n v12 v13 v14 v15 = some r ∧ s = mk [I3, O0, N0, (4, .c (.app 3 (List.map eS [(⟨#[105, 110, 107]⟩ : ByteArray), (⟨#[112, 97, 112, 101, 114]⟩ : ByteArray), (⟨#[115, 112, 97, 99, 101]⟩ : ByteArray)]))), A6 5 v12] [A5 v13 v14, (1, .blk 35 [cE]), (2, .blk 35 [.app 4 (List.map bH v15)]), (3, .tok 9 1 (List.length [(⟨#[105, 110, 107]⟩ : ByteArray), (⟨#[112, 97, 112, 101, 114]⟩ : ByteArray), (⟨#[115, 112, 97, 99, 101]⟩ : ByteArray)])), C4 4 85 5 v15] 5) n _ (dT.trans (lF (n := 2) (T0 := 35) (l := [cE]) (G2 := [E4 p0, (1, .blk 35 [cE]), (2, .blk 35 [.app 6 (List.map bH ([] : List dL))]), (3, .tok 9 1 (List.length [(⟨#[105, 110, 107]⟩ : ByteArray), (⟨#[112, 97, 112, 101, 114]⟩ : ByteArray), (⟨#[115, 112, 97, 99, 101]⟩ : ByteArray)])), (6, .tok 85 5 (List.length ([] : List dL)))]) (lim2 := 7) 0 85 5 (by kernel_rfl) (by kernel_rfl) (by kernel_rfl) (by kernel_rfl)) (zv [(0, 0), (1, 1), (2, 2), (3, 3), (6, 4)] [0, 2, 3, 4, 5] 5)) ⟨_, _, _, _, h, rfl⟩ (fun s ⟨v12, v13, v14, v15, h, _⟩ => nomatch h) ?_
 rintro n s ⟨v12, v13, v14, v15, h, rfl⟩
 rw [mI] at h
 refine aI ?_
 refine zx fun _ => ?_
 refine zk 2 ?_
 obtain ⟨y16, he, h⟩ := aC h
 refine zo [(0, 0)] cP (bJ n _ _ y16 he) ?_
 clear he
 refine zk 1 ?_
 refine ze [0, 2, 3, 4, 5, 10] ?_
 refine zi h (fun h => ?_) fun h => ?_
 refine aB ?_
 refine aI ?_
 refine aG ?_
 refine Rg [[], [0], [], [], [2, 3], [4, 2, 3], [], [6], [], [8, 7, 6], [9, 8, 7, 6], [], [11, 9, 8, 7, 6], [], [13, 12, 11, 9, 8, 7, 6], [5, 7, 10, 12, 14, 4, 2, 3, 6, 9, 8, 11, 13], [15, 5, 7, 10, 12, 14, 4, 2, 3, 6, 9, 8, 11, 13], [1, 16, 14, 0, 15, 5, 7, 10, 12, 4, 2, 3, 6, 9, 8, 11, 13], [0, 1, 2, 3, 4, 5, 6, 7, 8, 9, 10, 11, 12, 13, 14, 15, 16, 17], [18, 17, 0, 1, 2, 3, 4, 5, 6, 7, 8, 9, 10, 11, 12, 13, 14, 15, 16]] fun _ => ?_
 refine zk 4 ?_
 obtain ⟨e17, he, h⟩ := aC h
 refine zd eS he ?_
 clear he
 refine zk 2 ?_
 obtain ⟨y18, he, h⟩ := aC h
 refine zo [(0, 0)] cP (bJ n _ _ y18 he) ?_
 clear he
 refine zk 1 ?_
 obtain ⟨y19, he, h⟩ := aC h
 refine zo [(0, 0)] cP (bJ n _ _ y19 he) ?_
 clear he
 refine zk 2 ?_
 obtain ⟨y20, he, h⟩ := aC h
 refine zo [(0, 0)] cP (bJ n _ _ y20 he) ?_
 clear he
 refine zk 1 ?_
 obtain ⟨y21, he, h⟩ := aC h
 refine zo [(0, 0)] cP (bJ n _ _ y21 he) ?_
 clear he
 refine zk 2 ?_
 obtain ⟨l22, he, h⟩ := aC h
 refine cH (enc := bH) (l := v15) (els := [dL.mk e17 y18.1 (F5 y19.1) y20.1 y21.1]) (r := l22) (old := some 4) (e := 85) (sz := 5) (bytes := 48) (k := (H1 v15)) (nm := 26) he (by kernel_rfl) (by kernel_rfl) (fun x => by kernel_rfl) (by kernel_rfl) (by kernel_rfl) rfl rfl rfl ?_
 clear he
 refine zk 2 ?_
 refine bV ?_
 refine aW ?_
 refine zb ?_
 exact dF (zv [(0, 0), (1, 1), (2, 2), (3, 3), (26, 4)] [0, 2, 3, 4, 5] 5) (⟨_, _, _, _, h, rfl⟩)
 exact aH (zv [(0, 0), (1, 1), (2, 2), (4, 3)] [2, 3] 4) (bG (hj1 _ _ _ h))
def wG  (n : Nat) (p0 : aO) : Option (cQ × aO) := (cK n p0 2).bind fun (y1 : (Int × aO)) => (cK n y1.2 2).bind fun (y2 : (Int × aO)) => (cK n y2.2 5).bind fun (y3 : (Int × aO)) => (idx [100, 100, 50, 150, 400] y3.1).bind fun (e4 : Int) => some ((cQ.mk (y1.1 == 1) (y2.1 == 1) e4), y3.2)
theorem Og  (n : Nat) (p0 : aO) (r : (cQ × aO)) (h : wG n p0 = some r) : cW E 13 1 [B9 0 0] [E4 p0] (F9 r.1) [E4 r.2] := by
 refine eV Tryz.func13 rfl ?_
 unfold wG at h
 refine za [0, 2] ?_
 refine zx fun _ => ?_
 refine zk 1 ?_
 obtain ⟨y1, he, h⟩ := aC h
 refine zo [(0, 0)] cP (bJ n _ _ y1 he) ?_
 clear he
 refine zk 2 ?_
 obtain ⟨y2, he, h⟩ := aC h
 refine zo [(0, 0)] cP (bJ n _ _ y2 he) ?_
 clear he
 refine zk 3 ?_
 obtain ⟨y3, he, h⟩ := aC h
 refine zo [(0, 0)] cP (bJ n _ _ y3 he) ?_
 clear he
 obtain ⟨e4, he, h⟩ := aC h
 refine zd aN he ?_
 clear he
 refine zk 3 ?_
 refine ze [2] ?_
 cases h
 exact aD zr
def jQ (p1 : bB) (j1 : List aT → List Int → Int → Option ((List aT) × aO)) : Nat → List aT → Int → List Int → Int → Option ((List aT) × aO)
 | 0, _, _, _, _ => none
 | n + 1, v10, v11, v12, v13 => (if (decide (v11 < (List.length p1.Nodes : Int))) = true then (aS (fun (v19 : List aT) (v20 : List Int) (v21 : Int) => jQ p1 j1 n v19 (IntKind.wrap .i64 (v11 + 1)) v20 v21) (fun (j14 : List aT → List Int → Int → Option ((List aT) × aO)) => (cK n (aO.mk v12 v13) 4).bind fun (y15 : (Int × aO)) => (if (y15.1 == 0) = true then (idx p1.Nodes v11).bind fun (e16 : aR) => (cK n y15.2 32).bind fun (y17 : (Int × aO)) => (pV 16 v10 [(aT.mk e16.ID y17.1)]).bind fun (l18 : List aT) => j14 l18 y17.2.L y17.2.At else j14 v10 y15.2.L y15.2.At))) else j1 v10 v12 v13)
def qZ  (n : Nat) (p0 : aO) (p1 : bB) : Option ((List aT) × aO) := (aS (fun (v26 : List aT) (v27 : List Int) (v28 : Int) => some (v26, (aO.mk v27 v28))) (fun (j1 : List aT → List Int → Int → Option ((List aT) × aO)) => jQ p1 j1 n ([] : List aT) 0 p0.L p0.At))
theorem Ia  (n : Nat) (p0 : aO) (p1 : bB) (r : ((List aT) × aO)) (h : qZ n p0 p1 = some r) : cW E 14 1 [B9 0 0, C0 p1] [E4 p0] (D6 r.1) [E4 r.2] := by
 refine eV Tryz.func14 rfl ?_
 unfold qZ at h
 refine za [0, 3] ?_
 refine za [0, 3, 5] ?_
 refine aQ h (fun A j => ∀ v26 v27 v28, j v26 v27 v28 = some r → A (mk [(5, .c (.app 1 (List.map aV v26)))] [A5 v27 v28, C4 1 67 2 v26] 2)) (fun v26 v27 v28 h => ?_) (fun j1 Aj1 hj1 h => ?_)
 refine za [4] ?_
 cases h
 exact aD zr
 refine za [0, 3, 5, 6] ?_
 refine aG ?_
 refine bA (fun n s => ∃ v10 v11 v12 v13, jQ p1 j1 n v10 v11 v12 v13 = some r ∧ s = mk [I3, N5, (5, .c (.app 2 (List.map aV v10))), A6 6 v11] [A5 v12 v13, I1 1 p1, C4 2 67 2 v10] 3) n _ (dT.trans (mO (L2 := [I3, N5, (5, .c (.app 5 (List.map aV ([] : List aT)))), I5 6]) (G2 := [E4 p0, I1 1 p1, (5, .tok 67 2 (List.length ([] : List aT)))]) (lim2 := 6) 5 67 2 (by kernel_rfl) (by kernel_rfl) (by kernel_rfl) (by kernel_rfl)) (zv [(0, 0), (1, 1), (5, 2)] [0, 3, 5, 6] 3)) ⟨_, _, _, _, h, rfl⟩ (fun s ⟨v10, v11, v12, v13, h, _⟩ => nomatch h) ?_
 rintro n s ⟨v10, v11, v12, v13, h, rfl⟩
 rw [jQ] at h
 refine aI ?_
 refine zx fun _ => ?_
 refine zk 3 ?_
 refine zl aE p1.Nodes ?_
 refine zk 1 ?_
 refine ze [0, 3, 5, 6, 11] ?_
 refine zi h (fun h => ?_) fun h => ?_
 refine aB ?_
 refine aQ h (fun A j => ∀ v19 v20 v21, j v19 v20 v21 = some r → A (mk [I3, N5, (5, .c (.app 2 (List.map aV v19))), A6 6 v11] [A5 v20 v21, I1 1 p1, C4 2 67 2 v19] 3)) (fun v19 v20 v21 h => ?_) (fun j14 Aj14 hj14 h => ?_)
 refine aW ?_
 refine zb ?_
 exact dF (zv [(0, 0), (1, 1), (2, 2)] [0, 3, 5, 6] 3) (⟨_, _, _, _, h, rfl⟩)
 refine aG ?_
 refine zx fun _ => ?_
 refine zk 1 ?_
 obtain ⟨y15, he, h⟩ := aC h
 refine zo [(0, 0)] cP (bJ n _ _ y15 he) ?_
 clear he
 refine zk 1 ?_
 refine ze [0, 3, 5, 6, 16] ?_
 refine zi h (fun h => ?_) fun h => ?_
 refine aW ?_
 refine Rg [[], [], [1], [], [2, 3, 1], [4, 2, 3, 1], [5, 4, 2, 3, 1], [], [7], [6, 8, 5, 4, 2, 3, 1, 7], [9, 6, 8, 5, 4, 2, 3, 1, 7], [0, 10, 8, 9, 6, 5, 4, 2, 3, 1, 7], [11, 0, 1, 2, 3, 4, 5, 6, 7, 8, 9, 10]] fun _ => ?_
 refine zk 4 ?_
 obtain ⟨e16, he, h⟩ := aC h
 refine zd aE he ?_
 clear he
 refine zk 3 ?_
 obtain ⟨y17, he, h⟩ := aC h
 refine zo [(0, 0)] cP (bJ n _ _ y17 he) ?_
 clear he
 refine zk 2 ?_
 obtain ⟨l18, he, h⟩ := aC h
 refine cH (enc := aV) (l := v10) (els := [aT.mk e16.ID y17.1]) (r := l18) (old := some 2) (e := 67) (sz := 2) (bytes := 16) (k := (H1 v10)) (nm := 22) he (by kernel_rfl) (by kernel_rfl) (fun x => by kernel_rfl) (by kernel_rfl) (by kernel_rfl) rfl rfl rfl ?_
 clear he
 refine zk 1 ?_
 refine bV ?_
 exact dF (zv [(0, 0), (1, 1), (22, 2)] [0, 3, 5, 6] 3) (hj14 _ _ _ h)
 exact aH (zv [(0, 0), (1, 1), (2, 2)] [0, 3, 5, 6] 3) (aB (hj14 _ _ _ h))
 exact aH (zv [(0, 0), (2, 1)] [5] 2) (bG (hj1 _ _ _ h))
def eQ (p0 : ByteArray) (j1 : Unit → Option Bool) : Nat → Int → Option Bool
 | 0, _ => none
 | n + 1, v3 => (if (decide (v3 < (ByteArray.size p0 : Int))) = true then (yD p0 v3).bind fun (u4 : Int) => (if ((!(((decide (u4 ≥ 97)) && (decide (u4 ≤ 122))) || ((decide (u4 ≥ 65)) && (decide (u4 ≤ 90))))) && ((v3 == 0) || ((((decide (u4 < 48)) || (decide (u4 > 57))) && (u4 != 45)) && (u4 != 95)))) = true then some false else eQ p0 j1 n (IntKind.wrap .i64 (v3 + 1))) else j1 ())
def eE  (n : Nat) (p0 : ByteArray) : Option Bool := (if (((ByteArray.size p0 : Int) == 0) || (decide ((ByteArray.size p0 : Int) > 24))) = true then some false else (aS (fun (_ : Unit) => some true) (fun (j1 : Unit → Option Bool) => eQ p0 j1 n 0)))
theorem kQ  (n : Nat) (p0 : ByteArray) (r : Bool) (h : eE n p0 = some r) : cW E 66 0 [F0 p0] [] (B3 r) [] := by
 refine eV Tryz.func66 rfl ?_
 unfold eE at h
 refine za [0] ?_
 refine aI ?_
 refine zx fun _ => ?_
 refine zk 4 ?_
 refine zE (F0 p0) ?_
 refine zE (.c (I (ByteArray.size p0 : Int))) ?_
 refine zE (.c (Bo (decide ((ByteArray.size p0 : Int) > 24)))) ?_
 refine zP (.bool (((ByteArray.size p0 : Int) == 0) || (decide ((ByteArray.size p0 : Int) > 24)))) ?_
 refine ze [0, 13] ?_
 refine zi h (fun h => ?_) fun h => ?_
 refine za [2] ?_
 cases h
 exact aD zr
 refine aB ?_
 refine aQ h (fun A j => ∀ u, j u = some r → A (N7)) (fun u h => ?_) (fun j1 Aj1 hj1 h => ?_)
 refine za [2] ?_
 cases h
 exact aD zr
 refine za [0, 15, 16] ?_
 refine aG ?_
 refine bA (fun n s => ∃ v3, eQ p0 j1 n v3 = some r ∧ s = mk [(0, F0 p0), (15, .c (I (ByteArray.size p0 : Int))), A6 16 v3] [] 0) n _ (zv [] [0, 15, 16] 0) ⟨_, h, rfl⟩ (fun s ⟨v3, h, _⟩ => nomatch h) ?_
 rintro n s ⟨v3, h, rfl⟩
 rw [eQ] at h
 refine za [0, 15, 16, 17] ?_
 refine aI ?_
 refine zi h (fun h => ?_) fun h => ?_
 refine aB ?_
 refine aI ?_
 refine aG ?_
 refine za [0, 3, 15, 16] ?_
 refine zx fun _ => ?_
 refine zk 2 ?_
 obtain ⟨u4, he, h⟩ := aC h
 refine zs he ?_
 clear he
 refine zk 1 ?_
 refine ze [0, 3, 4, 15, 16] ?_
 refine zx fun _ => ?_
 refine zk 3 ?_
 refine zE (I9 u4) ?_
 refine zE (B3 (I2 u4 122)) ?_
 refine zP (.bool (E1 u4 97 122)) ?_
 refine zk 1 ?_
 refine zE (I9 u4) ?_
 refine zE (B3 (I0 u4 65)) ?_
 refine zF [!(E1 u4 97 122)] (B3 (I0 u4 65)) ?_
 refine zE (I9 u4) ?_
 refine zE (B3 (I2 u4 90)) ?_
 refine zP (.bool (E1 u4 65 90)) ?_
 refine zP (.bool ((E1 u4 97 122) || (E1 u4 65 90))) ?_
 refine zk 1 ?_
 refine jY [0, 3, 4, 5, 15, 16] (L2 := [(0, F0 p0), (15, .c (I (ByteArray.size p0 : Int))), A6 16 v3, A6 3 v3, (4, I9 u4), (5, B3 ((E1 u4 97 122) || (E1 u4 65 90)))]) (G2 := []) 22 ?_
 refine zx fun _ => ?_
 refine zk 3 ?_
 refine zE (B7 v3) ?_
 refine zE (B3 (v3 == 0)) ?_
 refine zF [!((E1 u4 97 122) || (E1 u4 65 90))] (B3 (v3 == 0)) ?_
 refine zE (I9 u4) ?_
 refine zE (H9 u4 48) ?_
 refine zF [!((E1 u4 97 122) || (E1 u4 65 90)), !(v3 == 0)] (H9 u4 48) ?_
 refine zE (I9 u4) ?_
 refine zE (J5 u4 57) ?_
 refine zP (.bool (N1 u4)) ?_
 refine zF [!((E1 u4 97 122) || (E1 u4 65 90)), !(v3 == 0)] (B3 (N1 u4)) ?_
 refine zE (I9 u4) ?_
 refine zE (B3 (u4 != 45)) ?_
 refine zP (.bool ((N1 u4) && (u4 != 45))) ?_
 refine zF [!((E1 u4 97 122) || (E1 u4 65 90)), !(v3 == 0)] (B3 ((N1 u4) && (u4 != 45))) ?_
 refine zE (I9 u4) ?_
 refine zE (B3 (u4 != 95)) ?_
 refine zP (.bool (((N1 u4) && (u4 != 45)) && (u4 != 95))) ?_
 refine zP (.bool ((v3 == 0) || (((N1 u4) && (u4 != 45)) && (u4 != 95)))) ?_
 refine zP (.bool ((!((E1 u4 97 122) || (E1 u4 65 90))) && ((v3 == 0) || (((N1 u4) && (u4 != 45)) && (u4 != 95))))) ?_
 refine jY [0, 15, 16, 57] (L2 := [(0, F0 p0), (15, .c (I (ByteArray.size p0 : Int))), A6 16 v3, (57, B3 ((!((E1 u4 97 122) || (E1 u4 65 90))) && ((v3 == 0) || (((N1 u4) && (u4 != 45)) && (u4 != 95)))))]) (G2 := []) 44 ?_
 refine zi h (fun h => ?_) fun h => ?_
 refine za [2] ?_
 cases h
 exact aD zr
 refine aB ?_
 refine aW ?_
 refine zb ?_
 exact dF (zv [] [0, 15, 16] 0) (⟨_, h, rfl⟩)
 exact aH (zv [] [] 0) (bG (hj1 _ h))
def iB  (n : Nat) (p0 : Int) : Option Bool := some ((decide (p0 ≥ 0)) && (decide (p0 < 22)))
theorem pR  (n : Nat) (p0 : Int) (r : Bool) (h : iB n p0 = some r) : cW E 50 0 [B7 p0] [] (B3 r) [] := by
 refine eV Tryz.func50 rfl ?_
 unfold iB at h
 refine za [0] ?_
 refine zx fun _ => ?_
 refine zk 3 ?_
 refine zE (B7 p0) ?_
 refine zE (H9 p0 22) ?_
 refine zP (.bool ((I0 p0 0) && (C1 p0 22))) ?_
 refine zk 1 ?_
 refine ze [2] ?_
 cases h
 exact aD zr
end Go.Proofs.YtojkihhnioeggaaGreatDoor.S
