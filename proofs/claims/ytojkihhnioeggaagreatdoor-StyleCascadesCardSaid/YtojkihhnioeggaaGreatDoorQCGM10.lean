import Derived.Test.YtojkihhnioeggaaGreatDoorQCGM9
set_option linter.unusedVariables false
set_option linter.unusedSimpArgs false
set_option maxRecDepth 100000
set_option maxHeartbeats 4000000
namespace Go.Proofs.YtojkihhnioeggaaGreatDoor.S
open Go Go.Bm
def hP (v57 : Int) (e44 : aR) (j62 : Unit → Option Bool) (y12 : Int) (v56 : Int) (v42 : Int) (p0 : bB) : Nat → Int → Option Bool
 | 0, _ => none
 | n + 1, v65 => (if (decide (v65 < v57)) = true then (idx e44.Kids v65).bind fun (e66 : Int) => (idx e44.Kids v57).bind fun (e67 : Int) => (if (e66 == e67) = true then some false else hP v57 e44 j62 y12 v56 v42 p0 n (IntKind.wrap .i64 (v65 + 1))) else j62 ())
def gY (e44 : aR) (p0 : bB) (y12 : Int) (v42 : Int) (j43 : Int → Option Bool) : Nat → Int → Int → Option Bool
 | 0, _, _ => none
 | n + 1, v56, v57 => (if (decide (v57 < (List.length e44.Kids : Int))) = true then (aS (fun (_ : Unit) => gY e44 p0 y12 v42 j43 n (IntKind.wrap .i64 (v56 + 1)) (IntKind.wrap .i64 (v57 + 1))) (fun (j58 : Unit → Option Bool) => (idx e44.Kids v57).bind fun (e59 : Int) => (kA n p0 e59).bind fun (y60 : Int) => (gd [(!(decide (y60 < 0)))] (idx p0.Nodes y60)).bind fun (e61 : aR) => (if ((decide (y60 < 0)) || (e61.Parent != e44.ID)) = true then some false else (aS (fun (_ : Unit) => j58 ()) (fun (j62 : Unit → Option Bool) => hP v57 e44 j62 y12 v56 v42 p0 n 0))))) else j43 v56)
def fV (p0 : bB) (y12 : Int) (j13 : Int → Option Bool) : Nat → Int → Int → Option Bool
 | 0, _, _ => none
 | n + 1, v41, v42 => (if (decide (v42 < (List.length p0.Nodes : Int))) = true then (aS (fun (v71 : Int) => fV p0 y12 j13 n v71 (IntKind.wrap .i64 (v42 + 1))) (fun (j43 : Int → Option Bool) => (idx p0.Nodes v42).bind fun (e44 : aR) => (if ((e44.Parent == 0) != (v42 == y12)) = true then some false else (if (decide ((List.length e44.Kids : Int) > (List.length p0.Nodes : Int))) = true then some false else gY e44 p0 y12 v42 j43 n v41 0)))) else j13 v41)
def fX (p0 : bB) (j1 : Unit → Option Bool) : Nat → Int → Int → Option Bool
 | 0, _, _ => none
 | n + 1, v5, v6 => (if (decide (v6 < (List.length p0.Nodes : Int))) = true then (idx p0.Nodes v6).bind fun (e7 : aR) => (gd [(!(decide (e7.ID ≤ v5)))] (idx p0.Nodes v6)).bind fun (e8 : aR) => (if ((decide (e7.ID ≤ v5)) || (decide (e8.ID ≥ p0.Next))) = true then some false else (idx p0.Nodes v6).bind fun (e9 : aR) => fX p0 j1 n e9.ID (IntKind.wrap .i64 (v6 + 1))) else j1 ())
def qB  (n : Nat) (p0 : bB) : Option Bool := (if ((((decide (p0.Next < 2)) || (decide (p0.Next > 1099511627776))) || (decide ((List.length p0.Nodes : Int) < 1))) || (decide ((List.length p0.Nodes : Int) > 400))) = true then some false else (aS (fun (_ : Unit) => (kA n p0 p0.Root).bind fun (y12 : Int) => (if (decide (y12 < 0)) = true then some false else (aS (fun (v74 : Int) => (if (v74 != (IntKind.wrap .i64 ((List.length p0.Nodes : Int) - 1))) = true then some false else (iI n p0 p0.Root ([] : List Int)).bind fun (y75 : (List Int)) => some ((List.length y75 : Int) == (List.length p0.Nodes : Int)))) (fun (j13 : Int → Option Bool) => fV p0 y12 j13 n 0 0)))) (fun (j1 : Unit → Option Bool) => fX p0 j1 n 0 0)))
theorem Db  (n : Nat) (p0 : bB) (r : Bool) (h : qB n p0 = some r) : cW E 87 0 [C0 p0] [] (B3 r) [] := by
 refine eV Tryz.func87 rfl ?_
 unfold qB at h
 refine za [1] ?_
 refine aI ?_
 refine zx fun _ => ?_
 refine zk 4 ?_
 refine zE (B9 0 1) ?_
 refine zE (B7 p0.Next) ?_
 refine zE (B3 (G5 p0.Next)) ?_
 refine zP (.bool (J9 p0.Next)) ?_
 refine zk 1 ?_
 refine zE (B9 0 2) ?_
 refine zE (F4 p0.Nodes) ?_
 refine jZ (e := [!(J9 p0.Next)]) [(22, F4 p0.Nodes, some 1)] (v := .c (I (List.length p0.Nodes : Int))) (foot := []) (by kernel_rfl) (by kernel_rfl) (by kernel_rfl) (fun hg => lN (enc := aE) (l := p0.Nodes) (by kernel_rfl)) rfl rfl ?_
 refine zE (.c (Bo (decide ((List.length p0.Nodes : Int) < 1)))) ?_
 refine zP (.bool ((J9 p0.Next) || (decide ((List.length p0.Nodes : Int) < 1)))) ?_
 refine zk 1 ?_
 refine zE (B9 0 2) ?_
 refine zE (F4 p0.Nodes) ?_
 refine jZ (e := [(!((J9 p0.Next) || (decide ((List.length p0.Nodes : Int) < 1))))]) [(28, F4 p0.Nodes, some 1)] (v := .c (I (List.length p0.Nodes : Int))) (foot := []) (by kernel_rfl) (by kernel_rfl) (by kernel_rfl) (fun hg => lN (enc := aE) (l := p0.Nodes) (by kernel_rfl)) rfl rfl ?_
 refine zE (.c (Bo (decide ((List.length p0.Nodes : Int) > 400)))) ?_
 refine zP (.bool (((J9 p0.Next) || (decide ((List.length p0.Nodes : Int) < 1))) || (decide ((List.length p0.Nodes : Int) > 400)))) ?_
 refine jY [1, 31] (L2 := [H3, (31, .c (Bo (((J9 p0.Next) || (decide ((List.length p0.Nodes : Int) < 1))) || (decide ((List.length p0.Nodes : Int) > 400)))))]) (G2 := [I1 0 p0]) 22 ?_
 refine zi h (fun h => ?_) fun h => ?_
 refine za [2] ?_
 cases h
 exact aD zr
 refine aB ?_
 refine za [1, 3] ?_
 refine aQ h (fun A j => ∀ u, j u = some r → A (mk [H3] [I1 0 p0] 1)) (fun u h => ?_) (fun j1 Aj1 hj1 h => ?_)
 refine zx fun _ => ?_
 refine zk 3 ?_
 obtain ⟨y12, he, h⟩ := aC h
 refine zc Wc (qQ n _ _ y12 he) ?_
 clear he
 refine zk 1 ?_
 refine ze [1, 5] ?_
 refine aI ?_
 refine za [1, 5, 69] ?_
 refine zi h (fun h => ?_) fun h => ?_
 refine za [2] ?_
 cases h
 exact aD zr
 refine aB ?_
 refine za [1, 5, 6] ?_
 refine aQ h (fun A j => ∀ v74, j v74 = some r → A (mk [H3, A6 6 v74] [I1 0 p0] 1)) (fun v74 h => ?_) (fun j13 Aj13 hj13 h => ?_)
 refine aI ?_
 refine zx fun _ => ?_
 refine zk 3 ?_
 refine zl aE p0.Nodes ?_
 refine zk 2 ?_
 refine ze [1, 146] ?_
 refine zi h (fun h => ?_) fun h => ?_
 refine za [2] ?_
 cases h
 exact aD zr
 refine aB ?_
 refine xI [[], [], [1], [0, 2, 1], [3, 0, 2, 1], [], [5], [6, 5], [4, 7, 3, 0, 2, 1, 6, 5], [8, 3, 0, 1, 2, 4, 5, 6, 7]] fun _ => ?_
 refine zk 3 ?_
 obtain ⟨y75, he, h⟩ := aC h
 refine tB (F := 80) (As := [C0 p0, B7 p0.Root, .c (cE)]) (Bs := [C0 p0, B7 p0.Root, .c (cE)]) (σ := [(1, 10)]) (k := 0) (kn := 1) (nm := 10) (Gc := []) (Gf := [(1, E7 y75)]) (r := .c (.row 1)) (v := .c (.row 10)) (by kernel_rfl) Wv ⟨.inl (by kernel_rfl), ⟨.inl (by kernel_rfl), ⟨.inr ⟨(by kernel_rfl), (by kernel_rfl)⟩, trivial⟩⟩⟩ (cW.nil1 (vX n _ _ _ y75 he) rfl rfl) (by kernel_rfl) (by kernel_rfl) (by kernel_rfl) (by kernel_rfl) (by kernel_rfl) (by kernel_rfl) rfl rfl rfl ?_
 clear he
 refine cZ (v := .c (I (List.length y75 : Int))) (foot := [10]) (Kp (enc := aN) (l := y75) (n := 10) (by kernel_rfl)) (by kernel_rfl) rfl rfl ?_
 refine zk 2 ?_
 refine zl aE p0.Nodes ?_
 refine zk 2 ?_
 refine ze [2] ?_
 cases h
 exact aD zr
 refine za [1, 5, 6, 7] ?_
 refine aG ?_
 refine bA (fun n s => ∃ v41 v42, fV p0 y12 j13 n v41 v42 = some r ∧ s = mk [H3, A6 5 y12, A6 6 v41, A6 7 v42] [I1 0 p0] 1) n _ (zv [(0, 0)] [1, 5, 6, 7] 1) ⟨_, _, h, rfl⟩ (fun s ⟨v41, v42, h, _⟩ => nomatch h) ?_
 rintro n s ⟨v41, v42, h, rfl⟩
 rw [fV] at h
 refine aI ?_
 refine zx fun _ => ?_
 refine zk 3 ?_
 refine zl aE p0.Nodes ?_
 refine zk 1 ?_
 refine ze [1, 5, 6, 7, 74] ?_
 refine zi h (fun h => ?_) fun h => ?_
 refine aB ?_
 refine aQ h (fun A j => ∀ v71, j v71 = some r → A (mk [H3, A6 5 y12, A6 6 v71, A6 7 v42] [I1 0 p0] 1)) (fun v71 h => ?_) (fun j43 Aj43 hj43 h => ?_)
 refine aW ?_
 refine zb ?_
 exact dF (zv [(0, 0)] [1, 5, 6, 7] 1) (⟨_, _, h, rfl⟩)
 refine aG ?_
 refine zx fun _ => ?_
 refine zk 3 ?_
 obtain ⟨e44, he, h⟩ := aC h
 refine zd aE he ?_
 clear he
 refine zk 3 ?_
 refine ze [1, 5, 6, 7, 8] ?_
 refine aI ?_
 refine za [1, 5, 6, 7, 8, 88] ?_
 refine zi h (fun h => ?_) fun h => ?_
 refine za [2] ?_
 cases h
 exact aD zr
 refine aB ?_
 refine aI ?_
 refine zx fun _ => ?_
 refine zk 2 ?_
 refine zl aN e44.Kids ?_
 refine zk 2 ?_
 refine zl aE p0.Nodes ?_
 refine zk 1 ?_
 refine jY [1, 5, 6, 7, 8, 95] (L2 := [H3, A6 5 y12, A6 6 v41, A6 7 v42, A1 8 11 0, (95, .c (Bo (decide ((List.length e44.Kids : Int) > (List.length p0.Nodes : Int)))))]) (G2 := [I1 0 p0, (11, A9 e44)]) 27 ?_
 refine zi h (fun h => ?_) fun h => ?_
 refine za [2] ?_
 cases h
 exact aD zr
 refine aB ?_
 refine za [1, 5, 6, 7, 8, 9] ?_
 refine aG ?_
 refine bA (fun n s => ∃ v56 v57, gY e44 p0 y12 v42 j43 n v56 v57 = some r ∧ s = mk [H3, A6 5 y12, A6 6 v56, A6 7 v42, A1 8 1 0, A6 9 v57] [I1 0 p0, (1, A9 e44)] 2) n _ (zv [(0, 0), (11, 1)] [1, 5, 6, 7, 8, 9] 2) ⟨_, _, h, rfl⟩ (fun s ⟨v56, v57, h, _⟩ => nomatch h) ?_
 rintro n s ⟨v56, v57, h, rfl⟩
 rw [gY] at h
 refine aI ?_
 refine zx fun _ => ?_
 refine zk 3 ?_
 refine zl aN e44.Kids ?_
 refine zk 1 ?_
 refine ze [1, 5, 6, 7, 8, 9, 100] ?_
 refine zi h (fun h => ?_) fun h => ?_
 refine aB ?_
 refine aQ h (fun A j => ∀ u, j u = some r → A (mk [H3, A6 5 y12, A6 6 (D9 v56 1), A6 7 v42, A1 8 1 0, A6 9 v57] [I1 0 p0, (1, A9 e44)] 2)) (fun u h => ?_) (fun j58 Aj58 hj58 h => ?_)
 refine aW ?_
 refine zb ?_
 exact dF (zv [(0, 0), (1, 1)] [1, 5, 6, 7, 8, 9] 2) (⟨_, _, h, rfl⟩)
 refine aG ?_
 refine xI [[], [], [1], [], [2, 3, 1], [4, 2, 3, 1], [0, 5, 4, 2, 3, 1], [6, 0, 1, 2, 3, 4, 5]] fun _ => ?_
 refine zk 4 ?_
 obtain ⟨e59, he, h⟩ := aC h
 refine zd aN he ?_
 clear he
 refine zk 1 ?_
 obtain ⟨y60, he, h⟩ := aC h
 refine zc Wc (qQ n _ _ y60 he) ?_
 clear he
 refine zk 1 ?_
 refine ze [1, 5, 6, 7, 8, 9, 10] ?_
 refine aI ?_
 refine xI [[], [0], [1, 0], [2, 1, 0], [3, 2, 1, 0], [2, 1, 0], [4, 5, 2, 3, 1, 0], [6, 2, 4, 5, 3, 1, 0], [7, 2, 6, 4, 5, 3, 1, 0], [2, 1, 0], [9, 2, 1, 0], [8, 10, 2, 7, 6, 4, 5, 3, 1, 0, 9], [2, 11, 1, 0, 8, 10, 7, 6, 4, 5, 3, 9]] fun _ => ?_
 refine zk 3 ?_
 refine zE (B9 0 2) ?_
 refine zE (F4 p0.Nodes) ?_
 refine zE (B7 y60) ?_
 obtain ⟨e61, he, h⟩ := aC h
 refine jZ (e := [!(C1 y60 0)]) [(114, F4 p0.Nodes, some 1), (115, B7 y60, some 1)] (v := .c (L6 e61)) (foot := []) (by kernel_rfl) (by kernel_rfl) (by kernel_rfl) (fun hg => dN (enc := aE) (sz := 7) (l := p0.Nodes) (ix := y60) (bR he hg) (by kernel_rfl) (by kernel_rfl) (by kernel_rfl)) rfl rfl ?_
 clear he
 refine zE (.c (.imm [I e61.Parent, I e61.Kind, Sx e61.Key, C7 e61.Attrs, D3 e61.Actions, D4 e61.Kids])) ?_
 refine zE (B7 e61.Parent) ?_
 refine zE (B9 1 0) ?_
 refine zE (B7 e44.ID) ?_
 refine zE (B3 (e61.Parent != e44.ID)) ?_
 refine zP (.bool ((C1 y60 0) || (e61.Parent != e44.ID))) ?_
 refine jY [1, 5, 6, 7, 8, 9, 122] (L2 := [H3, A6 5 y12, A6 6 v56, A6 7 v42, A1 8 1 0, A6 9 v57, (122, B3 ((C1 y60 0) || (e61.Parent != e44.ID)))]) (G2 := [I1 0 p0, (1, A9 e44)]) 28 ?_
 refine zi h (fun h => ?_) fun h => ?_
 refine za [2] ?_
 cases h
 exact aD zr
 refine aB ?_
 refine aQ h (fun A j => ∀ u, j u = some r → A (mk [H3, A6 5 y12, A6 6 v56, A6 7 v42, A1 8 1 0, A6 9 v57] [I1 0 p0, (1, A9 e44)] 2)) (fun u h => ?_) (fun j62 Aj62 hj62 h => ?_)
 refine aW ?_
 refine zb ?_
 exact dF (zv [(0, 0), (1, 1)] [1, 5, 6, 7, 8, 9] 2) (hj58 _ h)
 refine za [1, 5, 6, 7, 8, 9, 11] ?_
 refine aG ?_
 refine bA (fun n s => ∃ v65, hP v57 e44 j62 y12 v56 v42 p0 n v65 = some r ∧ s = mk [H3, A6 5 y12, A6 6 v56, A6 7 v42, A1 8 1 0, A6 9 v57, A6 11 v65] [I1 0 p0, (1, A9 e44)] 2) n _ (zv [(0, 0), (1, 1)] [1, 5, 6, 7, 8, 9, 11] 2) ⟨_, h, rfl⟩ (fun s ⟨v65, h, _⟩ => nomatch h) ?_
 rintro n s ⟨v65, h, rfl⟩
 rw [hP] at h
 refine aI ?_
 refine za [1, 5, 6, 7, 8, 9, 11, 125] ?_
 refine zi h (fun h => ?_) fun h => ?_
 refine aB ?_
 refine aI ?_
 refine aG ?_
 refine xI [[], [0], [], [1, 2, 0], [3, 1, 2, 0], [], [5], [], [6, 7, 5], [8, 6, 7, 5], [4, 9, 3, 1, 2, 0, 8, 6, 7, 5]] fun _ => ?_
 refine zk 3 ?_
 obtain ⟨e66, he, h⟩ := aC h
 refine zd aN he ?_
 clear he
 refine zk 4 ?_
 obtain ⟨e67, he, h⟩ := aC h
 refine zd aN he ?_
 clear he
 refine zk 2 ?_
 refine ze [1, 5, 6, 7, 8, 9, 11, 138] ?_
 refine zi h (fun h => ?_) fun h => ?_
 refine za [2] ?_
 cases h
 exact aD zr
 refine aB ?_
 refine aW ?_
 refine zb ?_
 exact dF (zv [(0, 0), (1, 1)] [1, 5, 6, 7, 8, 9, 11] 2) (⟨_, h, rfl⟩)
 exact aH (zv [(0, 0), (1, 1)] [1, 5, 6, 7, 8, 9] 2) (bG (hj62 _ h))
 exact aH (zv [(0, 0)] [1, 5, 6, 7] 1) (bG (hj43 _ h))
 exact aH (zv [(0, 0)] [1, 6] 1) (bG (hj13 _ h))
 refine za [1, 3, 4] ?_
 refine aG ?_
 refine bA (fun n s => ∃ v5 v6, fX p0 j1 n v5 v6 = some r ∧ s = mk [H3, A6 3 v5, A6 4 v6] [I1 0 p0] 1) n _ (zv [(0, 0)] [1, 3, 4] 1) ⟨_, _, h, rfl⟩ (fun s ⟨v5, v6, h, _⟩ => nomatch h) ?_
 rintro n s ⟨v5, v6, h, rfl⟩
 rw [fX] at h
 refine aI ?_
 refine zx fun _ => ?_
 refine zk 3 ?_
 refine zl aE p0.Nodes ?_
 refine zk 1 ?_
 refine ze [1, 3, 4, 36] ?_
 refine zi h (fun h => ?_) fun h => ?_
 refine aB ?_
 refine aI ?_
 refine aG ?_
 refine aI ?_
 refine xI [[], [0], [], [1, 2, 0], [3, 1, 2, 0], [4, 3, 1, 2, 0], [], [5, 6, 4, 3, 1, 2, 0], [7, 5, 6, 4, 3, 1, 2, 0], [8, 7, 5, 6, 4, 3, 1, 2, 0], [9, 8, 7, 5, 6, 4, 3, 1, 2, 0], [8, 7, 5, 6, 4, 3, 1, 2, 0], [10, 11, 8, 9, 7, 5, 6, 4, 3, 1, 2, 0], [12, 8, 10, 11, 9, 7, 5, 6, 4, 3, 1, 2, 0], [13, 8, 12, 10, 11, 9, 7, 5, 6, 4, 3, 1, 2, 0], [8, 7, 5, 6, 4, 3, 1, 2, 0], [15, 8, 7, 5, 6, 4, 3, 1, 2, 0], [14, 16, 8, 13, 12, 10, 11, 9, 7, 5, 6, 4, 3, 1, 2, 0, 15], [8, 17, 7, 5, 6, 4, 3, 1, 2, 0, 14, 16, 13, 12, 10, 11, 9, 15]] fun _ => ?_
 refine zk 3 ?_
 obtain ⟨e7, he, h⟩ := aC h
 refine zd aE he ?_
 clear he
 refine zk 5 ?_
 refine zE (B9 0 2) ?_
 refine zE (F4 p0.Nodes) ?_
 refine zE (B7 v6) ?_
 obtain ⟨e8, he, h⟩ := aC h
 refine jZ (e := [!(I2 e7.ID v5)]) [(49, F4 p0.Nodes, some 1), (50, B7 v6, some 1)] (v := .c (L6 e8)) (foot := []) (by kernel_rfl) (by kernel_rfl) (by kernel_rfl) (fun hg => dN (enc := aE) (sz := 7) (l := p0.Nodes) (ix := v6) (bR he hg) (by kernel_rfl) (by kernel_rfl) (by kernel_rfl)) rfl rfl ?_
 clear he
 refine zE (.c (L6 e8)) ?_
 refine zE (B7 e8.ID) ?_
 refine zE (B9 0 1) ?_
 refine zE (B7 p0.Next) ?_
 refine zE (B3 (I0 e8.ID p0.Next)) ?_
 refine zP (.bool ((I2 e7.ID v5) || (I0 e8.ID p0.Next))) ?_
 refine jY [1, 4, 57] (L2 := [H3, A6 4 v6, (57, B3 ((I2 e7.ID v5) || (I0 e8.ID p0.Next)))]) (G2 := [I1 0 p0]) 25 ?_
 refine zi h (fun h => ?_) fun h => ?_
 refine za [2] ?_
 cases h
 exact aD zr
 refine aB ?_
 refine zy fun _ => ?_
 refine zk 3 ?_
 obtain ⟨e9, he, h⟩ := aC h
 refine zd aE he ?_
 clear he
 refine zk 3 ?_
 refine bV ?_
 refine aW ?_
 refine zb ?_
 exact dF (zv [(0, 0)] [1, 3, 4] 1) (⟨_, _, h, rfl⟩)
 exact aH (zv [(0, 0)] [1] 1) (bG (hj1 _ h))
def fJ (y1 : aR) (self_ref14_describe : bB → Int → Option aL) (p0 : bB) (j2 : List aL → Option aL) : Nat → Int → List aL → Option aL
 | 0, _, _ => none
 | n + 1, v7, v8 => (if (decide (v7 < (List.length y1.Kids : Int))) = true then (idx y1.Kids v7).bind fun (e9 : Int) => (self_ref14_describe p0 e9).bind fun (y10 : aL) => (pV 96 v8 [y10]).bind fun (l11 : List aL) => fJ y1 self_ref14_describe p0 j2 n (IntKind.wrap .i64 (v7 + 1)) l11 else j2 v8)
def jU (self_ref14_describe : bB → Int → Option aL) (n : Nat) (p0 : bB) (p1 : Int) : Option aL := (iQ n p0 p1).bind fun (y1 : aR) => (aS (fun (v15 : List aL) => some (aL.mk y1.Kind y1.Key y1.Attrs y1.Actions v15)) (fun (j2 : List aL → Option aL) => fJ y1 self_ref14_describe p0 j2 n 0 ([] : List aL)))
theorem tV (self_ref14_describe : bB → Int → Option aL) (ih_ref14_describe : ∀ (p0 : bB) (p1 : Int) (r : aL), self_ref14_describe p0 p1 = some r → cW E 88 0 [C0 p0, B7 p1] [] (B2 r) []) (n : Nat) (p0 : bB) (p1 : Int) (r : aL) (h : jU self_ref14_describe n p0 p1 = some r) : cW E 88 0 [C0 p0, B7 p1] [] (B2 r) [] := by
 refine eV Tryz.func88 rfl ?_
 unfold jU at h
 refine za [1, 2, 4] ?_
 refine zx fun _ => ?_
 refine zk 2 ?_
 obtain ⟨y1, he, h⟩ := aC h
 refine zc Mg (mZ n _ _ y1 he) ?_
 clear he
 refine zk 2 ?_
 refine ze [2, 4, 5] ?_
 refine za [2, 4, 5, 6] ?_
 refine aQ h (fun A j => ∀ v15, j v15 = some r → A (mk [I7, M9] [(0, .blk 70 [I 0, Sx (⟨#[]⟩ : ByteArray), cE, cE, cE]), (1, .blk 70 [I y1.Kind, Sx y1.Key, C7 y1.Attrs, D3 y1.Actions, K4 2 v15]), C4 2 70 5 v15] 3)) (fun v15 h => ?_) (fun j2 Aj2 hj2 h => ?_)
 refine za [4] ?_
 cases h
 exact aD zr
 refine za [2, 4, 5, 6, 7] ?_
 refine aG ?_
 refine bA (fun n s => ∃ v7 v8, fJ y1 self_ref14_describe p0 j2 n v7 v8 = some r ∧ s = mk [J0, H8, A1 5 2 0, A1 6 3 0, A6 7 v7] [I1 0 p0, (1, .blk 70 [I 0, Sx (⟨#[]⟩ : ByteArray), cE, cE, cE]), (2, A9 y1), (3, .blk 70 [I y1.Kind, Sx y1.Key, C7 y1.Attrs, D3 y1.Actions, K4 4 v8]), C4 4 70 5 v8] 5) n _ (dT.trans (lF (n := 16) (T0 := 70) (l := [I y1.Kind, Sx y1.Key, C7 y1.Attrs, D3 y1.Actions, cE]) (G2 := [I1 0 p0, (1, .blk 70 [I 0, Sx (⟨#[]⟩ : ByteArray), cE, cE, cE]), (5, A9 y1), (16, .blk 70 [I y1.Kind, Sx y1.Key, C7 y1.Attrs, D3 y1.Actions, .app 19 (List.map bC ([] : List aL))]), (19, .tok 70 5 (List.length ([] : List aL)))]) (lim2 := 20) 4 70 5 (by kernel_rfl) (by kernel_rfl) (by kernel_rfl) (by kernel_rfl)) (zv [(0, 0), (1, 1), (5, 2), (16, 3), (19, 4)] [2, 4, 5, 6, 7] 5)) ⟨_, _, h, rfl⟩ (fun s ⟨v7, v8, h, _⟩ => nomatch h) ?_
 rintro n s ⟨v7, v8, h, rfl⟩
 rw [fJ] at h
 refine aI ?_
 refine zx fun _ => ?_
 refine zk 3 ?_
 refine zl aN y1.Kids ?_
 refine zk 1 ?_
 refine ze [2, 4, 5, 6, 7, 24] ?_
 refine zi h (fun h => ?_) fun h => ?_
 refine aB ?_
 refine aI ?_
 refine aG ?_
 refine Rg [[], [0], [], [], [3], [], [4, 5, 3], [6, 4, 5, 3], [2, 7, 6, 4, 5, 3], [8, 2, 7, 6, 4, 5, 3], [1, 9, 8, 0, 2, 7, 6, 4, 5, 3], [0, 1, 2, 3, 4, 5, 6, 7, 8, 9, 10], [11, 10, 0, 1, 2, 3, 4, 5, 6, 7, 8, 9]] fun _ => ?_
 refine zk 6 ?_
 obtain ⟨e9, he, h⟩ := aC h
 refine zd aN he ?_
 clear he
 refine zk 1 ?_
 obtain ⟨y10, he, h⟩ := aC h
 refine zc fok88 (ih_ref14_describe _ _ y10 he) ?_
 clear he
 refine qR (e := 70) (sz := 5) (len := 1) (r := [I y10.Kind, Sx y10.Key, C7 y10.Attrs, D3 y10.Actions, G6 y10.Kids]) (l' := List.map bC [y10]) (nm := 19) (by kernel_rfl) (by simp only [List.map_cons, List.map_nil, gD]; kernel_rfl) (by kernel_rfl) (by kernel_rfl) rfl rfl rfl ?_
 obtain ⟨l11, he, h⟩ := aC h
 refine cH (enc := bC) (l := v8) (els := [y10]) (r := l11) (old := some 4) (e := 70) (sz := 5) (bytes := 96) (k := (H1 v8)) (nm := 20) he (by kernel_rfl) (by kernel_rfl) (fun x => by rw [gD]; rfl) (by kernel_rfl) (by kernel_rfl) rfl rfl rfl ?_
 clear he
 refine zk 2 ?_
 refine bV ?_
 refine aW ?_
 refine zb ?_
 exact dF (zv [(0, 0), (1, 1), (2, 2), (3, 3), (20, 4)] [2, 4, 5, 6, 7] 5) (⟨_, _, h, rfl⟩)
 exact aH (zv [(1, 0), (3, 1), (4, 2)] [4, 6] 3) (bG (hj2 _ h))
def gQ : Nat → bB → Int → Option aL
 | 0, _, _ => none
 | n + 1, p0, p1 => jU (fun a0 a1 => gQ n a0 a1) n p0 p1
theorem zD (n : Nat) : (∀ (p0 : bB) (p1 : Int) (r : aL), gQ n p0 p1 = some r → cW E 88 0 [C0 p0, B7 p1] [] (B2 r) []) := by
 induction n with
 | zero => intro p0 p1 r h; rw [gQ] at h; cases h
 | succ n ih => intro p0 p1 r h; rw [gQ] at h; exact tV _ ih n _ _ r h
def nF  (n : Nat) (p0 : bB) : Option Int := (qB n p0).bind fun (y1 : Bool) => (if (!y1) = true then some 12 else (gQ n p0 p0.Root).bind fun (y2 : aL) => (iR n y2).bind fun (y3 : Int) => some y3)
theorem vJ  (n : Nat) (p0 : bB) (r : Int) (h : nF n p0 = some r) : cW E 52 0 [C0 p0] [] (B7 r) [] := by
 refine eV Tryz.func52 rfl ?_
 unfold nF at h
 refine za [1] ?_
 refine aI ?_
 refine zx fun _ => ?_
 refine zk 1 ?_
 obtain ⟨y1, he, h⟩ := aC h
 refine zc fok87 (Db n _ y1 he) ?_
 clear he
 refine zk 1 ?_
 refine ze [1, 5] ?_
 refine zi h (fun h => ?_) fun h => ?_
 refine za [2] ?_
 cases h
 exact aD zr
 refine aB ?_
 refine zx fun _ => ?_
 refine zk 3 ?_
 obtain ⟨y2, he, h⟩ := aC h
 refine zc fok88 (zD n _ _ y2 he) ?_
 clear he
 obtain ⟨y3, he, h⟩ := aC h
 refine zc Yv (nQ n _ y3 he) ?_
 clear he
 refine zk 1 ?_
 refine ze [2] ?_
 cases h
 exact aD zr
def oW  (n : Nat) (p0 : bK) (p1 : bS) (p2 : cQ) (p3 : bB) : Option Int := (lU n p0).bind fun (y1 : Int) => (if (y1 != 0) = true then some y1 else (mC n p1).bind fun (y2 : Int) => (if (y2 != 0) = true then some y2 else (if ((decide (p2.Scale < 50)) || (decide (p2.Scale > 400))) = true then some 1 else (nF n p3).bind fun (y3 : Int) => some y3)))
theorem Ao  (n : Nat) (p0 : bK) (p1 : bS) (p2 : cQ) (p3 : bB) (r : Int) (h : oW n p0 p1 p2 p3 = some r) : cW E 43 0 [.agg [C5 p0.Rules], .agg [F8 p1.Tokens], F9 p2, C0 p3] [] (B7 r) [] := by
 refine eV Tryz.func43 rfl ?_
 unfold oW at h
 refine za [4, 5, 6, 7] ?_
 refine aI ?_
 refine zx fun _ => ?_
 refine zk 1 ?_
 obtain ⟨y1, he, h⟩ := aC h
 refine zc fok78 (zL n _ y1 he) ?_
 clear he
 refine zk 1 ?_
 refine ze [5, 6, 7, 9] ?_
 refine za [5, 6, 7, 9, 14] ?_
 refine zi h (fun h => ?_) fun h => ?_
 refine za [8] ?_
 cases h
 exact aD zr
 refine aB ?_
 refine aI ?_
 refine zx fun _ => ?_
 refine zk 1 ?_
 obtain ⟨y2, he, h⟩ := aC h
 refine zc fok79 (Ac n _ y2 he) ?_
 clear he
 refine zk 1 ?_
 refine ze [6, 7, 10] ?_
 refine za [6, 7, 10, 19] ?_
 refine zi h (fun h => ?_) fun h => ?_
 refine za [8] ?_
 cases h
 exact aD zr
 refine aB ?_
 refine aI ?_
 refine zx fun _ => ?_
 refine zk 4 ?_
 refine zE (B9 2 2) ?_
 refine zE (B7 p2.Scale) ?_
 refine zE (J5 p2.Scale 400) ?_
 refine zP (.bool (A3 p2.Scale 50 400)) ?_
 refine jY [7, 28] (L2 := [A1 7 3 0, (28, B3 (A3 p2.Scale 50 400))]) (G2 := [F2 p0.Rules, M1 p1.Tokens, M2 p2, I1 3 p3]) 23 ?_
 refine zi h (fun h => ?_) fun h => ?_
 refine za [8] ?_
 cases h
 exact aD zr
 refine aB ?_
 refine zx fun _ => ?_
 refine zk 1 ?_
 obtain ⟨y3, he, h⟩ := aC h
 refine zc fok52 (vJ n _ y3 he) ?_
 clear he
 refine zk 1 ?_
 refine ze [8] ?_
 cases h
 exact aD zr
def pH  (n : Nat) (p0 : bB) : Option (List Int) := (nF n p0).bind fun (y1 : Int) => (if (y1 != 0) = true then some ([] : List Int) else (iI n p0 p0.Root ([] : List Int)).bind fun (y2 : (List Int)) => some y2)
theorem Ej  (n : Nat) (p0 : bB) (r : (K3)) (h : pH n p0 = some r) : cW E 44 0 [C0 p0] [] (.c (D4 r)) [] := by
 refine eV Tryz.func44 rfl ?_
 unfold pH at h
 refine za [1] ?_
 refine aI ?_
 refine zx fun _ => ?_
 refine zk 1 ?_
 obtain ⟨y1, he, h⟩ := aC h
 refine zc fok52 (vJ n _ y1 he) ?_
 clear he
 refine zk 1 ?_
 refine ze [1, 5] ?_
 refine zi h (fun h => ?_) fun h => ?_
 refine za [2] ?_
 cases h
 exact aD zr
 refine aB ?_
 refine zx fun _ => ?_
 refine zk 3 ?_
 obtain ⟨y2, he, h⟩ := aC h
 refine tB (F := 80) (As := [C0 p0, B7 p0.Root, .c (cE)]) (Bs := [C0 p0, B7 p0.Root, .c (cE)]) (σ := [(1, 8)]) (k := 0) (kn := 1) (nm := 8) (Gc := []) (Gf := [(1, E7 y2)]) (r := .c (.row 1)) (v := .c (.row 8)) (by kernel_rfl) Wv ⟨.inl (by kernel_rfl), ⟨.inl (by kernel_rfl), ⟨.inr ⟨(by kernel_rfl), (by kernel_rfl)⟩, trivial⟩⟩⟩ (cW.nil1 (vX n _ _ _ y2 he) rfl rfl) (by kernel_rfl) (by kernel_rfl) (by kernel_rfl) (by kernel_rfl) (by kernel_rfl) (by kernel_rfl) rfl rfl rfl ?_
 clear he
 refine zk 1 ?_
 refine ze [2] ?_
 refine aH (sW 8 (T := 3) (sz := 1) (l := List.map aN y2) (L2 := [J6 2 y2]) (G2 := [I1 0 p0]) (by kernel_rfl) (by kernel_rfl) (by kernel_rfl)) ?_
 cases h
 exact aD zr
def jR (p0 : (List bD)) (p1 : Int) (j1 : Unit → Option aA) : Nat → Int → Option aA
 | 0, _ => none
 | n + 1, v4 => (if (decide (v4 < (List.length p0 : Int))) = true then (idx p0 v4).bind fun (e5 : bD) => (if (e5.ID == p1) = true then (idx p0 v4).bind fun (e6 : bD) => some e6.Style else jR p0 p1 j1 n (IntKind.wrap .i64 (v4 + 1))) else j1 ())
def qN  (n : Nat) (p0 : (List bD)) (p1 : Int) : Option aA := (aS (fun (_ : Unit) => some (aA.mk 0 0 0 0 0 0 0 0 0 0 0 0 0 0 0 0 0 0 0 0 0 0)) (fun (j1 : Unit → Option aA) => jR p0 p1 j1 n 0))
theorem Hk  (n : Nat) (p0 : (List bD)) (p1 : Int) (r : aA) (h : qN n p0 p1 = some r) : cW E 47 0 [E6 p0, B7 p1] [] (C3 r) [] := by
 refine eV Tryz.func47 rfl ?_
 unfold qN at h
 refine za [0, 1, 4] ?_
 refine aQ h (fun A j => ∀ u, j u = some r → A (mk [I7] [(0, A7)] 1)) (fun u h => ?_) (fun j1 Aj1 hj1 h => ?_)
 refine za [4] ?_
 cases h
 exact aD zr
 refine za [0, 1, 4, 5] ?_
 refine aG ?_
 refine bA (fun n s => ∃ v4, jR p0 p1 j1 n v4 = some r ∧ s = mk [(0, E6 p0), A6 1 p1, I7, A6 5 v4] [(0, A7)] 1) n _ (zv [(0, 0)] [0, 1, 4, 5] 1) ⟨_, h, rfl⟩ (fun s ⟨v4, h, _⟩ => nomatch h) ?_
 rintro n s ⟨v4, h, rfl⟩
 rw [jR] at h
 refine aI ?_
 refine zx fun _ => ?_
 refine zk 2 ?_
 refine zl bM p0 ?_
 refine zk 1 ?_
 refine ze [0, 1, 4, 5, 9] ?_
 refine zi h (fun h => ?_) fun h => ?_
 refine aB ?_
 refine aI ?_
 refine aG ?_
 refine zx fun _ => ?_
 refine zk 2 ?_
 obtain ⟨e5, he, h⟩ := aC h
 refine zd bM he ?_
 clear he
 refine zk 4 ?_
 refine ze [0, 1, 4, 5, 18] ?_
 refine zi h (fun h => ?_) fun h => ?_
 refine zx fun _ => ?_
 refine zk 2 ?_
 obtain ⟨e6, he, h⟩ := aC h
 refine zd bM he ?_
 clear he
 refine zk 3 ?_
 refine ze [4] ?_
 cases h
 exact aD zr
 refine aB ?_
 refine aW ?_
 refine zb ?_
 exact dF (zv [(0, 0)] [0, 1, 4, 5] 1) (⟨_, h, rfl⟩)
 exact aH (zv [(0, 0)] [4] 1) (bG (hj1 _ h))
def lE  (n : Nat)  : Option aA := some (aA.mk 0 (-1 : Int) 16 0 0 1 3 0 0 0 0 1 (-1 : Int) 0 1048576 0 1048576 0 0 0 0 0)
theorem rZ  (n : Nat)  (r : aA) (h : lE n  = some r) : cW E 81 0 [] [] (C3 r) [] := by
 refine eV Tryz.func81 rfl ?_
 unfold lE at h
 refine za [0] ?_
 refine za [0, 1] ?_
 refine za [0, 1] ?_
 refine za [0, 1] ?_
 refine za [0, 1] ?_
 refine za [0, 1] ?_
 refine za [0, 1] ?_
 refine za [0, 1] ?_
 refine za [0, 1] ?_
 refine za [0, 1] ?_
 refine za [0] ?_
 cases h
 exact aD zr
def iZ  (n : Nat) (p0 : Int) : Option Bool := (aS (fun (v2 : Bool) => (if v2 = true then some true else some false)) (fun (j1 : Bool → Option Bool) => (if (p0 == 0) = true then j1 (p0 == 0) else (if (p0 == 2) = true then j1 (p0 == 2) else (if (p0 == 3) = true then j1 (p0 == 3) else (if (p0 == 4) = true then j1 (p0 == 4) else (if (p0 == 8) = true then j1 (p0 == 8) else j1 (p0 == 21))))))))
theorem yB  (n : Nat) (p0 : Int) (r : Bool) (h : iZ n p0 = some r) : cW E 82 0 [B7 p0] [] (B3 r) [] := by
 refine eV Tryz.func82 rfl ?_
 unfold iZ at h
 refine za [0] ?_
 refine aI ?_
 refine za [3] ?_
 refine aG ?_
 refine aQ h (fun A j => ∀ v2, j v2 = some r → A (mk [J3 4 v2] [] 0)) (fun v2 h => ?_) (fun j1 Aj1 hj1 h => ?_)
 refine zi h (fun h => ?_) fun h => ?_
 refine za [2] ?_
 cases h
 exact aD zr
 refine aB ?_
 refine za [2] ?_
 cases h
 exact aD zr
 refine za [3, 4] ?_
 refine zi h (fun h => ?_) fun h => ?_
 exact aH (zv [] [4] 0) (aB (hj1 _ h))
 refine za [3, 4] ?_
 refine zi h (fun h => ?_) fun h => ?_
 exact aH (zv [] [4] 0) (aB (hj1 _ h))
 refine za [3, 4] ?_
 refine zi h (fun h => ?_) fun h => ?_
 exact aH (zv [] [4] 0) (aB (hj1 _ h))
 refine za [3, 4] ?_
 refine zi h (fun h => ?_) fun h => ?_
 exact aH (zv [] [4] 0) (aB (hj1 _ h))
 refine za [3, 4] ?_
 refine zi h (fun h => ?_) fun h => ?_
 exact aH (zv [] [4] 0) (aB (hj1 _ h))
 refine aW ?_
 refine zb ?_
 exact dF (zv [] [4] 0) (hj1 _ h)
def eR (p0 : bZ) (j5 : Int → Option (Int × Int)) : Nat → Int → Int → Option (Int × Int)
 | 0, _, _ => none
 | n + 1, v8, v9 => (if (decide (v9 ≤ 16)) = true then (aS (fun (v11 : Int) => eR p0 j5 n v11 (IntKind.wrap .i64 (v9 * 2))) (fun (j10 : Int → Option (Int × Int)) => (if ((jW .i64 p0.States v9) != 0) = true then j10 (IntKind.wrap .i64 (v8 + 1)) else j10 v8))) else j5 v8)
def kM  (n : Nat) (p0 : bZ) : Option (Int × Int) := (aS (fun (v2 : Int) => (aS (fun (v4 : Int) => (aS (fun (v14 : Int) => (aS (fun (v16 : Int) => (aS (fun (v18 : Int) => some (v14, v18)) (fun (j17 : Int → Option (Int × Int)) => (if (p0.UnderKind != 0) = true then j17 (IntKind.wrap .i64 (v16 + 1)) else j17 v16)))) (fun (j15 : Int → Option (Int × Int)) => (if (p0.Kind != 0) = true then j15 (IntKind.wrap .i64 (0 + 1)) else j15 0)))) (fun (j5 : Int → Option (Int × Int)) => eR p0 j5 n v4 1))) (fun (j3 : Int → Option (Int × Int)) => (if (!(bQ p0.UnderClass (⟨#[]⟩ : ByteArray))) = true then j3 (IntKind.wrap .i64 (v2 + 1)) else j3 v2)))) (fun (j1 : Int → Option (Int × Int)) => (if (!(bQ p0.Class (⟨#[]⟩ : ByteArray))) = true then j1 (IntKind.wrap .i64 (0 + 1)) else j1 0)))
theorem Dc  (n : Nat) (p0 : bZ) (r : (O6)) (h : kM n p0 = some r) : cW E 83 0 [D7 p0] [] (.tup [B7 r.1, B7 r.2]) [] := by
 refine eV Tryz.func83 rfl ?_
 unfold kM at h
 refine za [1] ?_
 refine za [1, 4, 5] ?_
 refine aQ h (fun A j => ∀ v2, j v2 = some r → A (mk [H3, A6 4 v2, I5 5] [K5 0 p0] 1)) (fun v2 h => ?_) (fun j1 Aj1 hj1 h => ?_)
 refine aQ h (fun A j => ∀ v4, j v4 = some r → A (mk [H3, A6 4 v4, I5 5] [K5 0 p0] 1)) (fun v4 h => ?_) (fun j3 Aj3 hj3 h => ?_)
 refine aQ h (fun A j => ∀ v14, j v14 = some r → A (mk [H3, A6 4 v14, I5 5] [K5 0 p0] 1)) (fun v14 h => ?_) (fun j5 Aj5 hj5 h => ?_)
 refine aQ h (fun A j => ∀ v16, j v16 = some r → A (mk [H3, A6 4 v14, A6 5 v16] [K5 0 p0] 1)) (fun v16 h => ?_) (fun j15 Aj15 hj15 h => ?_)
 refine aQ h (fun A j => ∀ v18, j v18 = some r → A (mk [A6 4 v14, A6 5 v18] [] 0)) (fun v18 h => ?_) (fun j17 Aj17 hj17 h => ?_)
 refine za [2, 3] ?_
 cases h
 exact aD zr
 refine za [4, 5, 35] ?_
 refine zi h (fun h => ?_) fun h => ?_
 refine aW ?_
 refine zb ?_
 exact dF (zv [] [4, 5] 0) (hj17 _ h)
 exact aH (zv [] [4, 5] 0) (aB (hj17 _ h))
 refine za [1, 4, 5, 30] ?_
 refine zi h (fun h => ?_) fun h => ?_
 refine aW ?_
 refine zb ?_
 exact dF (zv [(0, 0)] [1, 4, 5] 1) (hj15 _ h)
 exact aH (zv [(0, 0)] [1, 4, 5] 1) (aB (hj15 _ h))
 refine za [1, 4, 5, 6] ?_
 refine aG ?_
 refine bA (fun n s => ∃ v8 v9, eR p0 j5 n v8 v9 = some r ∧ s = mk [H3, A6 4 v8, I5 5, A6 6 v9] [K5 0 p0] 1) n _ (zv [(0, 0)] [1, 4, 5, 6] 1) ⟨_, _, h, rfl⟩ (fun s ⟨v8, v9, h, _⟩ => nomatch h) ?_
 rintro n s ⟨v8, v9, h, rfl⟩
 rw [eR] at h
 refine aI ?_
 refine za [1, 4, 5, 6, 18] ?_
 refine zi h (fun h => ?_) fun h => ?_
 refine aB ?_
 refine aQ h (fun A j => ∀ v11, j v11 = some r → A (mk [H3, A6 4 v11, I5 5, A6 6 v9] [K5 0 p0] 1)) (fun v11 h => ?_) (fun j10 Aj10 hj10 h => ?_)
 refine aW ?_
 refine zb ?_
 exact dF (zv [(0, 0)] [1, 4, 5, 6] 1) (⟨_, _, h, rfl⟩)
 refine aG ?_
 refine za [1, 4, 5, 6, 25] ?_
 refine zi h (fun h => ?_) fun h => ?_
 refine aW ?_
 refine zb ?_
 exact dF (zv [(0, 0)] [1, 4, 5, 6] 1) (hj10 _ h)
 exact aH (zv [(0, 0)] [1, 4, 5, 6] 1) (aB (hj10 _ h))
 exact aH (zv [(0, 0)] [1, 4, 5] 1) (bG (hj5 _ h))
 refine za [1, 4, 5, 14] ?_
 refine zi h (fun h => ?_) fun h => ?_
 refine aW ?_
 refine zb ?_
 exact dF (zv [(0, 0)] [1, 4, 5] 1) (hj3 _ h)
 exact aH (zv [(0, 0)] [1, 4, 5] 1) (aB (hj3 _ h))
 refine za [1, 4, 5, 9] ?_
 refine zi h (fun h => ?_) fun h => ?_
 refine aW ?_
 refine zb ?_
 exact dF (zv [(0, 0)] [1, 4, 5] 1) (hj1 _ h)
 exact aH (zv [(0, 0)] [1, 4, 5] 1) (aB (hj1 _ h))
def iH (p0 : (List bF)) (p1 : ByteArray) (j1 : Unit → Option (aJ × Bool)) : Nat → Int → Option (aJ × Bool)
 | 0, _ => none
 | n + 1, v4 => (if (decide (v4 < (List.length p0 : Int))) = true then (idx p0 v4).bind fun (e5 : bF) => (if (bQ e5.Name p1) = true then (idx p0 v4).bind fun (e6 : bF) => some (e6.Value, true) else iH p0 p1 j1 n (IntKind.wrap .i64 (v4 + 1))) else j1 ())
def uB  (n : Nat) (p0 : (List bF)) (p1 : ByteArray) : Option (aJ × Bool) := (aS (fun (_ : Unit) => some ((aJ.mk 0 0 (⟨#[]⟩ : ByteArray) ([] : List aJ)), false)) (fun (j1 : Unit → Option (aJ × Bool)) => iH p0 p1 j1 n 0))
theorem Hg  (n : Nat) (p0 : (List bF)) (p1 : ByteArray) (r : (aJ × Bool)) (h : uB n p0 p1 = some r) : cW E 92 0 [.c (C7 p0), F0 p1] [] (.tup [B8 r.1, B3 r.2]) [] := by
 refine eV Tryz.func92 rfl ?_
 unfold uB at h
 refine za [0, 1, 4] ?_
 refine aQ h (fun A j => ∀ u, j u = some r → A (mk [I7] [(0, .blk 152 [I 0, I 0, Sx (⟨#[]⟩ : ByteArray), cE])] 1)) (fun u h => ?_) (fun j1 Aj1 hj1 h => ?_)
 refine za [4, 5] ?_
 cases h
 exact aD zr
 refine za [0, 1, 4, 6] ?_
 refine aG ?_
 refine bA (fun n s => ∃ v4, iH p0 p1 j1 n v4 = some r ∧ s = mk [(0, .c (C7 p0)), (1, F0 p1), I7, A6 6 v4] [(0, .blk 152 [I 0, I 0, Sx (⟨#[]⟩ : ByteArray), cE])] 1) n _ (zv [(0, 0)] [0, 1, 4, 6] 1) ⟨_, h, rfl⟩ (fun s ⟨v4, h, _⟩ => nomatch h) ?_
 rintro n s ⟨v4, h, rfl⟩
 rw [iH] at h
 refine aI ?_
 refine zx fun _ => ?_
 refine zk 2 ?_
 refine zl aM p0 ?_
 refine zk 1 ?_
 refine ze [0, 1, 4, 6, 10] ?_
 refine zi h (fun h => ?_) fun h => ?_
 refine aB ?_
 refine aI ?_
 refine aG ?_
 refine zx fun _ => ?_
 refine zk 2 ?_
 obtain ⟨e5, he, h⟩ := aC h
 refine zd aM he ?_
 clear he
 refine zk 4 ?_
 refine ze [0, 1, 4, 6, 19] ?_
 refine zi h (fun h => ?_) fun h => ?_
 refine zx fun _ => ?_
 refine zk 2 ?_
 obtain ⟨e6, he, h⟩ := aC h
 refine zd aM he ?_
 clear he
 refine zk 4 ?_
 refine ze [4, 5] ?_
 cases h
 exact aD zr
 refine aB ?_
 refine aW ?_
 refine zb ?_
 exact dF (zv [(0, 0)] [0, 1, 4, 6] 1) (⟨_, h, rfl⟩)
 exact aH (zv [(0, 0)] [4] 1) (bG (hj1 _ h))
def uG  (n : Nat) (p0 : (List bF)) (p1 : ByteArray) : Option ByteArray := (uB n p0 p1).bind fun (y1 : (aJ × Bool)) => (if (y1.1.Kind != 3) = true then some (⟨#[]⟩ : ByteArray) else some y1.1.S)
theorem Ic  (n : Nat) (p0 : (List bF)) (p1 : ByteArray) (r : ByteArray) (h : uG n p0 p1 = some r) : cW E 113 0 [.c (C7 p0), F0 p1] [] (F0 r) [] := by
 refine eV Tryz.func113 rfl ?_
 unfold uG at h
 refine za [0, 1] ?_
 refine zx fun _ => ?_
 refine zk 2 ?_
 obtain ⟨y1, he, h⟩ := aC h
 refine zc fok92 (Hg n _ _ y1 he) ?_
 clear he
 refine zk 6 ?_
 refine ze [5] ?_
 refine aI ?_
 refine za [5, 15] ?_
 refine zi h (fun h => ?_) fun h => ?_
 refine za [4] ?_
 cases h
 exact aD zr
 refine aB ?_
 refine za [4] ?_
 cases h
 exact aD zr
def nJ  (n : Nat) (p0 : aR) : Option ByteArray := (uG n p0.Attrs (⟨#[99, 108, 97, 115, 115]⟩ : ByteArray)).bind fun (y1 : ByteArray) => some y1
theorem vZ  (n : Nat) (p0 : aR) (r : ByteArray) (h : nJ n p0 = some r) : cW E 89 0 [B5 p0] [] (F0 r) [] := by
 refine eV Tryz.func89 rfl ?_
 unfold nJ at h
 refine za [1] ?_
 refine zx fun _ => ?_
 refine zk 2 ?_
 obtain ⟨y1, he, h⟩ := aC h
 refine zc fok113 (Ic n _ _ y1 he) ?_
 clear he
 refine zk 1 ?_
 refine ze [2] ?_
 cases h
 exact aD zr
def gX (p0 : (List aT)) (p1 : Int) (j1 : Unit → Option Int) : Nat → Int → Option Int
 | 0, _ => none
 | n + 1, v4 => (if (decide (v4 < (List.length p0 : Int))) = true then (idx p0 v4).bind fun (e5 : aT) => (if (e5.ID == p1) = true then (idx p0 v4).bind fun (e6 : aT) => some e6.States else gX p0 p1 j1 n (IntKind.wrap .i64 (v4 + 1))) else j1 ())
def nS  (n : Nat) (p0 : (List aT)) (p1 : Int) : Option Int := (aS (fun (_ : Unit) => some 0) (fun (j1 : Unit → Option Int) => gX p0 p1 j1 n 0))
theorem Cx  (n : Nat) (p0 : (List aT)) (p1 : Int) (r : Int) (h : nS n p0 p1 = some r) : cW E 90 0 [D6 p0, B7 p1] [] (B7 r) [] := by
 refine eV Tryz.func90 rfl ?_
 unfold nS at h
 refine za [0, 1] ?_
 refine aQ h (fun A j => ∀ u, j u = some r → A (N7)) (fun u h => ?_) (fun j1 Aj1 hj1 h => ?_)
 refine za [4] ?_
 cases h
 exact aD zr
 refine za [0, 1, 5] ?_
 refine aG ?_
 refine bA (fun n s => ∃ v4, gX p0 p1 j1 n v4 = some r ∧ s = mk [(0, D6 p0), A6 1 p1, A6 5 v4] [] 0) n _ (zv [] [0, 1, 5] 0) ⟨_, h, rfl⟩ (fun s ⟨v4, h, _⟩ => nomatch h) ?_
 rintro n s ⟨v4, h, rfl⟩
 rw [gX] at h
 refine aI ?_
 refine zx fun _ => ?_
 refine zk 2 ?_
 refine zl aV p0 ?_
 refine zk 1 ?_
 refine ze [0, 1, 5, 9] ?_
 refine zi h (fun h => ?_) fun h => ?_
 refine aB ?_
 refine aI ?_
 refine aG ?_
 refine zx fun _ => ?_
 refine zk 2 ?_
 obtain ⟨e5, he, h⟩ := aC h
 refine zd aV he ?_
 clear he
 refine zk 4 ?_
 refine ze [0, 1, 5, 18] ?_
 refine zi h (fun h => ?_) fun h => ?_
 refine zx fun _ => ?_
 refine zk 2 ?_
 obtain ⟨e6, he, h⟩ := aC h
 refine zd aV he ?_
 clear he
 refine zk 3 ?_
 refine ze [4] ?_
 cases h
 exact aD zr
 refine aB ?_
 refine aW ?_
 refine zb ?_
 exact dF (zv [] [0, 1, 5] 0) (⟨_, h, rfl⟩)
 exact aH (zv [] [] 0) (bG (hj1 _ h))
end Go.Proofs.YtojkihhnioeggaaGreatDoor.S
