import Derived.Test.YtojkihhnioeggaaGreatDoorQMGJ3
set_option linter.unusedVariables false
set_option linter.unusedSimpArgs false
set_option maxRecDepth 100000
set_option maxHeartbeats 4000000
namespace Go.Proofs.YtojkihhnioeggaaGreatDoor.S
open Go Go.Bm
def iO (e29 : aR) (v10 : List (Int × aR)) (j28 : List (Int × Bool) → Option ((List (Int × aR)) × Bool)) (p0 : bC) (v26 : Int) : Nat → Int → List (Int × Bool) → Option ((List (Int × aR)) × Bool)
 | 0, _, _ => none
 | n + 1, v33, v34 => (if (decide (v33 < (List.length e29.Kids : Int))) = true then (idx e29.Kids v33).bind fun (e35 : Int) => (some (gN e35 v10, jF e35 v10)).bind fun (y36 : (aR × Bool)) => (gd [(!((!y36.2) || (y36.1.Parent != e29.ID)))] (some (gN e35 v34, jF e35 v34))).bind fun (y37 : (Bool × Bool)) => (if (((!y36.2) || (y36.1.Parent != e29.ID)) || y37.1) = true then some (([] : List (Int × aR)), false) else iO e29 v10 j28 p0 v26 n (IntKind.wrap .i64 (v33 + 1)) (iP e35 true v34)) else j28 v34)
def gS (p0 : bC) (v10 : List (Int × aR)) (j12 : List (Int × Bool) → Option ((List (Int × aR)) × Bool)) : Nat → Int → List (Int × Bool) → Option ((List (Int × aR)) × Bool)
 | 0, _, _ => none
 | n + 1, v26, v27 => (if (decide (v26 < (List.length p0.Nodes : Int))) = true then (aV (fun (v40 : List (Int × Bool)) => gS p0 v10 j12 n (IntKind.wrap .i64 (v26 + 1)) v40) (fun (j28 : List (Int × Bool) → Option ((List (Int × aR)) × Bool)) => (idx p0.Nodes v26).bind fun (e29 : aR) => iO e29 v10 j28 p0 v26 n 0 v27)) else j12 v27)
def iW (p0 : bC) (j1 : List (Int × aR) → Option ((List (Int × aR)) × Bool)) : Nat → Int → Int → List (Int × aR) → Option ((List (Int × aR)) × Bool)
 | 0, _, _, _ => none
 | n + 1, v3, v4, v5 => (if (decide (v4 < (List.length p0.Nodes : Int))) = true then (idx p0.Nodes v4).bind fun (e6 : aR) => (if (((decide (e6.ID ≤ v3)) || (decide (e6.ID ≥ p0.Next))) || ((e6.Parent == 0) != (e6.ID == p0.Root))) = true then some (([] : List (Int × aR)), false) else iW p0 j1 n e6.ID (IntKind.wrap .i64 (v4 + 1)) (iP e6.ID e6 v5)) else j1 v5)
def pL  (n : Nat) (p0 : bC) : Option ((List (Int × aR)) × Bool) := (if ((((decide (p0.Next < 2)) || (decide (p0.Next > 1099511627776))) || (decide ((List.length p0.Nodes : Int) < 1))) || (decide ((List.length p0.Nodes : Int) > 400))) = true then some (([] : List (Int × aR)), false) else (aV (fun (v10 : List (Int × aR)) => (some (gN p0.Root v10, jF p0.Root v10)).bind fun (y11 : (aR × Bool)) => (if (!y11.2) = true then some (([] : List (Int × aR)), false) else (aV (fun (v43 : List (Int × Bool)) => (if ((List.length v43 : Int) != (List.length v10 : Int)) = true then some (([] : List (Int × aR)), false) else (eV n v10 p0.Root).bind fun (y44 : (List Int)) => some (v10, ((List.length y44 : Int) == (List.length v10 : Int))))) (fun (j12 : List (Int × Bool) → Option ((List (Int × aR)) × Bool)) => gS p0 v10 j12 n 0 (iP p0.Root true ([] : List (Int × Bool))))))) (fun (j1 : List (Int × aR) → Option ((List (Int × aR)) × Bool)) => iW p0 j1 n 0 0 ([] : List (Int × aR)))))
theorem Fd  (n : Nat) (p0 : bC) (r : ((List (Int × aR)) × Bool)) (h : pL n p0 = some r) : cN E 93 0 [.agg [I p0.Root, I p0.Next, .lit (List.map aE p0.Nodes)]] [] (.tup [.c (.lmap true (List.map (eM (Value.int .i64) aE) r.1)), .c (Bo r.2)]) [] := by
 refine fW Tryz.func93 rfl ?_
 unfold pL at h
 refine za [1] ?_
 refine aK ?_
 refine zx fun _ => ?_
 refine zk 4 ?_
 refine zE (.c (.ptr 0 1)) ?_
 refine zE (.c (I p0.Next)) ?_
 refine zE (.c (Bo (decide (p0.Next > 1099511627776)))) ?_
 refine zP (.bool ((decide (p0.Next < 2)) || (decide (p0.Next > 1099511627776)))) ?_
 refine zk 1 ?_
 refine zE (.c (.ptr 0 2)) ?_
 refine zE (.c (.lit (List.map aE p0.Nodes))) ?_
 refine jW (e := [(!((decide (p0.Next < 2)) || (decide (p0.Next > 1099511627776))))]) [(27, .c (.lit (List.map aE p0.Nodes)), some 1)] (v := .c (I (List.length p0.Nodes : Int))) (foot := []) (by kernel_rfl) (by kernel_rfl) (by kernel_rfl) (fun hg => kR (enc := aE) (l := p0.Nodes) (by kernel_rfl)) rfl rfl ?_
 refine zE (.c (Bo (decide ((List.length p0.Nodes : Int) < 1)))) ?_
 refine zP (.bool (((decide (p0.Next < 2)) || (decide (p0.Next > 1099511627776))) || (decide ((List.length p0.Nodes : Int) < 1)))) ?_
 refine zk 1 ?_
 refine zE (.c (.ptr 0 2)) ?_
 refine zE (.c (.lit (List.map aE p0.Nodes))) ?_
 refine jW (e := [(!(((decide (p0.Next < 2)) || (decide (p0.Next > 1099511627776))) || (decide ((List.length p0.Nodes : Int) < 1))))]) [(33, .c (.lit (List.map aE p0.Nodes)), some 1)] (v := .c (I (List.length p0.Nodes : Int))) (foot := []) (by kernel_rfl) (by kernel_rfl) (by kernel_rfl) (fun hg => kR (enc := aE) (l := p0.Nodes) (by kernel_rfl)) rfl rfl ?_
 refine zE (.c (Bo (decide ((List.length p0.Nodes : Int) > 400)))) ?_
 refine zP (.bool ((((decide (p0.Next < 2)) || (decide (p0.Next > 1099511627776))) || (decide ((List.length p0.Nodes : Int) < 1))) || (decide ((List.length p0.Nodes : Int) > 400)))) ?_
 refine jV [1, 36] (L2 := [(1, .c (.ptr 0 0)), (36, .c (Bo ((((decide (p0.Next < 2)) || (decide (p0.Next > 1099511627776))) || (decide ((List.length p0.Nodes : Int) < 1))) || (decide ((List.length p0.Nodes : Int) > 400)))))]) (G2 := [(0, .blk 27 [I p0.Root, I p0.Next, .lit (List.map aE p0.Nodes)])]) 23 ?_
 refine zi h (fun h => ?_) fun h => ?_
 refine za [2, 3] ?_
 refine aI (pH 2 true (L2 := [(2, .c (.lmap true (List.map (eM (Value.int .i64) aE) ([] : List (Int × aR))))), (3, .c (Bo false))]) (by kernel_rfl) (by kernel_rfl)) ?_
 cases h
 exact aG zr
 refine aC ?_
 refine za [1, 4] ?_
 refine za [1, 4, 5] ?_
 refine aQ h (fun A j => ∀ v10, j v10 = some r → A (mk [(1, .c (.ptr 0 0)), (4, .c (.mapr 1))] [(0, .blk 27 [I p0.Root, I p0.Next, .lit (List.map aE p0.Nodes)]), (1, .map true (List.map (eM (Value.int .i64) aE) v10))] 2)) (fun v10 h => ?_) (fun j1 Aj1 hj1 h => ?_)
 refine aK ?_
 refine zx fun _ => ?_
 refine zk 3 ?_
 obtain ⟨y11, he, h⟩ := aB h
 refine zw (v := .tup [.agg [I y11.1.ID, I y11.1.Parent, I y11.1.Kind, Sx y11.1.Key, .lit (List.map aM y11.1.Attrs), .lit (List.map aD y11.1.Actions), .lit (List.map aJ y11.1.Kids)], .c (Bo y11.2)]) [1] (cZ (kf := (Value.int .i64)) (enc := aE) (l := v10) (k := p0.Root) (ok := true) (kk := .int .i64) (j := ⟨.st [(3, 0, 1), (3, 1, 1), (3, 2, 1), (9, 3, 1), (55, 4, 1), (56, 5, 1), (22, 6, 1)], 7, 112, [.int .i64 0, .int .i64 0, .int .i64 0, .string ⟨#[]⟩, .slice none 0 0, .slice none 0 0, .slice none 0 0]⟩) (p := y11) (v := .agg [I y11.1.ID, I y11.1.Parent, I y11.1.Kind, Sx y11.1.Key, .lit (List.map aM y11.1.Attrs), .lit (List.map aD y11.1.Actions), .lit (List.map aJ y11.1.Kids)]) he (by kernel_rfl) gH (by kernel_rfl) (by kernel_rfl) (by kernel_rfl)) ?_
 clear he
 refine zk 6 ?_
 refine ze [1, 4, 9] ?_
 refine za [1, 4, 82] ?_
 refine zi h (fun h => ?_) fun h => ?_
 refine za [2, 3] ?_
 refine aI (pH 2 true (L2 := [(2, .c (.lmap true (List.map (eM (Value.int .i64) aE) ([] : List (Int × aR))))), (3, .c (Bo false))]) (by kernel_rfl) (by kernel_rfl)) ?_
 cases h
 exact aG zr
 refine aC ?_
 refine zx fun _ => ?_
 refine zk 3 ?_
 refine kA (kf := (Value.int .i64)) (enc := eB) (l := ([] : List (Int × Bool))) (k := p0.Root) (v := true) (n := 14) (ag := false) (kk := .int .i64) (by kernel_rfl) gH (by kernel_rfl) (by kernel_rfl) rfl rfl ?_
 refine zk 2 ?_
 refine ze [1, 4, 10] ?_
 refine aQ h (fun A j => ∀ v43, j v43 = some r → A (mk [(1, .c (.ptr 0 0)), (4, .c (.mapr 1)), (10, .c (.mapr 2))] [(0, .blk 27 [I p0.Root, I p0.Next, .lit (List.map aE p0.Nodes)]), (1, .map true (List.map (eM (Value.int .i64) aE) v10)), (2, .map false (List.map (eM (Value.int .i64) eB) v43))] 3)) (fun v43 h => ?_) (fun j12 Aj12 hj12 h => ?_)
 refine aK ?_
 refine zx fun _ => ?_
 refine zk 1 ?_
 refine zw (v := .c (I (List.length v43 : Int))) [2] (Ee (Value.int .i64) eB v43 (by kernel_rfl)) ?_
 refine zk 1 ?_
 refine zw (v := .c (I (List.length v10 : Int))) [1] (Ee (Value.int .i64) aE v10 (by kernel_rfl)) ?_
 refine zk 1 ?_
 refine ze [1, 4, 129] ?_
 refine zi h (fun h => ?_) fun h => ?_
 refine za [2, 3] ?_
 refine aI (pH 2 true (L2 := [(2, .c (.lmap true (List.map (eM (Value.int .i64) aE) ([] : List (Int × aR))))), (3, .c (Bo false))]) (by kernel_rfl) (by kernel_rfl)) ?_
 cases h
 exact aG zr
 refine aC ?_
 refine aI (rD 1 (ag := true) (l := List.map (eM (Value.int .i64) aE) v10) (L2 := [(1, .c (.ptr 0 0)), (4, .c (.lmap true (List.map (eM (Value.int .i64) aE) v10))), (129, .c (Bo ((List.length v43 : Int) != (List.length v10 : Int))))]) (G2 := [(0, .blk 27 [I p0.Root, I p0.Next, .lit (List.map aE p0.Nodes)]), (2, .map false (List.map (eM (Value.int .i64) eB) v43))]) (by kernel_rfl) (by kernel_rfl) (by kernel_rfl)) ?_
 refine zx fun _ => ?_
 refine zk 4 ?_
 obtain ⟨y44, he, h⟩ := aB h
 refine zc Tx (rU n _ _ y44 he) ?_
 clear he
 refine zl aJ y44 ?_
 refine zk 1 ?_
 refine zw (v := .c (I (List.length v10 : Int))) [] (Ee (Value.int .i64) aE v10 (by kernel_rfl)) ?_
 refine zk 3 ?_
 refine jV [2, 3] (L2 := [(2, .c (.lmap true (List.map (eM (Value.int .i64) aE) v10))), (3, .c (Bo ((List.length y44 : Int) == (List.length v10 : Int))))]) (G2 := [(0, .blk 27 [I p0.Root, I p0.Next, .lit (List.map aE p0.Nodes)]), (2, .map false (List.map (eM (Value.int .i64) eB) v43))]) 19 ?_
 cases h
 exact aG zr
 refine zx fun _ => ?_
 refine zk 2 ?_
 refine zl aE p0.Nodes ?_
 refine zk 1 ?_
 refine jV [1, 4, 10, 88, 89, 90] (L2 := [(1, .c (.ptr 0 0)), (4, .c (.mapr 1)), (10, .c (.mapr 14)), (88, .c (.lit (List.map aE p0.Nodes))), (89, .c (I (List.length p0.Nodes : Int))), (90, .c (I 0))]) (G2 := [(0, .blk 27 [I p0.Root, I p0.Next, .lit (List.map aE p0.Nodes)]), (1, .map true (List.map (eM (Value.int .i64) aE) v10)), (9, .blk 58 [I y11.1.ID, I y11.1.Parent, I y11.1.Kind, Sx y11.1.Key, .lit (List.map aM y11.1.Attrs), .lit (List.map aD y11.1.Actions), .lit (List.map aJ y11.1.Kids)]), (14, .map false (List.map (eM (Value.int .i64) eB) (iP p0.Root true ([] : List (Int × Bool)))))]) 24 ?_
 refine aF ?_
 refine bA (fun n s => ∃ v26 v27, gS p0 v10 j12 n v26 v27 = some r ∧ s = mk [(1, .c (.ptr 0 0)), (4, .c (.mapr 1)), (10, .c (.mapr 2)), (88, .c (.lit (List.map aE p0.Nodes))), (89, .c (I (List.length p0.Nodes : Int))), (90, .c (I v26))] [(0, .blk 27 [I p0.Root, I p0.Next, .lit (List.map aE p0.Nodes)]), (1, .map true (List.map (eM (Value.int .i64) aE) v10)), (2, .map false (List.map (eM (Value.int .i64) eB) v27))] 3) n _ (zv [(0, 0), (1, 1), (14, 2)] [1, 4, 10, 88, 89, 90] 3) ⟨_, _, h, rfl⟩ (fun s ⟨v26, v27, h, _⟩ => nomatch h) ?_
 rintro n s ⟨v26, v27, h, rfl⟩
 rw [gS] at h
 refine za [1, 4, 10, 88, 89, 90, 91] ?_
 refine aK ?_
 refine zi h (fun h => ?_) fun h => ?_
 refine aC ?_
 refine aQ h (fun A j => ∀ v40, j v40 = some r → A (mk [(1, .c (.ptr 0 0)), (4, .c (.mapr 1)), (10, .c (.mapr 2)), (88, .c (.lit (List.map aE p0.Nodes))), (89, .c (I (List.length p0.Nodes : Int))), (90, .c (I v26))] [(0, .blk 27 [I p0.Root, I p0.Next, .lit (List.map aE p0.Nodes)]), (1, .map true (List.map (eM (Value.int .i64) aE) v10)), (2, .map false (List.map (eM (Value.int .i64) eB) v40))] 3)) (fun v40 h => ?_) (fun j28 Aj28 hj28 h => ?_)
 refine aT ?_
 refine zb ?_
 exact dI (zv [(0, 0), (1, 1), (2, 2)] [1, 4, 10, 88, 89, 90] 3) (⟨_, _, h, rfl⟩)
 refine aF ?_
 refine zx fun _ => ?_
 obtain ⟨e29, he, h⟩ := aB h
 refine zd aE he ?_
 clear he
 refine zk 3 ?_
 refine ze [1, 4, 10, 12, 88, 89, 90] ?_
 refine zx fun _ => ?_
 refine zk 2 ?_
 refine zl aJ e29.Kids ?_
 refine zk 1 ?_
 refine ze [1, 4, 10, 12, 88, 89, 90, 95, 96, 97] ?_
 refine aF ?_
 refine bA (fun n s => ∃ v33 v34, iO e29 v10 j28 p0 v26 n v33 v34 = some r ∧ s = mk [(1, .c (.ptr 0 0)), (4, .c (.mapr 1)), (10, .c (.mapr 2)), (88, .c (.lit (List.map aE p0.Nodes))), (89, .c (I (List.length p0.Nodes : Int))), (90, .c (I v26)), (12, .c (.ptr 3 0)), (95, .c (.lit (List.map aJ e29.Kids))), (96, .c (I (List.length e29.Kids : Int))), (97, .c (I v33))] [(0, .blk 27 [I p0.Root, I p0.Next, .lit (List.map aE p0.Nodes)]), (1, .map true (List.map (eM (Value.int .i64) aE) v10)), (2, .map false (List.map (eM (Value.int .i64) eB) v34)), (3, .blk 58 [I e29.ID, I e29.Parent, I e29.Kind, Sx e29.Key, .lit (List.map aM e29.Attrs), .lit (List.map aD e29.Actions), .lit (List.map aJ e29.Kids)])] 4) n _ (zv [(0, 0), (1, 1), (2, 2), (6, 3)] [1, 4, 10, 88, 89, 90, 12, 95, 96, 97] 4) ⟨_, _, h, rfl⟩ (fun s ⟨v33, v34, h, _⟩ => nomatch h) ?_
 rintro n s ⟨v33, v34, h, rfl⟩
 rw [iO] at h
 refine za [1, 4, 10, 12, 88, 89, 90, 95, 96, 97, 98] ?_
 refine aK ?_
 refine zi h (fun h => ?_) fun h => ?_
 refine aC ?_
 refine aK ?_
 refine aF ?_
 refine zx fun _ => ?_
 obtain ⟨e35, he, h⟩ := aB h
 refine zd aJ he ?_
 clear he
 refine zk 2 ?_
 refine ze [1, 4, 10, 12, 14, 88, 89, 90, 95, 96, 97] ?_
 refine aK ?_
 refine zx fun _ => ?_
 refine zk 2 ?_
 obtain ⟨y36, he, h⟩ := aB h
 refine zw (v := .tup [.agg [I y36.1.ID, I y36.1.Parent, I y36.1.Kind, Sx y36.1.Key, .lit (List.map aM y36.1.Attrs), .lit (List.map aD y36.1.Actions), .lit (List.map aJ y36.1.Kids)], .c (Bo y36.2)]) [1] (cZ (kf := (Value.int .i64)) (enc := aE) (l := v10) (k := e35) (ok := true) (kk := .int .i64) (j := ⟨.st [(3, 0, 1), (3, 1, 1), (3, 2, 1), (9, 3, 1), (55, 4, 1), (56, 5, 1), (22, 6, 1)], 7, 112, [.int .i64 0, .int .i64 0, .int .i64 0, .string ⟨#[]⟩, .slice none 0 0, .slice none 0 0, .slice none 0 0]⟩) (p := y36) (v := .agg [I y36.1.ID, I y36.1.Parent, I y36.1.Kind, Sx y36.1.Key, .lit (List.map aM y36.1.Attrs), .lit (List.map aD y36.1.Actions), .lit (List.map aJ y36.1.Kids)]) he (by kernel_rfl) gH (by kernel_rfl) (by kernel_rfl) (by kernel_rfl)) ?_
 clear he
 refine zk 6 ?_
 refine ze [1, 4, 10, 12, 14, 15, 16, 88, 89, 90, 95, 96, 97] ?_
 refine zx fun _ => ?_
 refine zk 3 ?_
 refine zE (.c (.ptr 14 1)) ?_
 refine zE (.c (I y36.1.Parent)) ?_
 refine zE (.c (.ptr 3 0)) ?_
 refine zE (.c (I e29.ID)) ?_
 refine zE (.c (Bo (y36.1.Parent != e29.ID))) ?_
 refine zP (.bool ((!y36.2) || (y36.1.Parent != e29.ID))) ?_
 refine zk 1 ?_
 refine zE (.c (.mapr 2)) ?_
 refine zE (.c (I e35)) ?_
 obtain ⟨y37, he, h⟩ := aB h
 refine Da (e := [(!((!y36.2) || (y36.1.Parent != e29.ID)))]) [(117, .c (.mapr 2), some 1), (118, .c (I e35), some 1)] (v := .c (Bo y37.1)) (foot := [2]) (by kernel_rfl) (by kernel_rfl) (by kernel_rfl) (fun hg => cZ (kf := (Value.int .i64)) (enc := eB) (l := v34) (k := e35) (ok := false) (kk := .int .i64) (j := ⟨.boo, 1, 1, [.bool false]⟩) (p := y37) (v := .c (Bo y37.1)) (bT he hg) (by kernel_rfl) gH (by kernel_rfl) (by kernel_rfl) (by kernel_rfl)) rfl rfl ?_
 clear he
 refine zP (.bool (((!y36.2) || (y36.1.Parent != e29.ID)) || y37.1)) ?_
 refine jV [1, 4, 10, 12, 14, 88, 89, 90, 95, 96, 97, 120] (L2 := [(1, .c (.ptr 0 0)), (4, .c (.mapr 1)), (10, .c (.mapr 2)), (88, .c (.lit (List.map aE p0.Nodes))), (89, .c (I (List.length p0.Nodes : Int))), (90, .c (I v26)), (12, .c (.ptr 3 0)), (95, .c (.lit (List.map aJ e29.Kids))), (96, .c (I (List.length e29.Kids : Int))), (97, .c (I v33)), (14, .c (I e35)), (120, .c (Bo (((!y36.2) || (y36.1.Parent != e29.ID)) || y37.1)))]) (G2 := [(0, .blk 27 [I p0.Root, I p0.Next, .lit (List.map aE p0.Nodes)]), (1, .map true (List.map (eM (Value.int .i64) aE) v10)), (2, .map false (List.map (eM (Value.int .i64) eB) v34)), (3, .blk 58 [I e29.ID, I e29.Parent, I e29.Kind, Sx e29.Key, .lit (List.map aM e29.Attrs), .lit (List.map aD e29.Actions), .lit (List.map aJ e29.Kids)]), (14, .blk 58 [I y36.1.ID, I y36.1.Parent, I y36.1.Kind, Sx y36.1.Key, .lit (List.map aM y36.1.Attrs), .lit (List.map aD y36.1.Actions), .lit (List.map aJ y36.1.Kids)])]) 31 ?_
 refine zi h (fun h => ?_) fun h => ?_
 refine za [2, 3] ?_
 refine aI (pH 2 true (L2 := [(2, .c (.lmap true (List.map (eM (Value.int .i64) aE) ([] : List (Int × aR))))), (3, .c (Bo false))]) (by kernel_rfl) (by kernel_rfl)) ?_
 cases h
 exact aG zr
 refine aC ?_
 refine zy fun _ => ?_
 refine zk 2 ?_
 refine kA (kf := (Value.int .i64)) (enc := eB) (l := v34) (k := e35) (v := true) (n := 2) (ag := false) (kk := .int .i64) (by kernel_rfl) gH (by kernel_rfl) (by kernel_rfl) rfl rfl ?_
 refine bL ?_
 refine aT ?_
 refine zb ?_
 exact dI (zv [(0, 0), (1, 1), (2, 2), (3, 3)] [1, 4, 10, 88, 89, 90, 12, 95, 96, 97] 4) (⟨_, _, h, rfl⟩)
 exact aI (zv [(0, 0), (1, 1), (2, 2)] [1, 4, 10, 88, 89, 90] 3) (bD (hj28 _ h))
 exact aI (zv [(0, 0), (1, 1), (2, 2)] [1, 4, 10] 3) (bD (hj12 _ h))
 refine zx fun _ => ?_
 refine zk 2 ?_
 refine zl aE p0.Nodes ?_
 refine zk 1 ?_
 refine ze [1, 4, 5, 39, 40, 41] ?_
 refine aF ?_
 refine bA (fun n s => ∃ v3 v4 v5, iW p0 j1 n v3 v4 v5 = some r ∧ s = mk [(1, .c (.ptr 0 0)), (4, .c (.mapr 1)), (5, .c (I v3)), (39, .c (.lit (List.map aE p0.Nodes))), (40, .c (I (List.length p0.Nodes : Int))), (41, .c (I v4))] [(0, .blk 27 [I p0.Root, I p0.Next, .lit (List.map aE p0.Nodes)]), (1, .map true (List.map (eM (Value.int .i64) aE) v5))] 2) n _ (zv [(0, 0), (23, 1)] [1, 4, 5, 39, 40, 41] 2) ⟨_, _, _, h, rfl⟩ (fun s ⟨v3, v4, v5, h, _⟩ => nomatch h) ?_
 rintro n s ⟨v3, v4, v5, h, rfl⟩
 rw [iW] at h
 refine za [1, 4, 5, 39, 40, 41, 42] ?_
 refine aK ?_
 refine zi h (fun h => ?_) fun h => ?_
 refine aC ?_
 refine aK ?_
 refine aF ?_
 refine zx fun _ => ?_
 obtain ⟨e6, he, h⟩ := aB h
 refine zd aE he ?_
 clear he
 refine zk 3 ?_
 refine ze [1, 4, 5, 7, 39, 40, 41] ?_
 refine aK ?_
 refine zx fun _ => ?_
 refine zk 5 ?_
 refine zE (.c (.ptr 5 0)) ?_
 refine zE (.c (I e6.ID)) ?_
 refine zE (.c (.ptr 0 1)) ?_
 refine zE (.c (I p0.Next)) ?_
 refine zE (.c (Bo (decide (e6.ID ≥ p0.Next)))) ?_
 refine zP (.bool ((decide (e6.ID ≤ v3)) || (decide (e6.ID ≥ p0.Next)))) ?_
 refine zk 1 ?_
 refine zE (.c (.ptr 5 1)) ?_
 refine zE (.c (I e6.Parent)) ?_
 refine zE (.c (Bo (e6.Parent == 0))) ?_
 refine zE (.c (.ptr 5 0)) ?_
 refine zE (.c (I e6.ID)) ?_
 refine zE (.c (.ptr 0 0)) ?_
 refine zE (.c (I p0.Root)) ?_
 refine zE (.c (Bo (e6.ID == p0.Root))) ?_
 refine zE (.c (Bo ((e6.Parent == 0) != (e6.ID == p0.Root)))) ?_
 refine zP (.bool (((decide (e6.ID ≤ v3)) || (decide (e6.ID ≥ p0.Next))) || ((e6.Parent == 0) != (e6.ID == p0.Root)))) ?_
 refine jV [1, 4, 7, 39, 40, 41, 66] (L2 := [(1, .c (.ptr 0 0)), (4, .c (.mapr 1)), (39, .c (.lit (List.map aE p0.Nodes))), (40, .c (I (List.length p0.Nodes : Int))), (41, .c (I v4)), (7, .c (.ptr 5 0)), (66, .c (Bo (((decide (e6.ID ≤ v3)) || (decide (e6.ID ≥ p0.Next))) || ((e6.Parent == 0) != (e6.ID == p0.Root)))))]) (G2 := [(0, .blk 27 [I p0.Root, I p0.Next, .lit (List.map aE p0.Nodes)]), (1, .map true (List.map (eM (Value.int .i64) aE) v5)), (5, .blk 58 [I e6.ID, I e6.Parent, I e6.Kind, Sx e6.Key, .lit (List.map aM e6.Attrs), .lit (List.map aD e6.Actions), .lit (List.map aJ e6.Kids)])]) 29 ?_
 refine zi h (fun h => ?_) fun h => ?_
 refine za [2, 3] ?_
 refine aI (pH 2 true (L2 := [(2, .c (.lmap true (List.map (eM (Value.int .i64) aE) ([] : List (Int × aR))))), (3, .c (Bo false))]) (by kernel_rfl) (by kernel_rfl)) ?_
 cases h
 exact aG zr
 refine aC ?_
 refine za [1, 4, 5, 7, 39, 40, 41] ?_
 refine zy fun _ => ?_
 refine zk 4 ?_
 refine kA (kf := (Value.int .i64)) (enc := aE) (l := v5) (k := e6.ID) (v := e6) (n := 1) (ag := true) (kk := .int .i64) (by kernel_rfl) gH (by kernel_rfl) (by kernel_rfl) rfl rfl ?_
 refine bL ?_
 refine aT ?_
 refine zb ?_
 exact dI (zv [(0, 0), (1, 1)] [1, 4, 5, 39, 40, 41] 2) (⟨_, _, _, h, rfl⟩)
 exact aI (zv [(0, 0), (1, 1)] [1, 4] 2) (bD (hj1 _ h))
def eY (y1 : (aR × Bool)) (self_view_described : (List (Int × aR)) → Int → Option aL) (p0 : (List (Int × aR))) (j2 : List aL → Option aL) : Nat → Int → List aL → Option aL
 | 0, _, _ => none
 | n + 1, v7, v8 => (if (decide (v7 < (List.length y1.1.Kids : Int))) = true then (idx y1.1.Kids v7).bind fun (e9 : Int) => (self_view_described p0 e9).bind fun (y10 : aL) => (pE 96 v8 [y10]).bind fun (l11 : List aL) => eY y1 self_view_described p0 j2 n (IntKind.wrap .i64 (v7 + 1)) l11 else j2 v8)
def jD (self_view_described : (List (Int × aR)) → Int → Option aL) (n : Nat) (p0 : (List (Int × aR))) (p1 : Int) : Option aL := (some (gN p1 p0, jF p1 p0)).bind fun (y1 : (aR × Bool)) => (aV (fun (v15 : List aL) => some (aL.mk y1.1.Kind y1.1.Key y1.1.Attrs y1.1.Actions v15)) (fun (j2 : List aL → Option aL) => eY y1 self_view_described p0 j2 n 0 ([] : List aL)))
theorem sK (self_view_described : (List (Int × aR)) → Int → Option aL) (ih_view_described : ∀ (p0 : (List (Int × aR))) (p1 : Int) (r : aL), self_view_described p0 p1 = some r → cN E 94 0 [.c (.lmap true (List.map (eM (Value.int .i64) aE) p0)), .c (I p1)] [] (.agg [I r.Kind, Sx r.Key, .lit (List.map aM r.Attrs), .lit (List.map aD r.Actions), .lit (List.map aX r.Kids)]) []) (n : Nat) (p0 : (List (Int × aR))) (p1 : Int) (r : aL) (h : jD self_view_described n p0 p1 = some r) : cN E 94 0 [.c (.lmap true (List.map (eM (Value.int .i64) aE) p0)), .c (I p1)] [] (.agg [I r.Kind, Sx r.Key, .lit (List.map aM r.Attrs), .lit (List.map aD r.Actions), .lit (List.map aX r.Kids)]) [] := by
 refine fW Tryz.func94 rfl ?_
 unfold jD at h
 refine za [0, 1, 4] ?_
 refine zx fun _ => ?_
 refine zk 2 ?_
 obtain ⟨y1, he, h⟩ := aB h
 refine zw (v := .agg [I y1.1.ID, I y1.1.Parent, I y1.1.Kind, Sx y1.1.Key, .lit (List.map aM y1.1.Attrs), .lit (List.map aD y1.1.Actions), .lit (List.map aJ y1.1.Kids)]) [] (cZ (kf := (Value.int .i64)) (enc := aE) (l := p0) (k := p1) (ok := false) (kk := .int .i64) (j := ⟨.st [(3, 0, 1), (3, 1, 1), (3, 2, 1), (9, 3, 1), (55, 4, 1), (56, 5, 1), (22, 6, 1)], 7, 112, [.int .i64 0, .int .i64 0, .int .i64 0, .string ⟨#[]⟩, .slice none 0 0, .slice none 0 0, .slice none 0 0]⟩) (p := y1) (v := .agg [I y1.1.ID, I y1.1.Parent, I y1.1.Kind, Sx y1.1.Key, .lit (List.map aM y1.1.Attrs), .lit (List.map aD y1.1.Actions), .lit (List.map aJ y1.1.Kids)]) he (by kernel_rfl) gH (by kernel_rfl) (by kernel_rfl) (by kernel_rfl)) ?_
 clear he
 refine zk 2 ?_
 refine ze [0, 4, 5] ?_
 refine za [0, 4, 5, 6] ?_
 refine aQ h (fun A j => ∀ v15, j v15 = some r → A (mk [(4, .c (.ptr 0 0)), (6, .c (.ptr 1 0))] [(0, .blk 70 [I 0, Sx (⟨#[]⟩ : ByteArray), bY, bY, bY]), (1, .blk 70 [I y1.1.Kind, Sx y1.1.Key, .lit (List.map aM y1.1.Attrs), .lit (List.map aD y1.1.Actions), .app 2 (List.map aX v15)]), (2, .tok 70 5 (List.length v15))] 3)) (fun v15 h => ?_) (fun j2 Aj2 hj2 h => ?_)
 refine za [4] ?_
 cases h
 exact aG zr
 refine zx fun _ => ?_
 refine zk 2 ?_
 refine zl aJ y1.1.Kids ?_
 refine zk 1 ?_
 refine ze [0, 4, 6, 22, 23, 24] ?_
 refine aF ?_
 refine bA (fun n s => ∃ v7 v8, eY y1 self_view_described p0 j2 n v7 v8 = some r ∧ s = mk [(0, .c (.lmap true (List.map (eM (Value.int .i64) aE) p0))), (4, .c (.ptr 0 0)), (6, .c (.ptr 1 0)), (22, .c (.lit (List.map aJ y1.1.Kids))), (23, .c (I (List.length y1.1.Kids : Int))), (24, .c (I v7))] [(0, .blk 70 [I 0, Sx (⟨#[]⟩ : ByteArray), bY, bY, bY]), (1, .blk 70 [I y1.1.Kind, Sx y1.1.Key, .lit (List.map aM y1.1.Attrs), .lit (List.map aD y1.1.Actions), .app 2 (List.map aX v8)]), (2, .tok 70 5 (List.length v8))] 3) n _ (dU.trans (lB (n := 15) (T0 := 70) (l := [I y1.1.Kind, Sx y1.1.Key, .lit (List.map aM y1.1.Attrs), .lit (List.map aD y1.1.Actions), bY]) (G2 := [(0, .blk 70 [I 0, Sx (⟨#[]⟩ : ByteArray), bY, bY, bY]), (4, .blk 58 [I y1.1.ID, I y1.1.Parent, I y1.1.Kind, Sx y1.1.Key, .lit (List.map aM y1.1.Attrs), .lit (List.map aD y1.1.Actions), .lit (List.map aJ y1.1.Kids)]), (15, .blk 70 [I y1.1.Kind, Sx y1.1.Key, .lit (List.map aM y1.1.Attrs), .lit (List.map aD y1.1.Actions), .app 21 (List.map aX ([] : List aL))]), (21, .tok 70 5 (List.length ([] : List aL)))]) (lim2 := 22) 4 70 5 (by kernel_rfl) (by kernel_rfl) (by kernel_rfl) (by kernel_rfl)) (zv [(0, 0), (15, 1), (21, 2)] [0, 4, 6, 22, 23, 24] 3)) ⟨_, _, h, rfl⟩ (fun s ⟨v7, v8, h, _⟩ => nomatch h) ?_
 rintro n s ⟨v7, v8, h, rfl⟩
 rw [eY] at h
 refine za [0, 4, 6, 22, 23, 24, 25] ?_
 refine aK ?_
 refine zi h (fun h => ?_) fun h => ?_
 refine aC ?_
 refine aK ?_
 refine aF ?_
 refine zx fun _ => ?_
 obtain ⟨e9, he, h⟩ := aB h
 refine zd aJ he ?_
 clear he
 refine zk 2 ?_
 refine ze [0, 4, 6, 8, 22, 23, 24] ?_
 refine Lh [[], [0], [], [], [2, 3], [4, 2, 3], [1, 5, 4, 0, 2, 3], [0, 1, 2, 3, 4, 5, 6], [7, 6, 0, 1, 2, 3, 4, 5]] fun _ => ?_
 refine zk 4 ?_
 obtain ⟨y10, he, h⟩ := aB h
 refine zc Xo (ih_view_described _ _ y10 he) ?_
 clear he
 refine pO (e := 70) (sz := 5) (len := 1) (r := [I y10.Kind, Sx y10.Key, .lit (List.map aM y10.Attrs), .lit (List.map aD y10.Actions), .lit (List.map aX y10.Kids)]) (l' := List.map aX [y10]) (nm := 12) (by kernel_rfl) (by simp only [List.map_cons, List.map_nil, fR]; kernel_rfl) (by kernel_rfl) (by kernel_rfl) rfl rfl rfl ?_
 obtain ⟨l11, he, h⟩ := aB h
 refine cB (enc := aX) (l := v8) (els := [y10]) (r := l11) (old := some 2) (e := 70) (sz := 5) (bytes := 96) (k := (List.length v8)) (nm := 13) he (by kernel_rfl) (by kernel_rfl) (fun x => by rw [fR]; rfl) (by kernel_rfl) (by kernel_rfl) rfl rfl rfl ?_
 clear he
 refine zk 2 ?_
 refine bL ?_
 refine aT ?_
 refine zb ?_
 exact dI (zv [(0, 0), (1, 1), (13, 2)] [0, 4, 6, 22, 23, 24] 3) (⟨_, _, h, rfl⟩)
 exact aI (zv [(0, 0), (1, 1), (2, 2)] [4, 6] 3) (bD (hj2 _ h))
def gA : Nat → (List (Int × aR)) → Int → Option aL
 | 0, _, _ => none
 | n + 1, p0, p1 => jD (fun a0 a1 => gA n a0 a1) n p0 p1
theorem xP (n : Nat) : (∀ (p0 : (List (Int × aR))) (p1 : Int) (r : aL), gA n p0 p1 = some r → cN E 94 0 [.c (.lmap true (List.map (eM (Value.int .i64) aE) p0)), .c (I p1)] [] (.agg [I r.Kind, Sx r.Key, .lit (List.map aM r.Attrs), .lit (List.map aD r.Actions), .lit (List.map aX r.Kids)]) []) := by
 induction n with
 | zero => intro p0 p1 r h; rw [gA] at h; cases h
 | succ n ih => intro p0 p1 r h; rw [gA] at h; exact sK _ ih n _ _ r h
def qK (p0 : ByteArray) (j1 : Unit → Option Bool) : Nat → Int → Option Bool
 | 0, _ => none
 | n + 1, v3 => (if (decide (v3 < (ByteArray.size p0 : Int))) = true then (wU p0 v3).bind fun (u4 : Int) => (if ((((((decide (u4 < 97)) || (decide (u4 > 122))) && ((decide (u4 < 65)) || (decide (u4 > 90)))) && ((decide (u4 < 48)) || (decide (u4 > 57)))) && (u4 != 45)) && (u4 != 95)) = true then some false else qK p0 j1 n (IntKind.wrap .i64 (v3 + 1))) else j1 ())
def xN  (n : Nat) (p0 : ByteArray) : Option Bool := (aV (fun (_ : Unit) => some (decide ((ByteArray.size p0 : Int) ≤ 24))) (fun (j1 : Unit → Option Bool) => qK p0 j1 n 0))
theorem Jt  (n : Nat) (p0 : ByteArray) (r : Bool) (h : xN n p0 = some r) : cN E 130 0 [.c (Sx p0)] [] (.c (Bo r)) [] := by
 refine fW Tryz.func130 rfl ?_
 unfold xN at h
 refine za [0] ?_
 refine aQ h (fun A j => ∀ u, j u = some r → A (mk [(0, .c (Sx p0))] [] 0)) (fun u h => ?_) (fun j1 Aj1 hj1 h => ?_)
 refine za [2] ?_
 cases h
 exact aG zr
 refine za [0, 6, 7] ?_
 refine aF ?_
 refine bA (fun n s => ∃ v3, qK p0 j1 n v3 = some r ∧ s = mk [(0, .c (Sx p0)), (6, .c (I (ByteArray.size p0 : Int))), (7, .c (I v3))] [] 0) n _ (zv [] [0, 6, 7] 0) ⟨_, h, rfl⟩ (fun s ⟨v3, h, _⟩ => nomatch h) ?_
 rintro n s ⟨v3, h, rfl⟩
 rw [qK] at h
 refine za [0, 6, 7, 8] ?_
 refine aK ?_
 refine zi h (fun h => ?_) fun h => ?_
 refine aC ?_
 refine aK ?_
 refine aF ?_
 refine za [0, 3, 6, 7] ?_
 refine zx fun _ => ?_
 refine zk 2 ?_
 obtain ⟨u4, he, h⟩ := aB h
 refine zs he ?_
 clear he
 refine zk 1 ?_
 refine ze [0, 4, 6, 7] ?_
 refine zx fun _ => ?_
 refine zk 3 ?_
 refine zE (.c (U8 u4)) ?_
 refine zE (.c (Bo (decide (u4 > 122)))) ?_
 refine zP (.bool ((decide (u4 < 97)) || (decide (u4 > 122)))) ?_
 refine zk 1 ?_
 refine zE (.c (U8 u4)) ?_
 refine zE (.c (Bo (decide (u4 < 65)))) ?_
 refine zF [((decide (u4 < 97)) || (decide (u4 > 122)))] (.c (Bo (decide (u4 < 65)))) ?_
 refine zE (.c (U8 u4)) ?_
 refine zE (.c (Bo (decide (u4 > 90)))) ?_
 refine zP (.bool ((decide (u4 < 65)) || (decide (u4 > 90)))) ?_
 refine zP (.bool (((decide (u4 < 97)) || (decide (u4 > 122))) && ((decide (u4 < 65)) || (decide (u4 > 90))))) ?_
 refine zk 1 ?_
 refine zE (.c (U8 u4)) ?_
 refine zE (.c (Bo (decide (u4 < 48)))) ?_
 refine zF [(((decide (u4 < 97)) || (decide (u4 > 122))) && ((decide (u4 < 65)) || (decide (u4 > 90))))] (.c (Bo (decide (u4 < 48)))) ?_
 refine zE (.c (U8 u4)) ?_
 refine zE (.c (Bo (decide (u4 > 57)))) ?_
 refine zP (.bool ((decide (u4 < 48)) || (decide (u4 > 57)))) ?_
 refine zP (.bool ((((decide (u4 < 97)) || (decide (u4 > 122))) && ((decide (u4 < 65)) || (decide (u4 > 90)))) && ((decide (u4 < 48)) || (decide (u4 > 57))))) ?_
 refine Ym 1 (L' := [(0, .c (Sx p0)), (6, .c (I (ByteArray.size p0 : Int))), (7, .c (I v3)), (4, .c (U8 u4)), (13, .c (U8 u4)), (14, .c (Bo (decide (u4 < 97)))), (15, .c (Bo (decide (u4 < 97)))), (16, .cnd [(!(decide (u4 < 97)))] (.c (U8 u4))), (17, .cnd [(!(decide (u4 < 97)))] (.c (Bo (decide (u4 > 122))))), (18, .c (Bo ((decide (u4 < 97)) || (decide (u4 > 122))))), (19, .c (Bo ((decide (u4 < 97)) || (decide (u4 > 122))))), (20, .cnd [((decide (u4 < 97)) || (decide (u4 > 122)))] (.c (U8 u4))), (21, .cnd [((decide (u4 < 97)) || (decide (u4 > 122)))] (.c (Bo (decide (u4 < 65))))), (22, .cnd [((decide (u4 < 97)) || (decide (u4 > 122)))] (.c (Bo (decide (u4 < 65))))), (23, .cnd [((decide (u4 < 97)) || (decide (u4 > 122))), (!(decide (u4 < 65)))] (.c (U8 u4))), (24, .cnd [((decide (u4 < 97)) || (decide (u4 > 122))), (!(decide (u4 < 65)))] (.c (Bo (decide (u4 > 90))))), (25, .cnd [((decide (u4 < 97)) || (decide (u4 > 122)))] (.c (Bo ((decide (u4 < 65)) || (decide (u4 > 90)))))), (26, .c (Bo (((decide (u4 < 97)) || (decide (u4 > 122))) && ((decide (u4 < 65)) || (decide (u4 > 90)))))), (27, .c (Bo (((decide (u4 < 97)) || (decide (u4 > 122))) && ((decide (u4 < 65)) || (decide (u4 > 90)))))), (28, .cnd [(((decide (u4 < 97)) || (decide (u4 > 122))) && ((decide (u4 < 65)) || (decide (u4 > 90))))] (.c (U8 u4))), (29, .cnd [(((decide (u4 < 97)) || (decide (u4 > 122))) && ((decide (u4 < 65)) || (decide (u4 > 90))))] (.c (Bo (decide (u4 < 48))))), (30, .cnd [(((decide (u4 < 97)) || (decide (u4 > 122))) && ((decide (u4 < 65)) || (decide (u4 > 90))))] (.c (Bo (decide (u4 < 48))))), (31, .cnd [(((decide (u4 < 97)) || (decide (u4 > 122))) && ((decide (u4 < 65)) || (decide (u4 > 90)))), (!(decide (u4 < 48)))] (.c (U8 u4))), (32, .cnd [(((decide (u4 < 97)) || (decide (u4 > 122))) && ((decide (u4 < 65)) || (decide (u4 > 90)))), (!(decide (u4 < 48)))] (.c (Bo (decide (u4 > 57))))), (33, .cnd [(((decide (u4 < 97)) || (decide (u4 > 122))) && ((decide (u4 < 65)) || (decide (u4 > 90))))] (.c (Bo ((decide (u4 < 48)) || (decide (u4 > 57)))))), (34, .c (Bo ((((decide (u4 < 97)) || (decide (u4 > 122))) && ((decide (u4 < 65)) || (decide (u4 > 90)))) && ((decide (u4 < 48)) || (decide (u4 > 57)))))), (35, .c (Bo ((((decide (u4 < 97)) || (decide (u4 > 122))) && ((decide (u4 < 65)) || (decide (u4 > 90)))) && ((decide (u4 < 48)) || (decide (u4 > 57))))))]) (G' := []) (X' := []) ?_
 refine zE (.c (U8 u4)) ?_
 refine zE (.c (Bo (u4 != 45))) ?_
 refine zP (.bool (((((decide (u4 < 97)) || (decide (u4 > 122))) && ((decide (u4 < 65)) || (decide (u4 > 90)))) && ((decide (u4 < 48)) || (decide (u4 > 57)))) && (u4 != 45))) ?_
 refine zk 1 ?_
 refine zE (.c (U8 u4)) ?_
 refine zE (.c (Bo (u4 != 95))) ?_
 refine zP (.bool ((((((decide (u4 < 97)) || (decide (u4 > 122))) && ((decide (u4 < 65)) || (decide (u4 > 90)))) && ((decide (u4 < 48)) || (decide (u4 > 57)))) && (u4 != 45)) && (u4 != 95))) ?_
 refine ze [0, 6, 7, 42] ?_
 refine zi h (fun h => ?_) fun h => ?_
 refine za [2] ?_
 cases h
 exact aG zr
 refine aC ?_
 refine aT ?_
 refine zb ?_
 exact dI (zv [] [0, 6, 7] 0) (⟨_, h, rfl⟩)
 exact aI (zv [] [0] 0) (bD (hj1 _ h))
def iF  (n : Nat) (p0 : aH) : Option Bool := (aV (fun (v2 : Bool) => (if v2 = true then some ((cG p0.S (⟨#[]⟩ : ByteArray)) && ((List.length p0.L : Int) == 0)) else (if (p0.Kind == 3) = true then some ((p0.N == 0) && ((List.length p0.L : Int) == 0)) else (if (p0.Kind == 4) = true then some ((p0.N == 0) && (cG p0.S (⟨#[]⟩ : ByteArray))) else some false)))) (fun (j1 : Bool → Option Bool) => (if (p0.Kind == 1) = true then j1 (p0.Kind == 1) else j1 (p0.Kind == 2))))
theorem Cz  (n : Nat) (p0 : aH) (r : Bool) (h : iF n p0 = some r) : cN E 149 0 [.agg [I p0.Kind, I p0.N, Sx p0.S, .lit (List.map aO p0.L)]] [] (.c (Bo r)) [] := by
 refine fW Tryz.func149 rfl ?_
 unfold iF at h
 refine za [1] ?_
 refine aK ?_
 refine za [1, 4] ?_
 refine aF ?_
 refine aQ h (fun A j => ∀ v2, j v2 = some r → A (mk [(1, .c (.ptr 0 0)), (4, .c (I p0.Kind)), (5, .c (Bo v2))] [(0, .blk 152 [I p0.Kind, I p0.N, Sx p0.S, .lit (List.map aO p0.L)])] 1)) (fun v2 h => ?_) (fun j1 Aj1 hj1 h => ?_)
 refine zi h (fun h => ?_) fun h => ?_
 refine zx fun _ => ?_
 refine zk 4 ?_
 refine zE (.c (.ptr 0 3)) ?_
 refine zE (.c (.lit (List.map aO p0.L))) ?_
 refine jW (e := [(cG p0.S (⟨#[]⟩ : ByteArray))]) [(13, .c (.lit (List.map aO p0.L)), some 1)] (v := .c (I (List.length p0.L : Int))) (foot := []) (by kernel_rfl) (by kernel_rfl) (by kernel_rfl) (fun hg => kR (enc := aO) (l := p0.L) (by kernel_rfl)) rfl rfl ?_
 refine zE (.c (Bo ((List.length p0.L : Int) == 0))) ?_
 refine zP (.bool ((cG p0.S (⟨#[]⟩ : ByteArray)) && ((List.length p0.L : Int) == 0))) ?_
 refine zk 1 ?_
 refine ze [2] ?_
 cases h
 exact aG zr
 refine za [1, 4, 17] ?_
 refine zi h (fun h => ?_) fun h => ?_
 refine zx fun _ => ?_
 refine zk 4 ?_
 refine zE (.c (.ptr 0 3)) ?_
 refine zE (.c (.lit (List.map aO p0.L))) ?_
 refine jW (e := [(p0.N == 0)]) [(24, .c (.lit (List.map aO p0.L)), some 1)] (v := .c (I (List.length p0.L : Int))) (foot := []) (by kernel_rfl) (by kernel_rfl) (by kernel_rfl) (fun hg => kR (enc := aO) (l := p0.L) (by kernel_rfl)) rfl rfl ?_
 refine zE (.c (Bo ((List.length p0.L : Int) == 0))) ?_
 refine zP (.bool ((p0.N == 0) && ((List.length p0.L : Int) == 0))) ?_
 refine zk 1 ?_
 refine ze [2] ?_
 cases h
 exact aG zr
 refine za [1, 28] ?_
 refine zi h (fun h => ?_) fun h => ?_
 refine zx fun _ => ?_
 refine zk 4 ?_
 refine zE (.c (.ptr 0 2)) ?_
 refine zE (.c (Sx p0.S)) ?_
 refine zE (.c (Bo (cG p0.S (⟨#[]⟩ : ByteArray)))) ?_
 refine zP (.bool ((p0.N == 0) && (cG p0.S (⟨#[]⟩ : ByteArray)))) ?_
 refine zk 1 ?_
 refine ze [2] ?_
 cases h
 exact aG zr
 refine aC ?_
 refine za [2] ?_
 cases h
 exact aG zr
 refine za [1, 4, 5] ?_
 refine zi h (fun h => ?_) fun h => ?_
 exact aI (zv [(0, 0)] [1, 4, 5] 1) (aC (hj1 _ h))
 refine aT ?_
 refine zb ?_
 exact dI (zv [(0, 0)] [1, 4, 5] 1) (hj1 _ h)
def iE  (n : Nat) (p0 : Int) : Option Bool := some ((decide (p0 ≥ (-1099511627776 : Int))) && (decide (p0 ≤ 1099511627776)))
theorem Eo  (n : Nat) (p0 : Int) (r : Bool) (h : iE n p0 = some r) : cN E 150 0 [.c (I p0)] [] (.c (Bo r)) [] := by
 refine fW Tryz.func150 rfl ?_
 unfold iE at h
 refine za [0] ?_
 refine zx fun _ => ?_
 refine zk 3 ?_
 refine zE (.c (I p0)) ?_
 refine zE (.c (Bo (decide (p0 ≤ 1099511627776)))) ?_
 refine zP (.bool ((decide (p0 ≥ (-1099511627776 : Int))) && (decide (p0 ≤ 1099511627776)))) ?_
 refine zk 1 ?_
 refine ze [2] ?_
 cases h
 exact aG zr
def nZ  (n : Nat) (p0 : aS) : Option aS := some (aS.mk 4 [p0])
theorem pK  (n : Nat) (p0 : aS) (r : aS) (h : nZ n p0 = some r) : cN E 153 0 [.agg [I p0.Kind, .lit (List.map bF p0.Of)]] [] (.agg [I r.Kind, .lit (List.map bF r.Of)]) [] := by
 refine fW Tryz.func153 rfl ?_
 unfold nZ at h
 refine za [1, 2] ?_
 refine zx fun _ => ?_
 refine zk 1 ?_
 refine pO (e := 190) (sz := 2) (len := 1) (r := [I p0.Kind, .lit (List.map bF p0.Of)]) (l' := List.map bF [p0]) (nm := 3) (by kernel_rfl) (by simp only [List.map_cons, List.map_nil, fU]; kernel_rfl) (by kernel_rfl) (by kernel_rfl) rfl rfl rfl ?_
 refine zk 2 ?_
 refine ze [2] ?_
 cases h
 exact aG zr
def qC (self_expr_join : aS → aS → Option (aS × Bool)) (n : Nat) (p0 : aS) (p1 : aS) : Option (aS × Bool) := (if (p0.Kind != p1.Kind) = true then some ((aS.mk 0 ([] : List aS)), false) else (if ((List.length p0.Of : Int) == 0) = true then some (p1, true) else (if ((List.length p1.Of : Int) == 0) = true then some (p0, true) else (idx p0.Of 0).bind fun (e1 : aS) => (idx p1.Of 0).bind fun (e2 : aS) => (self_expr_join e1 e2).bind fun (y3 : (aS × Bool)) => (if (!y3.2) = true then some ((aS.mk 0 ([] : List aS)), false) else (nZ n y3.1).bind fun (y4 : aS) => some (y4, true)))))
theorem wX (self_expr_join : aS → aS → Option (aS × Bool)) (ih_expr_join : ∀ (p0 : aS) (p1 : aS) (r : (aS × Bool)), self_expr_join p0 p1 = some r → cN E 155 0 [.agg [I p0.Kind, .lit (List.map bF p0.Of)], .agg [I p1.Kind, .lit (List.map bF p1.Of)]] [] (.tup [.agg [I r.1.Kind, .lit (List.map bF r.1.Of)], .c (Bo r.2)]) []) (n : Nat) (p0 : aS) (p1 : aS) (r : (aS × Bool)) (h : qC self_expr_join n p0 p1 = some r) : cN E 155 0 [.agg [I p0.Kind, .lit (List.map bF p0.Of)], .agg [I p1.Kind, .lit (List.map bF p1.Of)]] [] (.tup [.agg [I r.1.Kind, .lit (List.map bF r.1.Of)], .c (Bo r.2)]) [] := by
 refine fW Tryz.func155 rfl ?_
 unfold qC at h
 refine za [2, 3, 4] ?_
 refine aK ?_
 refine aF ?_
 refine za [2, 3, 4, 8] ?_
 refine zi h (fun h => ?_) fun h => ?_
 refine za [4, 5] ?_
 cases h
 exact aG zr
 refine zx fun _ => ?_
 refine zk 2 ?_
 refine zl bF p0.Of ?_
 refine zk 2 ?_
 refine ze [2, 3, 4, 15] ?_
 refine zi h (fun h => ?_) fun h => ?_
 refine za [4, 5] ?_
 cases h
 exact aG zr
 refine zx fun _ => ?_
 refine zk 2 ?_
 refine zl bF p1.Of ?_
 refine zk 2 ?_
 refine ze [2, 3, 4, 21] ?_
 refine zi h (fun h => ?_) fun h => ?_
 refine za [4, 5] ?_
 cases h
 exact aG zr
 refine aC ?_
 refine wP [[], [0], [1, 0], [2, 1, 0], [], [4], [5, 4], [6, 5, 4], [3, 7, 2, 1, 0, 6, 5, 4], [8, 3, 7, 2, 1, 0, 6, 5, 4], [9, 8, 3, 7, 2, 1, 0, 6, 5, 4], [9, 8, 3, 7, 2, 1, 0, 6, 5, 4], [], [12, 10, 8, 0, 1, 2, 3, 4, 5, 6, 7, 9], [11, 13, 0, 1, 2, 3, 4, 5, 6, 7, 8, 9, 10, 12]] fun _ => ?_
 refine zk 2 ?_
 obtain ⟨e1, he, h⟩ := aB h
 refine cF (v := .c (.imm [I e1.Kind, .lit (List.map bF e1.Of)])) (foot := []) (dR (enc := bF) (sz := 2) (l := p0.Of) (ix := 0) he (by kernel_rfl) (fU e1) (by kernel_rfl)) (by kernel_rfl) rfl rfl ?_
 clear he
 refine zk 3 ?_
 obtain ⟨e2, he, h⟩ := aB h
 refine cF (v := .c (.imm [I e2.Kind, .lit (List.map bF e2.Of)])) (foot := []) (dR (enc := bF) (sz := 2) (l := p1.Of) (ix := 0) he (by kernel_rfl) (fU e2) (by kernel_rfl)) (by kernel_rfl) rfl rfl ?_
 clear he
 refine zk 1 ?_
 obtain ⟨y3, he, h⟩ := aB h
 refine zc Rd (ih_expr_join _ _ y3 he) ?_
 clear he
 refine zk 6 ?_
 refine jV [4, 6, 7] (L2 := [(4, .c (.ptr 2 0)), (6, .c (.ptr 32 0)), (7, .c (Bo y3.2))]) (G2 := [(0, .blk 190 [I p0.Kind, .lit (List.map bF p0.Of)]), (1, .blk 190 [I p1.Kind, .lit (List.map bF p1.Of)]), (2, .blk 190 [I 0, bY]), (32, .blk 190 [I y3.1.Kind, .lit (List.map bF y3.1.Of)])]) 35 ?_
 refine aK ?_
 refine za [4, 6, 40] ?_
 refine zi h (fun h => ?_) fun h => ?_
 refine za [4, 5] ?_
 cases h
 exact aG zr
 refine aC ?_
 refine zx fun _ => ?_
 refine zk 1 ?_
 obtain ⟨y4, he, h⟩ := aB h
 refine zc Mb (pK n _ y4 he) ?_
 clear he
 refine zk 2 ?_
 refine ze [4, 5] ?_
 cases h
 exact aG zr
def rB : Nat → aS → aS → Option (aS × Bool)
 | 0, _, _ => none
 | n + 1, p0, p1 => qC (fun a0 a1 => rB n a0 a1) n p0 p1
theorem Ic (n : Nat) : (∀ (p0 : aS) (p1 : aS) (r : (aS × Bool)), rB n p0 p1 = some r → cN E 155 0 [.agg [I p0.Kind, .lit (List.map bF p0.Of)], .agg [I p1.Kind, .lit (List.map bF p1.Of)]] [] (.tup [.agg [I r.1.Kind, .lit (List.map bF r.1.Of)], .c (Bo r.2)]) []) := by
 induction n with
 | zero => intro p0 p1 r h; rw [rB] at h; cases h
 | succ n ih => intro p0 p1 r h; rw [rB] at h; exact wX _ ih n _ _ r h
def mX (l3 : List aS) (j2 : Int → List aS → Option (aS × Bool)) : Nat → Int → Int → List aS → Option (aS × Bool)
 | 0, _, _, _ => none
 | n + 1, v6, v7, v8 => (if (decide (v6 < (List.length l3 : Int))) = true then (idx l3 v6).bind fun (e9 : aS) => (rB n (aS.mk v7 v8) e9).bind fun (y10 : (aS × Bool)) => (if (!y10.2) = true then some ((aS.mk 0 ([] : List aS)), false) else mX l3 j2 n (IntKind.wrap .i64 (v6 + 1)) y10.1.Kind y10.1.Of) else j2 v7 v8)
def mK  (n : Nat) (p0 : (List aS)) : Option (aS × Bool) := (if ((List.length p0 : Int) == 0) = true then some ((aS.mk 4 ([] : List aS)), true) else (idx p0 0).bind fun (e1 : aS) => (aV (fun (v14 : Int) (v15 : List aS) => (nZ n (aS.mk v14 v15)).bind fun (y16 : aS) => some (y16, true)) (fun (j2 : Int → List aS → Option (aS × Bool)) => (Pb p0 1 (List.length p0 : Int)).bind fun (l3 : List aS) => mX l3 j2 n 0 e1.Kind e1.Of)))
theorem Cj  (n : Nat) (p0 : (List aS)) (r : (aS × Bool)) (h : mK n p0 = some r) : cN E 152 0 [.c (.lit (List.map bF p0))] [] (.tup [.agg [I r.1.Kind, .lit (List.map bF r.1.Of)], .c (Bo r.2)]) [] := by
 refine fW Tryz.func152 rfl ?_
 unfold mK at h
 refine za [0, 2] ?_
 refine aK ?_
 refine zx fun _ => ?_
 refine zk 1 ?_
 refine zl bF p0 ?_
 refine zk 1 ?_
 refine ze [0, 2, 10] ?_
 refine zi h (fun h => ?_) fun h => ?_
 refine za [2, 3] ?_
 cases h
 exact aG zr
 refine aC ?_
 refine zx fun _ => ?_
 refine zk 1 ?_
 obtain ⟨e1, he, h⟩ := aB h
 refine cF (v := .c (.imm [I e1.Kind, .lit (List.map bF e1.Of)])) (foot := []) (dR (enc := bF) (sz := 2) (l := p0) (ix := 0) he (by kernel_rfl) (fU e1) (by kernel_rfl)) (by kernel_rfl) rfl rfl ?_
 clear he
 refine zk 3 ?_
 refine ze [0, 2, 4] ?_
 refine aQ h (fun A j => ∀ v14 v15, j v14 v15 = some r → A (mk [(2, .c (.ptr 0 0)), (4, .c (.ptr 1 0))] [(0, .blk 190 [I 0, bY]), (1, .blk 190 [I v14, .lit (List.map bF v15)])] 2)) (fun v14 v15 h => ?_) (fun j2 Aj2 hj2 h => ?_)
 refine zx fun _ => ?_
 refine zk 1 ?_
 obtain ⟨y16, he, h⟩ := aB h
 refine zc Mb (pK n _ y16 he) ?_
 clear he
 refine zk 2 ?_
 refine ze [2, 3] ?_
 cases h
 exact aG zr
 refine zx fun _ => ?_
 refine zk 1 ?_
 obtain ⟨l3, he, h⟩ := aB h
 refine zw (v := .c (.lit (List.map bF l3))) [] (Gd (enc := bF) (l := p0) (p := 1) (q := (List.length p0 : Int)) (sz := 2) he (by kernel_rfl) (fun x => by rw [fU]; rfl)) ?_
 clear he
 refine zl bF l3 ?_
 refine zk 1 ?_
 refine jV [2, 4, 16, 17, 18] (L2 := [(2, .c (.ptr 0 0)), (4, .c (.ptr 8 0)), (16, .c (.lit (List.map bF l3))), (17, .c (I (List.length l3 : Int))), (18, .c (I 0))]) (G2 := [(0, .blk 190 [I 0, bY]), (8, .blk 190 [I e1.Kind, .lit (List.map bF e1.Of)])]) 14 ?_
 refine aF ?_
 refine bA (fun n s => ∃ v6 v7 v8, mX l3 j2 n v6 v7 v8 = some r ∧ s = mk [(2, .c (.ptr 0 0)), (4, .c (.ptr 1 0)), (16, .c (.lit (List.map bF l3))), (17, .c (I (List.length l3 : Int))), (18, .c (I v6))] [(0, .blk 190 [I 0, bY]), (1, .blk 190 [I v7, .lit (List.map bF v8)])] 2) n _ (zv [(0, 0), (8, 1)] [2, 4, 16, 17, 18] 2) ⟨_, _, _, h, rfl⟩ (fun s ⟨v6, v7, v8, h, _⟩ => nomatch h) ?_
 rintro n s ⟨v6, v7, v8, h, rfl⟩
 rw [mX] at h
 refine za [2, 4, 16, 17, 18, 19] ?_
 refine aK ?_
 refine zi h (fun h => ?_) fun h => ?_
 refine aC ?_
 refine aK ?_
 refine aF ?_
 refine zx fun _ => ?_
 obtain ⟨e9, he, h⟩ := aB h
 refine cF (v := .c (.imm [I e9.Kind, .lit (List.map bF e9.Of)])) (foot := []) (dR (enc := bF) (sz := 2) (l := l3) (ix := v6) he (by kernel_rfl) (fU e9) (by kernel_rfl)) (by kernel_rfl) rfl rfl ?_
 clear he
 refine zk 3 ?_
 refine ze [2, 4, 6, 16, 17, 18] ?_
 refine za [2, 4, 6, 16, 17, 18] ?_
 refine zx fun _ => ?_
 refine zk 2 ?_
 obtain ⟨y10, he, h⟩ := aB h
 refine zc Rd (Ic n _ _ y10 he) ?_
 clear he
 refine zk 5 ?_
 refine ze [2, 4, 7, 16, 17, 18] ?_
 refine za [2, 4, 16, 17, 18, 29] ?_
 refine zi h (fun h => ?_) fun h => ?_
 refine za [2, 3] ?_
 cases h
 exact aG zr
 refine aC ?_
 refine aT ?_
 refine zb ?_
 exact dI (zv [(0, 0), (1, 1)] [2, 4, 16, 17, 18] 2) (⟨_, _, _, h, rfl⟩)
 exact aI (zv [(0, 0), (1, 1)] [2, 4] 2) (bD (hj2 _ _ h))
def iQ (p0 : aH) (self_expr_check : aH → Int → Int → Option (aS × Int × Int)) (p1 : Int) (j6 : List aS → Int → Option (aS × Int × Int)) : Nat → List aS → Int → Int → Option (aS × Int × Int)
 | 0, _, _, _ => none
 | n + 1, v10, v11, v12 => (if (decide (v11 < (List.length p0.L : Int))) = true then (idx p0.L v11).bind fun (e13 : aH) => (self_expr_check e13 (IntKind.wrap .i64 (p1 + 1)) v12).bind fun (y14 : (aS × Int × Int)) => (if (y14.2.1 != 0) = true then some ((aS.mk 0 ([] : List aS)), y14.2.1, y14.2.2) else (pE 32 v10 [y14.1]).bind fun (l15 : List aS) => iQ p0 self_expr_check p1 j6 n l15 (IntKind.wrap .i64 (v11 + 1)) y14.2.2) else j6 v10 v12)
def eJ (self_expr_check : aH → Int → Int → Option (aS × Int × Int)) (n : Nat) (p0 : aH) (p1 : Int) (p2 : Int) : Option (aS × Int × Int) := (if ((p0.Kind == 4) && (decide (p1 ≥ 16))) = true then some ((aS.mk 0 ([] : List aS)), 8, p2) else (iF n p0).bind fun (y1 : Bool) => (if (!y1) = true then some ((aS.mk 0 ([] : List aS)), 9, (IntKind.wrap .i64 (p2 + 1))) else (aV (fun (v4 : Bool) => (if v4 = true then some ((aS.mk 0 ([] : List aS)), 1, (IntKind.wrap .i64 (p2 + 1))) else (if (((decide ((ByteArray.size p0.S : Int) > 2000)) || (decide ((List.length p0.L : Int) > 100))) || (decide ((IntKind.wrap .i64 (p2 + 1)) > 1000))) = true then some ((aS.mk 0 ([] : List aS)), 2, (IntKind.wrap .i64 (p2 + 1))) else (utf8_ValidString n p0.S).bind fun (y5 : Bool) => (if (!y5) = true then some ((aS.mk 0 ([] : List aS)), 3, (IntKind.wrap .i64 (p2 + 1))) else (if (p0.Kind != 4) = true then some ((aS.mk p0.Kind ([] : List aS)), 0, (IntKind.wrap .i64 (p2 + 1))) else (aV (fun (v19 : List aS) (v20 : Int) => (mK n v19).bind fun (y21 : (aS × Bool)) => (if (!y21.2) = true then some ((aS.mk 0 ([] : List aS)), 5, v20) else some (y21.1, 0, v20))) (fun (j6 : List aS → Int → Option (aS × Int × Int)) => iQ p0 self_expr_check p1 j6 n ([] : List aS) 0 (IntKind.wrap .i64 (p2 + 1))))))))) (fun (j2 : Bool → Option (aS × Int × Int)) => (gd [(p0.Kind == 1)] (iE n p0.N)).bind fun (y3 : Bool) => (if ((p0.Kind == 1) && (!y3)) = true then j2 ((p0.Kind == 1) && (!y3)) else j2 (((p0.Kind == 2) && (p0.N != 0)) && (p0.N != 1)))))))
theorem wR (self_expr_check : aH → Int → Int → Option (aS × Int × Int)) (ih_expr_check : ∀ (p0 : aH) (p1 : Int) (p2 : Int) (r : (aS × Int × Int)), self_expr_check p0 p1 p2 = some r → cN E 147 1 [.agg [I p0.Kind, I p0.N, Sx p0.S, .lit (List.map aO p0.L)], .c (I p1), .c (.ptr 0 0)] [(0, .blk 3 [I p2])] (.tup [.agg [I r.1.Kind, .lit (List.map bF r.1.Of)], .c (I r.2.1)]) [(0, .blk 3 [I r.2.2])]) (n : Nat) (p0 : aH) (p1 : Int) (p2 : Int) (r : (aS × Int × Int)) (h : eJ self_expr_check n p0 p1 p2 = some r) : cN E 147 1 [.agg [I p0.Kind, I p0.N, Sx p0.S, .lit (List.map aO p0.L)], .c (I p1), .c (.ptr 0 0)] [(0, .blk 3 [I p2])] (.tup [.agg [I r.1.Kind, .lit (List.map bF r.1.Of)], .c (I r.2.1)]) [(0, .blk 3 [I r.2.2])] := by
 refine fW Tryz.func147 rfl ?_
 unfold eJ at h
 refine za [1, 2, 3, 6] ?_
 refine aK ?_
 refine zx fun _ => ?_
 refine zk 4 ?_
 refine zE (.c (I p1)) ?_
 refine zE (.c (Bo (decide (p1 ≥ 16)))) ?_
 refine zP (.bool ((p0.Kind == 4) && (decide (p1 ≥ 16)))) ?_
 refine ze [1, 2, 3, 6, 21] ?_
 refine zi h (fun h => ?_) fun h => ?_
 refine za [6, 7] ?_
 cases h
 exact aG zr
 refine aC ?_
 refine za [1, 2, 3, 6] ?_
 refine aK ?_
 refine aF ?_
 refine zx fun _ => ?_
 refine zk 1 ?_
 obtain ⟨y1, he, h⟩ := aB h
 refine zc Yh (Cz n _ y1 he) ?_
 clear he
 refine zk 2 ?_
 refine ze [1, 2, 3, 6, 28] ?_
 refine zi h (fun h => ?_) fun h => ?_
 refine za [6, 7] ?_
 cases h
 exact aG zr
 refine aQ h (fun A j => ∀ v4, j v4 = some r → A (mk [(1, .c (I p1)), (2, .c (.ptr 0 0)), (3, .c (.ptr 1 0)), (6, .c (.ptr 2 0)), (33, .c (Bo v4))] [(0, .blk 3 [I (IntKind.wrap .i64 (p2 + 1))]), (1, .blk 152 [I p0.Kind, I p0.N, Sx p0.S, .lit (List.map aO p0.L)]), (2, .blk 190 [I 0, bY])] 3)) (fun v4 h => ?_) (fun j2 Aj2 hj2 h => ?_)
 refine zi h (fun h => ?_) fun h => ?_
 refine za [6, 7] ?_
 cases h
 exact aG zr
 refine zx fun _ => ?_
 refine zk 5 ?_
 refine zE (.c (.ptr 1 3)) ?_
 refine zE (.c (.lit (List.map aO p0.L))) ?_
 refine jW (e := [(!(decide ((ByteArray.size p0.S : Int) > 2000)))]) [(64, .c (.lit (List.map aO p0.L)), some 1)] (v := .c (I (List.length p0.L : Int))) (foot := []) (by kernel_rfl) (by kernel_rfl) (by kernel_rfl) (fun hg => kR (enc := aO) (l := p0.L) (by kernel_rfl)) rfl rfl ?_
 refine zE (.c (Bo (decide ((List.length p0.L : Int) > 100)))) ?_
 refine zP (.bool ((decide ((ByteArray.size p0.S : Int) > 2000)) || (decide ((List.length p0.L : Int) > 100)))) ?_
 refine zk 1 ?_
 refine zE (.c (.ptr 0 0)) ?_
 refine zE (.c (.ptr 0 0)) ?_
 refine zE (.c (I (IntKind.wrap .i64 (p2 + 1)))) ?_
 refine zE (.c (Bo (decide ((IntKind.wrap .i64 (p2 + 1)) > 1000)))) ?_
 refine zP (.bool (((decide ((ByteArray.size p0.S : Int) > 2000)) || (decide ((List.length p0.L : Int) > 100))) || (decide ((IntKind.wrap .i64 (p2 + 1)) > 1000)))) ?_
 refine zk 1 ?_
 refine jV [1, 2, 3, 6, 57] (L2 := [(1, .c (I p1)), (2, .c (.ptr 0 0)), (3, .c (.ptr 1 0)), (6, .c (.ptr 2 0)), (57, .c (Bo (((decide ((ByteArray.size p0.S : Int) > 2000)) || (decide ((List.length p0.L : Int) > 100))) || (decide ((IntKind.wrap .i64 (p2 + 1)) > 1000)))))]) (G2 := [(0, .blk 3 [I (IntKind.wrap .i64 (p2 + 1))]), (1, .blk 152 [I p0.Kind, I p0.N, Sx p0.S, .lit (List.map aO p0.L)]), (2, .blk 190 [I 0, bY])]) 20 ?_
 refine zi h (fun h => ?_) fun h => ?_
 refine za [6, 7] ?_
 cases h
 exact aG zr
 refine zx fun _ => ?_
 refine zk 2 ?_
 obtain ⟨y5, he, h⟩ := aB h
 refine zc Yr (vT n _ y5 he) ?_
 clear he
 refine zk 2 ?_
 refine ze [1, 2, 3, 6, 75] ?_
 refine zi h (fun h => ?_) fun h => ?_
 refine za [6, 7] ?_
 cases h
 exact aG zr
 refine za [1, 2, 3, 6, 81] ?_
 refine zi h (fun h => ?_) fun h => ?_
 refine za [6, 7] ?_
 cases h
 exact aG zr
 refine aC ?_
 refine za [1, 2, 3, 6, 8] ?_
 refine aQ h (fun A j => ∀ v19 v20, j v19 v20 = some r → A (mk [(6, .c (.ptr 1 0)), (8, .c (.app 2 (List.map bF v19)))] [(0, .blk 3 [I v20]), (1, .blk 190 [I 0, bY]), (2, .tok 190 2 (List.length v19))] 3)) (fun v19 v20 h => ?_) (fun j6 Aj6 hj6 h => ?_)
 refine zx fun _ => ?_
 refine zk 1 ?_
 obtain ⟨y21, he, h⟩ := aB h
 refine zc Yo (Cj n _ y21 he) ?_
 clear he
 refine zk 6 ?_
 refine ze [6, 13, 14] ?_
 refine aK ?_
 refine za [6, 13, 118] ?_
 refine zi h (fun h => ?_) fun h => ?_
 refine za [6, 7] ?_
 cases h
 exact aG zr
 refine aC ?_
 refine za [6, 7] ?_
 cases h
 exact aG zr
 refine zx fun _ => ?_
 refine zk 2 ?_
 refine zl aO p0.L ?_
 refine zk 1 ?_
 refine ze [1, 2, 6, 8, 89, 90, 91] ?_
 refine aF ?_
 refine bA (fun n s => ∃ v10 v11 v12, iQ p0 self_expr_check p1 j6 n v10 v11 v12 = some r ∧ s = mk [(1, .c (I p1)), (2, .c (.ptr 0 0)), (6, .c (.ptr 1 0)), (8, .c (.app 2 (List.map bF v10))), (89, .c (.lit (List.map aO p0.L))), (90, .c (I (List.length p0.L : Int))), (91, .c (I v11))] [(0, .blk 3 [I v12]), (1, .blk 190 [I 0, bY]), (2, .tok 190 2 (List.length v10))] 3) n _ (dU.trans (mJ (L2 := [(1, .c (I p1)), (2, .c (.ptr 0 0)), (6, .c (.ptr 2 0)), (8, .c (.app 34 (List.map bF ([] : List aS)))), (89, .c (.lit (List.map aO p0.L))), (90, .c (I (List.length p0.L : Int))), (91, .c (I 0))]) (G2 := [(0, .blk 3 [I (IntKind.wrap .i64 (p2 + 1))]), (1, .blk 152 [I p0.Kind, I p0.N, Sx p0.S, .lit (List.map aO p0.L)]), (2, .blk 190 [I 0, bY]), (34, .tok 190 2 (List.length ([] : List aS)))]) (lim2 := 35) 8 190 2 (by kernel_rfl) (by kernel_rfl) (by kernel_rfl) (by kernel_rfl)) (zv [(0, 0), (2, 1), (34, 2)] [1, 2, 6, 8, 89, 90, 91] 3)) ⟨_, _, _, h, rfl⟩ (fun s ⟨v10, v11, v12, h, _⟩ => nomatch h) ?_
 rintro n s ⟨v10, v11, v12, h, rfl⟩
 rw [iQ] at h
 refine za [1, 2, 6, 8, 89, 90, 91, 92] ?_
 refine aK ?_
 refine zi h (fun h => ?_) fun h => ?_
 refine aC ?_
 refine aK ?_
 refine aF ?_
 refine zx fun _ => ?_
 obtain ⟨e13, he, h⟩ := aB h
 refine cF (v := .c (.imm [I e13.Kind, I e13.N, Sx e13.S, .lit (List.map aO e13.L)])) (foot := []) (dR (enc := aO) (sz := 4) (l := p0.L) (ix := v11) he (by kernel_rfl) (dO e13) (by kernel_rfl)) (by kernel_rfl) rfl rfl ?_
 clear he
 refine zk 3 ?_
 refine ze [1, 2, 6, 8, 10, 89, 90, 91] ?_
 refine zx fun _ => ?_
 refine zk 4 ?_
 obtain ⟨y14, he, h⟩ := aB h
 refine zo [(0, 0)] Ro (ih_expr_check _ _ _ y14 he) ?_
 clear he
 refine zk 6 ?_
 refine ze [1, 2, 6, 8, 11, 12, 89, 90, 91] ?_
 refine aK ?_
 refine za [1, 2, 6, 8, 11, 12, 89, 90, 91, 104] ?_
 refine zi h (fun h => ?_) fun h => ?_
 refine za [6, 7] ?_
 cases h
 exact aG zr
 refine aC ?_
 refine zy fun _ => ?_
 refine zk 2 ?_
 refine pO (e := 190) (sz := 2) (len := 1) (r := [I y14.1.Kind, .lit (List.map bF y14.1.Of)]) (l' := List.map bF [y14.1]) (nm := 23) (by kernel_rfl) (by simp only [List.map_cons, List.map_nil, fU]; kernel_rfl) (by kernel_rfl) (by kernel_rfl) rfl rfl rfl ?_
 obtain ⟨l15, he, h⟩ := aB h
 refine cB (enc := bF) (l := v10) (els := [y14.1]) (r := l15) (old := some 2) (e := 190) (sz := 2) (bytes := 32) (k := (List.length v10)) (nm := 24) he (by kernel_rfl) (by kernel_rfl) (fun x => by rw [fU]; rfl) (by kernel_rfl) (by kernel_rfl) rfl rfl rfl ?_
 clear he
 refine zk 1 ?_
 refine bL ?_
 refine aT ?_
 refine zb ?_
 exact dI (zv [(0, 0), (1, 1), (24, 2)] [1, 2, 6, 8, 89, 90, 91] 3) (⟨_, _, _, h, rfl⟩)
 exact aI (zv [(0, 0), (1, 1), (2, 2)] [6, 8] 3) (bD (hj6 _ _ h))
 refine zx fun _ => ?_
 refine zk 4 ?_
 refine zE (.c (.ptr 1 1)) ?_
 refine zE (.c (I p0.N)) ?_
 obtain ⟨y3, he, h⟩ := aB h
 refine Ho [(p0.Kind == 1)] Yb (fun hg => Eo n _ y3 (bT he hg)) ?_
 clear he
 refine zE (.c (Bo (!y3))) ?_
 refine zP (.bool ((p0.Kind == 1) && (!y3))) ?_
 refine zk 1 ?_
 refine jV [1, 2, 3, 6, 33] (L2 := [(1, .c (I p1)), (2, .c (.ptr 0 0)), (3, .c (.ptr 1 0)), (6, .c (.ptr 2 0)), (33, .c (Bo ((p0.Kind == 1) && (!y3))))]) (G2 := [(0, .blk 3 [I (IntKind.wrap .i64 (p2 + 1))]), (1, .blk 152 [I p0.Kind, I p0.N, Sx p0.S, .lit (List.map aO p0.L)]), (2, .blk 190 [I 0, bY])]) 31 ?_
 refine zi h (fun h => ?_) fun h => ?_
 exact aI (zv [(0, 0), (1, 1), (2, 2)] [1, 2, 3, 6, 33] 3) (aC (hj2 _ h))
 refine aT ?_
 refine zy fun _ => ?_
 refine zk 4 ?_
 refine zE (.c (.ptr 1 1)) ?_
 refine zE (.c (I p0.N)) ?_
 refine zE (.c (Bo (p0.N != 0))) ?_
 refine zP (.bool ((p0.Kind == 2) && (p0.N != 0))) ?_
 refine zk 1 ?_
 refine zE (.c (.ptr 1 1)) ?_
 refine zE (.c (I p0.N)) ?_
 refine zE (.c (Bo (p0.N != 1))) ?_
 refine zP (.bool (((p0.Kind == 2) && (p0.N != 0)) && (p0.N != 1))) ?_
 refine zk 1 ?_
 refine bL ?_
 exact dI (zv [(0, 0), (1, 1), (2, 2)] [1, 2, 3, 6, 33] 3) (hj2 _ h)
def dX : Nat → aH → Int → Int → Option (aS × Int × Int)
 | 0, _, _, _ => none
 | n + 1, p0, p1, p2 => eJ (fun a0 a1 a2 => dX n a0 a1 a2) n p0 p1 p2
theorem Ev (n : Nat) : (∀ (p0 : aH) (p1 : Int) (p2 : Int) (r : (aS × Int × Int)), dX n p0 p1 p2 = some r → cN E 147 1 [.agg [I p0.Kind, I p0.N, Sx p0.S, .lit (List.map aO p0.L)], .c (I p1), .c (.ptr 0 0)] [(0, .blk 3 [I p2])] (.tup [.agg [I r.1.Kind, .lit (List.map bF r.1.Of)], .c (I r.2.1)]) [(0, .blk 3 [I r.2.2])]) := by
 induction n with
 | zero => intro p0 p1 p2 r h; rw [dX] at h; cases h
 | succ n ih => intro p0 p1 p2 r h; rw [dX] at h; exact wR _ ih n _ _ _ r h
end Go.Proofs.YtojkihhnioeggaaGreatDoor.S
