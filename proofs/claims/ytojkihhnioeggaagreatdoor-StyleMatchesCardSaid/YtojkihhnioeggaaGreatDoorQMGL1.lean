import Derived.Test.YtojkihhnioeggaaGreatDoorQMGL0
set_option linter.unusedVariables false
set_option linter.unusedSimpArgs false
set_option maxRecDepth 100000
set_option maxHeartbeats 4000000
namespace Go.Proofs.YtojkihhnioeggaaGreatDoor.S
open Go Go.Bm
def dH (y2 : (bC × aP)) (v32 : Int) (y4 : (bS × aP)) (y3 : ((List aU) × aP)) (j34 : Unit → Option Bool) (p1 : Int) : Nat → Int → Option Bool
 | 0, _ => none
 | n + 1, v43 => (if (decide (v43 < (List.length y2.1.Nodes : Int))) = true then (oE v32 (List.length y4.1.Rules)).bind fun (k44 : Nat) => (y4.1.Rules[k44]?).bind fun (e45 : cC) => (idx y2.1.Nodes v43).bind fun (e46 : aR) => (jA n e45 y2.1 y3.1 e46.ID).bind fun (y47 : Bool) => (oE v32 (List.length y4.1.Rules)).bind fun (k48 : Nat) => (y4.1.Rules[k48]?).bind fun (e49 : cC) => (idx y2.1.Nodes v43).bind fun (e50 : aR) => (iZ n e49 y2.1 y3.1 e50.ID).bind fun (y51 : Bool) => (if (y47 != y51) = true then some false else dH y2 v32 y4 y3 j34 p1 n (IntKind.wrap .i64 (v43 + 1))) else j34 ())
def dG (y4 : (bS × aP)) (y2 : (bC × aP)) (y3 : ((List aU) × aP)) (p1 : Int) (j5 : Unit → Option Bool) : Nat → Int → Option Bool
 | 0, _ => none
 | n + 1, v32 => (if (decide (v32 < (List.length y4.1.Rules : Int))) = true then (aV (fun (_ : Unit) => dG y4 y2 y3 p1 j5 n (IntKind.wrap .i64 (v32 + 1))) (fun (j33 : Unit → Option Bool) => (aV (fun (_ : Unit) => (oE v32 (List.length y4.1.Rules)).bind fun (k53 : Nat) => (y4.1.Rules[k53]?).bind fun (e54 : cC) => (jA n e54 y2.1 y3.1 p1).bind fun (y55 : Bool) => (oE v32 (List.length y4.1.Rules)).bind fun (k56 : Nat) => (y4.1.Rules[k56]?).bind fun (e57 : cC) => (iZ n e57 y2.1 y3.1 p1).bind fun (y58 : Bool) => (if (y55 != y58) = true then some false else j33 ())) (fun (j34 : Unit → Option Bool) => dH y2 v32 y4 y3 j34 p1 n 0)))) else j5 ())
def fT  (n : Nat) (p0 : (List Int)) (p1 : Int) : Option Bool := (uR n p0).bind fun (y1 : aP) => (uI n y1 3).bind fun (y2 : (bC × aP)) => (pQ n y2.2 y2.1).bind fun (y3 : ((List aU) × aP)) => (rO n y3.2).bind fun (y4 : (bS × aP)) => (aV (fun (_ : Unit) => (oA n).bind fun (y60 : Bool) => some y60) (fun (j5 : Unit → Option Bool) => dG y4 y2 y3 p1 j5 n 0))
theorem tH  (n : Nat) (p0 : (List Int)) (p1 : Int) (r : Bool) (h : fT n p0 p1 = some r) : cN E 5 0 [.c (.lit (List.map aJ p0)), .c (I p1)] [] (.c (Bo r)) [] := by
 refine fW Tryz.func5 rfl ?_
 unfold fT at h
 refine za [0, 1] ?_
 refine zx fun _ => ?_
 refine zk 1 ?_
 obtain ⟨y1, he, h⟩ := aB h
 refine rI (F := 9) (As := [.c (.lit (List.map aJ p0))]) (Bs := [.c (.lit (List.map aJ p0))]) (σ := [(0, 2)]) (k := 0) (kn := 0) (nm := 2) (Gc := []) (Gf := [(0, .blk 78 [.lit (List.map aJ y1.L), I y1.At])]) (r := .c (.ptr 0 0)) (v := .c (.ptr 2 0)) (by kernel_rfl) fok9 ⟨.inl (by kernel_rfl), trivial⟩ (Iw n _ y1 he) (by kernel_rfl) (by kernel_rfl) (by kernel_rfl) (by kernel_rfl) (by kernel_rfl) (by kernel_rfl) rfl rfl rfl ?_
 clear he
 refine zk 1 ?_
 refine ze [1, 5] ?_
 refine zx fun _ => ?_
 refine zk 1 ?_
 obtain ⟨y2, he, h⟩ := aB h
 refine zo [(0, 2)] Zy (Lf n _ _ y2 he) ?_
 clear he
 refine zk 2 ?_
 refine ze [1, 5, 6] ?_
 refine zx fun _ => ?_
 refine zk 2 ?_
 obtain ⟨y3, he, h⟩ := aB h
 refine zo [(0, 2)] fok14 (Ex n _ _ y3 he) ?_
 clear he
 refine zk 1 ?_
 refine jV [1, 5, 6, 7] (L2 := [(1, .c (I p1)), (5, .c (.ptr 2 0)), (6, .c (.ptr 6 0)), (7, .c (.lit (List.map bG y3.1)))]) (G2 := [(2, .blk 78 [.lit (List.map aJ y3.2.L), I y3.2.At]), (6, .blk 27 [I y2.1.Root, I y2.1.Next, .lit (List.map aE y2.1.Nodes)])]) 12 ?_
 refine zx fun _ => ?_
 refine zk 1 ?_
 obtain ⟨y4, he, h⟩ := aB h
 refine rI (F := 11) (As := [.c (.ptr 2 0)]) (Bs := [.c (.ptr 0 0)]) (σ := [(0, 2), (1, 13)]) (k := 1) (kn := 1) (nm := 13) (Gc := [(0, .blk 78 [.lit (List.map aJ y3.2.L), I y3.2.At])]) (Gf := [(0, .blk 78 [.lit (List.map aJ y4.2.L), I y4.2.At]), (1, .vec 63 6 (List.map aW y4.1.Rules))]) (r := .agg [.row 1]) (v := .agg [.row 13]) (by kernel_rfl) fok11 ⟨.inr ⟨(by kernel_rfl), (by kernel_rfl)⟩, trivial⟩ (Hy n _ y4 he) (by kernel_rfl) (by kernel_rfl) (by kernel_rfl) (by kernel_rfl) (by kernel_rfl) (by kernel_rfl) rfl rfl rfl ?_
 clear he
 refine zk 2 ?_
 refine ze [1, 6, 7, 8] ?_
 refine aQ h (fun A j => ∀ u, j u = some r → A (mk [] [] 0)) (fun u h => ?_) (fun j5 Aj5 hj5 h => ?_)
 refine zx fun _ => ?_
 obtain ⟨y60, he, h⟩ := aB h
 refine zc fok20 (Dq n  y60 he) ?_
 clear he
 refine zk 1 ?_
 refine ze [4] ?_
 cases h
 exact aG zr
 refine za [1, 6, 7, 8, 9] ?_
 refine aF ?_
 refine bA (fun n s => ∃ v32, dG y4 y2 y3 p1 j5 n v32 = some r ∧ s = mk [(1, .c (I p1)), (6, .c (.ptr 0 0)), (7, .c (.lit (List.map bG y3.1))), (8, .c (.ptr 1 0)), (9, .c (I v32))] [(0, .blk 27 [I y2.1.Root, I y2.1.Next, .lit (List.map aE y2.1.Nodes)]), (1, .blk 31 [.row 2]), (2, .vec 63 6 (List.map aW y4.1.Rules))] 3) n _ (zv [(6, 0), (14, 1), (13, 2)] [1, 6, 7, 8, 9] 3) ⟨_, h, rfl⟩ (fun s ⟨v32, h, _⟩ => nomatch h) ?_
 rintro n s ⟨v32, h, rfl⟩
 rw [dG] at h
 refine aK ?_
 refine zx fun _ => ?_
 refine zk 3 ?_
 refine cF (v := .c (I (List.length y4.1.Rules : Int))) (foot := [2]) (Bg (enc := aW) (l := y4.1.Rules) (n := 2) (by kernel_rfl)) (by kernel_rfl) rfl rfl ?_
 refine zk 1 ?_
 refine ze [1, 6, 7, 8, 9, 24] ?_
 refine zi h (fun h => ?_) fun h => ?_
 refine aC ?_
 refine aQ h (fun A j => ∀ u, j u = some r → A (mk [(1, .c (I p1)), (6, .c (.ptr 0 0)), (7, .c (.lit (List.map bG y3.1))), (8, .c (.ptr 1 0)), (9, .c (I v32))] [(0, .blk 27 [I y2.1.Root, I y2.1.Next, .lit (List.map aE y2.1.Nodes)]), (1, .blk 31 [.row 2]), (2, .vec 63 6 (List.map aW y4.1.Rules))] 3)) (fun u h => ?_) (fun j33 Aj33 hj33 h => ?_)
 refine aT ?_
 refine zb ?_
 exact dI (zv [(0, 0), (1, 1), (2, 2)] [1, 6, 7, 8, 9] 3) (⟨_, h, rfl⟩)
 refine aF ?_
 refine aQ h (fun A j => ∀ u, j u = some r → A (mk [(1, .c (I p1)), (6, .c (.ptr 0 0)), (7, .c (.lit (List.map bG y3.1))), (8, .c (.ptr 1 0)), (9, .c (I v32))] [(0, .blk 27 [I y2.1.Root, I y2.1.Next, .lit (List.map aE y2.1.Nodes)]), (1, .blk 31 [.row 2]), (2, .vec 63 6 (List.map aW y4.1.Rules))] 3)) (fun u h => ?_) (fun j34 Aj34 hj34 h => ?_)
 refine wP [[], [0], [], [1, 2, 0], [3, 1, 2, 0], [], [], [], [4, 5, 6, 7, 3, 1, 2, 0], [], [9], [], [10, 11, 9], [12, 10, 11, 9], [], [], [], [13, 14, 15, 16, 8, 12, 10, 11, 9, 4, 5, 6, 7, 3, 1, 2, 0], [8, 17, 4, 5, 6, 7, 3, 1, 2, 0, 13, 14, 15, 16, 12, 10, 11, 9]] fun _ => ?_
 refine zk 3 ?_
 obtain ⟨k53, he, h⟩ := aB h
 refine cF (v := .c (.ptr 2 (k53 * 6))) (foot := [2]) (dD (enc := aW) (l := y4.1.Rules) (n := 2) (sz := 6) (k := k53) (ix := v32) he (by kernel_rfl)) (by kernel_rfl) rfl rfl ?_
 have hb_k53 := dP he; clear he
 obtain ⟨e54, he, h⟩ := aB h
 refine zw (v := .agg [I e54.Kind, Sx e54.Class, I e54.States, I e54.UnderKind, Sx e54.UnderClass, .lit (List.map bK e54.Decls)]) [2] (gE (enc := aW) (l := y4.1.Rules) (n := 2) (q := k53) (f := 0) (sz := 6) (e := e54) (j := ⟨.st [(3, 0, 1), (9, 1, 1), (3, 2, 1), (3, 3, 1), (9, 4, 1), (61, 5, 1)], 6, 80, [.int .i64 0, .string ⟨#[]⟩, .int .i64 0, .int .i64 0, .string ⟨#[]⟩, .slice none 0 0]⟩) he (by kernel_rfl) (by kernel_rfl)) ?_
 clear he
 refine zk 3 ?_
 obtain ⟨y55, he, h⟩ := aB h
 refine zc Wx (rC n _ _ _ _ y55 he) ?_
 clear he
 refine zk 3 ?_
 obtain ⟨k56, he, h⟩ := aB h
 refine cF (v := .c (.ptr 2 (k56 * 6))) (foot := [2]) (dD (enc := aW) (l := y4.1.Rules) (n := 2) (sz := 6) (k := k56) (ix := v32) he (by kernel_rfl)) (by kernel_rfl) rfl rfl ?_
 have hb_k56 := dP he; clear he
 obtain ⟨e57, he, h⟩ := aB h
 refine zw (v := .agg [I e57.Kind, Sx e57.Class, I e57.States, I e57.UnderKind, Sx e57.UnderClass, .lit (List.map bK e57.Decls)]) [2] (gE (enc := aW) (l := y4.1.Rules) (n := 2) (q := k56) (f := 0) (sz := 6) (e := e57) (j := ⟨.st [(3, 0, 1), (9, 1, 1), (3, 2, 1), (3, 3, 1), (9, 4, 1), (61, 5, 1)], 6, 80, [.int .i64 0, .string ⟨#[]⟩, .int .i64 0, .int .i64 0, .string ⟨#[]⟩, .slice none 0 0]⟩) he (by kernel_rfl) (by kernel_rfl)) ?_
 clear he
 refine zk 3 ?_
 obtain ⟨y58, he, h⟩ := aB h
 refine zc Wp (rH n _ _ _ _ y58 he) ?_
 clear he
 refine zk 1 ?_
 refine jV [1, 6, 7, 8, 9, 81] (L2 := [(1, .c (I p1)), (6, .c (.ptr 0 0)), (7, .c (.lit (List.map bG y3.1))), (8, .c (.ptr 1 0)), (9, .c (I v32)), (81, .c (Bo (y55 != y58)))]) (G2 := [(0, .blk 27 [I y2.1.Root, I y2.1.Next, .lit (List.map aE y2.1.Nodes)]), (1, .blk 31 [.row 2]), (2, .vec 63 6 (List.map aW y4.1.Rules))]) 22 ?_
 refine zi h (fun h => ?_) fun h => ?_
 refine za [4] ?_
 cases h
 exact aG zr
 exact aI (zv [(0, 0), (1, 1), (2, 2)] [1, 6, 7, 8, 9] 3) (aC (hj33 _ h))
 refine za [1, 6, 7, 8, 9, 10] ?_
 refine aF ?_
 refine bA (fun n s => ∃ v43, dH y2 v32 y4 y3 j34 p1 n v43 = some r ∧ s = mk [(1, .c (I p1)), (6, .c (.ptr 0 0)), (7, .c (.lit (List.map bG y3.1))), (8, .c (.ptr 1 0)), (9, .c (I v32)), (10, .c (I v43))] [(0, .blk 27 [I y2.1.Root, I y2.1.Next, .lit (List.map aE y2.1.Nodes)]), (1, .blk 31 [.row 2]), (2, .vec 63 6 (List.map aW y4.1.Rules))] 3) n _ (zv [(0, 0), (1, 1), (2, 2)] [1, 6, 7, 8, 9, 10] 3) ⟨_, h, rfl⟩ (fun s ⟨v43, h, _⟩ => nomatch h) ?_
 rintro n s ⟨v43, h, rfl⟩
 rw [dH] at h
 refine aK ?_
 refine zx fun _ => ?_
 refine zk 3 ?_
 refine zl aE y2.1.Nodes ?_
 refine zk 1 ?_
 refine ze [1, 6, 7, 8, 9, 10, 31] ?_
 refine zi h (fun h => ?_) fun h => ?_
 refine aC ?_
 refine aK ?_
 refine aF ?_
 refine wP [[], [0], [], [1, 2, 0], [3, 1, 2, 0], [], [], [], [7], [], [8, 9, 7], [10, 8, 9, 7], [11, 10, 8, 9, 7], [4, 5, 6, 12, 3, 1, 2, 0, 11, 10, 8, 9, 7], [], [14], [], [15, 16, 14], [17, 15, 16, 14], [], [], [], [21], [], [22, 23, 21], [24, 22, 23, 21], [25, 24, 22, 23, 21], [18, 19, 20, 26, 13, 17, 15, 16, 14, 25, 24, 22, 23, 21, 4, 5, 6, 12, 3, 1, 2, 0, 11, 10, 8, 9, 7], [13, 27, 4, 5, 6, 12, 3, 1, 2, 0, 11, 10, 8, 9, 7, 18, 19, 20, 26, 17, 15, 16, 14, 25, 24, 22, 23, 21]] fun _ => ?_
 refine zk 3 ?_
 obtain ⟨k44, he, h⟩ := aB h
 refine cF (v := .c (.ptr 2 (k44 * 6))) (foot := [2]) (dD (enc := aW) (l := y4.1.Rules) (n := 2) (sz := 6) (k := k44) (ix := v32) he (by kernel_rfl)) (by kernel_rfl) rfl rfl ?_
 have hb_k44 := dP he; clear he
 obtain ⟨e45, he, h⟩ := aB h
 refine zw (v := .agg [I e45.Kind, Sx e45.Class, I e45.States, I e45.UnderKind, Sx e45.UnderClass, .lit (List.map bK e45.Decls)]) [2] (gE (enc := aW) (l := y4.1.Rules) (n := 2) (q := k44) (f := 0) (sz := 6) (e := e45) (j := ⟨.st [(3, 0, 1), (9, 1, 1), (3, 2, 1), (3, 3, 1), (9, 4, 1), (61, 5, 1)], 6, 80, [.int .i64 0, .string ⟨#[]⟩, .int .i64 0, .int .i64 0, .string ⟨#[]⟩, .slice none 0 0]⟩) he (by kernel_rfl) (by kernel_rfl)) ?_
 clear he
 refine zk 5 ?_
 obtain ⟨e46, he, h⟩ := aB h
 refine zd aE he ?_
 clear he
 refine zk 2 ?_
 obtain ⟨y47, he, h⟩ := aB h
 refine zc Wx (rC n _ _ _ _ y47 he) ?_
 clear he
 refine zk 3 ?_
 obtain ⟨k48, he, h⟩ := aB h
 refine cF (v := .c (.ptr 2 (k48 * 6))) (foot := [2]) (dD (enc := aW) (l := y4.1.Rules) (n := 2) (sz := 6) (k := k48) (ix := v32) he (by kernel_rfl)) (by kernel_rfl) rfl rfl ?_
 have hb_k48 := dP he; clear he
 obtain ⟨e49, he, h⟩ := aB h
 refine zw (v := .agg [I e49.Kind, Sx e49.Class, I e49.States, I e49.UnderKind, Sx e49.UnderClass, .lit (List.map bK e49.Decls)]) [2] (gE (enc := aW) (l := y4.1.Rules) (n := 2) (q := k48) (f := 0) (sz := 6) (e := e49) (j := ⟨.st [(3, 0, 1), (9, 1, 1), (3, 2, 1), (3, 3, 1), (9, 4, 1), (61, 5, 1)], 6, 80, [.int .i64 0, .string ⟨#[]⟩, .int .i64 0, .int .i64 0, .string ⟨#[]⟩, .slice none 0 0]⟩) he (by kernel_rfl) (by kernel_rfl)) ?_
 clear he
 refine zk 5 ?_
 obtain ⟨e50, he, h⟩ := aB h
 refine zd aE he ?_
 clear he
 refine zk 2 ?_
 obtain ⟨y51, he, h⟩ := aB h
 refine zc Wp (rH n _ _ _ _ y51 he) ?_
 clear he
 refine zk 1 ?_
 refine jV [1, 6, 7, 8, 9, 10, 62] (L2 := [(1, .c (I p1)), (6, .c (.ptr 0 0)), (7, .c (.lit (List.map bG y3.1))), (8, .c (.ptr 1 0)), (9, .c (I v32)), (10, .c (I v43)), (62, .c (Bo (y47 != y51)))]) (G2 := [(0, .blk 27 [I y2.1.Root, I y2.1.Next, .lit (List.map aE y2.1.Nodes)]), (1, .blk 31 [.row 2]), (2, .vec 63 6 (List.map aW y4.1.Rules))]) 37 ?_
 refine zi h (fun h => ?_) fun h => ?_
 refine za [4] ?_
 cases h
 exact aG zr
 refine aC ?_
 refine aT ?_
 refine zb ?_
 exact dI (zv [(0, 0), (1, 1), (2, 2)] [1, 6, 7, 8, 9, 10] 3) (⟨_, h, rfl⟩)
 exact aI (zv [(0, 0), (1, 1), (2, 2)] [1, 6, 7, 8, 9] 3) (bD (hj34 _ h))
 exact aI (zv [] [] 0) (bD (hj5 _ h))
end Go.Proofs.YtojkihhnioeggaaGreatDoor.S
