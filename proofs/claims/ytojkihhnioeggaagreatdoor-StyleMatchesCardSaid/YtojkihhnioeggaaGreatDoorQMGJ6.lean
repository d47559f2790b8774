import Derived.Test.YtojkihhnioeggaaGreatDoorQMGJ5
set_option linter.unusedVariables false
set_option linter.unusedSimpArgs false
set_option maxRecDepth 100000
set_option maxHeartbeats 4000000
namespace Go.Proofs.YtojkihhnioeggaaGreatDoor.S
open Go Go.Bm
def lV (p0 : cC) (j18 : Int → Option cY) (v17 : Int) : Nat → Int → Int → Option cY
 | 0, _, _ => none
 | n + 1, v21, v22 => (if (decide (v21 < 2)) = true then (aV (fun (v25 : Int) => lV p0 j18 v17 n (IntKind.wrap .i64 (v21 + 1)) v25) (fun (j23 : Int → Option cY) => (idx (cY.toL (cY.mk p0.Kind p0.UnderKind)) v21).bind fun (e24 : Int) => (if (e24 != 0) = true then j23 (IntKind.wrap .i64 (v22 + 1)) else j23 v22))) else j18 v22)
def lS (j12 : Int → Option cY) (p0 : cC) : Nat → Int → Int → Option cY
 | 0, _, _ => none
 | n + 1, v13, v14 => (if (v13 != 0) = true then lS j12 p0 n (lQ .i64 v13 (IntKind.wrap .i64 (v13 - 1))) (IntKind.wrap .i64 (v14 + 1)) else j12 v14)
def lT (p0 : cC) (j1 : Int → Option cY) : Nat → Int → Int → Option cY
 | 0, _, _ => none
 | n + 1, v4, v5 => (if (decide (v4 < 2)) = true then (aV (fun (v8 : Int) => lT p0 j1 n (IntKind.wrap .i64 (v4 + 1)) v8) (fun (j6 : Int → Option cY) => (idx (bZ.toL (bZ.mk p0.Class p0.UnderClass)) v4).bind fun (e7 : ByteArray) => (if (!(cG e7 (⟨#[]⟩ : ByteArray))) = true then j6 (IntKind.wrap .i64 (v5 + 1)) else j6 v5))) else j1 v5)
def oP  (n : Nat) (p0 : cC) : Option cY := (aV (fun (v11 : Int) => (aV (fun (v17 : Int) => (aV (fun (v28 : Int) => some (cY.mk v17 v28)) (fun (j18 : Int → Option cY) => lV p0 j18 v17 n 0 0))) (fun (j12 : Int → Option cY) => lS j12 p0 n p0.States v11))) (fun (j1 : Int → Option cY) => lT p0 j1 n 0 0))
theorem tE  (n : Nat) (p0 : cC) (r : cY) (h : oP n p0 = some r) : cN E 39 0 [.agg [I p0.Kind, Sx p0.Class, I p0.States, I p0.UnderKind, Sx p0.UnderClass, .lit (List.map bK p0.Decls)]] [] (.agg [I r.x0, I r.x1]) [] := by
 refine fW Tryz.func39 rfl ?_
 unfold oP at h
 refine za [1, 2] ?_
 refine za [1, 2, 3] ?_
 refine aQ h (fun A j => ∀ v11, j v11 = some r → A (mk [(1, .c (.ptr 0 0)), (2, .c (.ptr 1 0)), (3, .c (.ptr 2 0))] [(0, .blk 63 [I p0.Kind, Sx p0.Class, I p0.States, I p0.UnderKind, Sx p0.UnderClass, .lit (List.map bK p0.Decls)]), (1, .blk 97 [I 0, I 0]), (2, .blk 97 [I v11, I 0])] 3)) (fun v11 h => ?_) (fun j1 Aj1 hj1 h => ?_)
 refine aQ h (fun A j => ∀ v17, j v17 = some r → A (mk [(1, .c (.ptr 0 0)), (2, .c (.ptr 1 0)), (3, .c (.ptr 2 0))] [(0, .blk 63 [I p0.Kind, Sx p0.Class, I p0.States, I p0.UnderKind, Sx p0.UnderClass, .lit (List.map bK p0.Decls)]), (1, .blk 97 [I 0, I 0]), (2, .blk 97 [I v17, I 0])] 3)) (fun v17 h => ?_) (fun j12 Aj12 hj12 h => ?_)
 refine aQ h (fun A j => ∀ v28, j v28 = some r → A (mk [(2, .c (.ptr 0 0)), (3, .c (.ptr 1 0))] [(0, .blk 97 [I 0, I 0]), (1, .blk 97 [I v17, I v28])] 2)) (fun v28 h => ?_) (fun j18 Aj18 hj18 h => ?_)
 refine za [2] ?_
 cases h
 exact aG zr
 refine za [2, 3, 40, 41] ?_
 refine aF ?_
 refine bA (fun n s => ∃ v21 v22, lV p0 j18 v17 n v21 v22 = some r ∧ s = mk [(2, .c (.ptr 0 0)), (3, .c (.ptr 1 0)), (40, .agg [I p0.Kind, I p0.UnderKind]), (41, .c (I v21))] [(0, .blk 97 [I 0, I 0]), (1, .blk 97 [I v17, I v22])] 2) n _ (zv [(1, 0), (2, 1)] [2, 3, 40, 41] 2) ⟨_, _, h, rfl⟩ (fun s ⟨v21, v22, h, _⟩ => nomatch h) ?_
 rintro n s ⟨v21, v22, h, rfl⟩
 rw [lV] at h
 refine za [2, 3, 40, 41, 42] ?_
 refine aK ?_
 refine zi h (fun h => ?_) fun h => ?_
 refine aC ?_
 refine aQ h (fun A j => ∀ v25, j v25 = some r → A (mk [(2, .c (.ptr 0 0)), (3, .c (.ptr 1 0)), (40, .agg [I p0.Kind, I p0.UnderKind]), (41, .c (I v21))] [(0, .blk 97 [I 0, I 0]), (1, .blk 97 [I v17, I v25])] 2)) (fun v25 h => ?_) (fun j23 Aj23 hj23 h => ?_)
 refine aT ?_
 refine zb ?_
 exact dI (zv [(0, 0), (1, 1)] [2, 3, 40, 41] 2) (⟨_, _, h, rfl⟩)
 refine aF ?_
 refine zx fun _ => ?_
 obtain ⟨e24, he, h⟩ := aB h
 refine cF (v := .c (I e24)) (foot := []) (Bb (enc := aJ) (xs := (cY.toL (cY.mk p0.Kind p0.UnderKind))) (ix := v21) (e := e24) (len := 2) (j := ⟨.int .i64, 1, 8, [.int .i64 0]⟩) (v := .c (I e24)) he (by kernel_rfl) (by kernel_rfl) (fun x => by kernel_rfl) (by decide) (by kernel_rfl)) (by kernel_rfl) rfl rfl ?_
 clear he
 refine zk 1 ?_
 refine ze [2, 3, 8, 40, 41] ?_
 refine za [2, 3, 40, 41, 45] ?_
 refine zi h (fun h => ?_) fun h => ?_
 refine aT ?_
 refine zb ?_
 exact dI (zv [(0, 0), (1, 1)] [2, 3, 40, 41] 2) (hj23 _ h)
 exact aI (zv [(0, 0), (1, 1)] [2, 3, 40, 41] 2) (aC (hj23 _ h))
 exact aI (zv [(0, 0), (1, 1)] [2, 3] 2) (bD (hj18 _ h))
 refine za [1, 2, 3, 6] ?_
 refine aF ?_
 refine bA (fun n s => ∃ v13 v14, lS j12 p0 n v13 v14 = some r ∧ s = mk [(1, .c (.ptr 0 0)), (2, .c (.ptr 1 0)), (3, .c (.ptr 2 0)), (6, .c (I v13))] [(0, .blk 63 [I p0.Kind, Sx p0.Class, I p0.States, I p0.UnderKind, Sx p0.UnderClass, .lit (List.map bK p0.Decls)]), (1, .blk 97 [I 0, I 0]), (2, .blk 97 [I v14, I 0])] 3) n _ (zv [(0, 0), (1, 1), (2, 2)] [1, 2, 3, 6] 3) ⟨_, _, h, rfl⟩ (fun s ⟨v13, v14, h, _⟩ => nomatch h) ?_
 rintro n s ⟨v13, v14, h, rfl⟩
 rw [lS] at h
 refine aK ?_
 refine za [1, 2, 3, 6, 27] ?_
 refine zi h (fun h => ?_) fun h => ?_
 refine aC ?_
 refine aK ?_
 refine aF ?_
 refine zb ?_
 refine aT ?_
 refine zb ?_
 exact dI (zv [(0, 0), (1, 1), (2, 2)] [1, 2, 3, 6] 3) (⟨_, _, h, rfl⟩)
 exact aI (zv [(0, 0), (1, 1), (2, 2)] [1, 2, 3] 3) (bD (hj12 _ h))
 refine za [1, 2, 3, 13, 14] ?_
 refine aF ?_
 refine bA (fun n s => ∃ v4 v5, lT p0 j1 n v4 v5 = some r ∧ s = mk [(1, .c (.ptr 0 0)), (2, .c (.ptr 1 0)), (3, .c (.ptr 2 0)), (13, .agg [Sx p0.Class, Sx p0.UnderClass]), (14, .c (I v4))] [(0, .blk 63 [I p0.Kind, Sx p0.Class, I p0.States, I p0.UnderKind, Sx p0.UnderClass, .lit (List.map bK p0.Decls)]), (1, .blk 97 [I 0, I 0]), (2, .blk 97 [I v5, I 0])] 3) n _ (zv [(0, 0), (1, 1), (2, 2)] [1, 2, 3, 13, 14] 3) ⟨_, _, h, rfl⟩ (fun s ⟨v4, v5, h, _⟩ => nomatch h) ?_
 rintro n s ⟨v4, v5, h, rfl⟩
 rw [lT] at h
 refine za [1, 2, 3, 13, 14, 15] ?_
 refine aK ?_
 refine zi h (fun h => ?_) fun h => ?_
 refine aC ?_
 refine aQ h (fun A j => ∀ v8, j v8 = some r → A (mk [(1, .c (.ptr 0 0)), (2, .c (.ptr 1 0)), (3, .c (.ptr 2 0)), (13, .agg [Sx p0.Class, Sx p0.UnderClass]), (14, .c (I v4))] [(0, .blk 63 [I p0.Kind, Sx p0.Class, I p0.States, I p0.UnderKind, Sx p0.UnderClass, .lit (List.map bK p0.Decls)]), (1, .blk 97 [I 0, I 0]), (2, .blk 97 [I v8, I 0])] 3)) (fun v8 h => ?_) (fun j6 Aj6 hj6 h => ?_)
 refine aT ?_
 refine zb ?_
 exact dI (zv [(0, 0), (1, 1), (2, 2)] [1, 2, 3, 13, 14] 3) (⟨_, _, h, rfl⟩)
 refine aF ?_
 refine zx fun _ => ?_
 obtain ⟨e7, he, h⟩ := aB h
 refine cF (v := .c (Sx e7)) (foot := []) (Bb (enc := eS) (xs := (bZ.toL (bZ.mk p0.Class p0.UnderClass))) (ix := v4) (e := e7) (len := 2) (j := ⟨.str, 1, 16, [.string ⟨#[]⟩]⟩) (v := .c (Sx e7)) he (by kernel_rfl) (by kernel_rfl) (fun x => by kernel_rfl) (by decide) (by kernel_rfl)) (by kernel_rfl) rfl rfl ?_
 clear he
 refine zk 1 ?_
 refine ze [1, 2, 3, 5, 13, 14] ?_
 refine za [1, 2, 3, 13, 14, 18] ?_
 refine zi h (fun h => ?_) fun h => ?_
 refine aT ?_
 refine zb ?_
 exact dI (zv [(0, 0), (1, 1), (2, 2)] [1, 2, 3, 13, 14] 3) (hj6 _ h)
 exact aI (zv [(0, 0), (1, 1), (2, 2)] [1, 2, 3, 13, 14] 3) (aC (hj6 _ h))
 exact aI (zv [(0, 0), (1, 1), (2, 2)] [1, 2, 3] 3) (bD (hj1 _ h))
def nO  (n : Nat) (p0 : Int) : Option Bool := some (p0 != p0)
theorem rP  (n : Nat) (p0 : Int) (r : Bool) (h : nO n p0 = some r) : cN E 104 0 [.c (I p0)] [] (.c (Bo r)) [] := by
 refine fW Tryz.func104 rfl ?_
 unfold nO at h
 refine za [0] ?_
 refine za [2] ?_
 cases h
 exact aG zr
def oF  (n : Nat) (p0 : Int) (p1 : Int) : Option Int := (nO n p0).bind fun (y1 : Bool) => (nO n p1).bind fun (y2 : Bool) => (if y1 = true then (if y2 = true then some 0 else some (-1 : Int)) else (if y2 = true then some 1 else (if (decide (p0 < p1)) = true then some (-1 : Int) else (if (decide (p0 > p1)) = true then some 1 else some 0))))
theorem wD  (n : Nat) (p0 : Int) (p1 : Int) (r : Int) (h : oF n p0 p1 = some r) : cN E 72 0 [.c (I p0), .c (I p1)] [] (.c (I r)) [] := by
 refine fW Tryz.func72 rfl ?_
 unfold oF at h
 refine za [0, 1] ?_
 refine zx fun _ => ?_
 refine zk 1 ?_
 obtain ⟨y1, he, h⟩ := aB h
 refine zc Ss (rP n _ y1 he) ?_
 clear he
 refine zk 1 ?_
 refine ze [0, 1, 5] ?_
 refine zx fun _ => ?_
 refine zk 1 ?_
 obtain ⟨y2, he, h⟩ := aB h
 refine zc Ss (rP n _ y2 he) ?_
 clear he
 refine zk 1 ?_
 refine ze [0, 1, 5, 6] ?_
 refine aK ?_
 refine za [0, 1, 6, 11] ?_
 refine zi h (fun h => ?_) fun h => ?_
 refine aK ?_
 refine za [12] ?_
 refine zi h (fun h => ?_) fun h => ?_
 refine za [4] ?_
 cases h
 exact aG zr
 refine aC ?_
 refine za [4] ?_
 cases h
 exact aG zr
 refine aC ?_
 refine aK ?_
 refine za [0, 1, 13] ?_
 refine zi h (fun h => ?_) fun h => ?_
 refine za [4] ?_
 cases h
 exact aG zr
 refine aC ?_
 refine aK ?_
 refine za [0, 1, 16] ?_
 refine zi h (fun h => ?_) fun h => ?_
 refine za [4] ?_
 cases h
 exact aG zr
 refine aC ?_
 refine aK ?_
 refine za [19] ?_
 refine zi h (fun h => ?_) fun h => ?_
 refine za [4] ?_
 cases h
 exact aG zr
 refine aC ?_
 refine za [4] ?_
 cases h
 exact aG zr
def fM (p0 : (List Int)) (p1 : (List Int)) (j1 : Unit → Option Int) : Nat → Int → Option Int
 | 0, _ => none
 | n + 1, v5 => (if (decide (v5 < (List.length p0 : Int))) = true then (idx p0 v5).bind fun (e6 : Int) => (if (decide (v5 ≥ (List.length p1 : Int))) = true then some 1 else (idx p1 v5).bind fun (e7 : Int) => (oF n e6 e7).bind fun (y8 : Int) => (if (y8 != 0) = true then some y8 else fM p0 p1 j1 n (IntKind.wrap .i64 (v5 + 1)))) else j1 ())
def jP  (n : Nat) (p0 : (List Int)) (p1 : (List Int)) : Option Int := (aV (fun (_ : Unit) => (if (decide ((List.length p0 : Int) < (List.length p1 : Int))) = true then some (-1 : Int) else some 0)) (fun (j1 : Unit → Option Int) => fM p0 p1 j1 n 0))
theorem qF  (n : Nat) (p0 : (List Int)) (p1 : (List Int)) (r : Int) (h : jP n p0 p1 = some r) : cN E 40 0 [.c (.lit (List.map aJ p0)), .c (.lit (List.map aJ p1))] [] (.c (I r)) [] := by
 refine fW Tryz.func40 rfl ?_
 unfold jP at h
 refine za [0, 1] ?_
 refine aQ h (fun A j => ∀ u, j u = some r → A (mk [(0, .c (.lit (List.map aJ p0))), (1, .c (.lit (List.map aJ p1)))] [] 0)) (fun u h => ?_) (fun j1 Aj1 hj1 h => ?_)
 refine aK ?_
 refine zx fun _ => ?_
 refine zk 1 ?_
 refine zl aJ p0 ?_
 refine zk 1 ?_
 refine zl aJ p1 ?_
 refine zk 1 ?_
 refine ze [35] ?_
 refine zi h (fun h => ?_) fun h => ?_
 refine za [4] ?_
 cases h
 exact aG zr
 refine aC ?_
 refine za [4] ?_
 cases h
 exact aG zr
 refine zx fun _ => ?_
 refine zk 1 ?_
 refine zl aJ p0 ?_
 refine zk 1 ?_
 refine ze [0, 1, 9, 10, 11] ?_
 refine aF ?_
 refine bA (fun n s => ∃ v5, fM p0 p1 j1 n v5 = some r ∧ s = mk [(0, .c (.lit (List.map aJ p0))), (1, .c (.lit (List.map aJ p1))), (9, .c (.lit (List.map aJ p0))), (10, .c (I (List.length p0 : Int))), (11, .c (I v5))] [] 0) n _ (zv [] [0, 1, 9, 10, 11] 0) ⟨_, h, rfl⟩ (fun s ⟨v5, h, _⟩ => nomatch h) ?_
 rintro n s ⟨v5, h, rfl⟩
 rw [fM] at h
 refine za [0, 1, 9, 10, 11, 12] ?_
 refine aK ?_
 refine zi h (fun h => ?_) fun h => ?_
 refine aC ?_
 refine aK ?_
 refine aF ?_
 refine zx fun _ => ?_
 refine zk 1 ?_
 obtain ⟨e6, he, h⟩ := aB h
 refine zd aJ he ?_
 clear he
 refine zk 3 ?_
 refine ze [0, 1, 5, 6, 9, 10, 11] ?_
 refine aK ?_
 refine zx fun _ => ?_
 refine zk 2 ?_
 refine zl aJ p1 ?_
 refine zk 1 ?_
 refine ze [0, 1, 5, 6, 9, 10, 11, 19] ?_
 refine zi h (fun h => ?_) fun h => ?_
 refine za [4] ?_
 cases h
 exact aG zr
 refine aC ?_
 refine zx fun _ => ?_
 refine zk 2 ?_
 obtain ⟨e7, he, h⟩ := aB h
 refine zd aJ he ?_
 clear he
 refine zk 2 ?_
 refine jV [0, 1, 6, 7, 9, 10, 11] (L2 := [(0, .c (.lit (List.map aJ p0))), (1, .c (.lit (List.map aJ p1))), (9, .c (.lit (List.map aJ p0))), (10, .c (I (List.length p0 : Int))), (11, .c (I v5)), (6, .c (I e6)), (7, .c (I e7))]) (G2 := []) 15 ?_
 refine zx fun _ => ?_
 refine zk 2 ?_
 obtain ⟨y8, he, h⟩ := aB h
 refine zc fok72 (wD n _ _ y8 he) ?_
 clear he
 refine zk 1 ?_
 refine ze [0, 1, 8, 9, 10, 11] ?_
 refine za [0, 1, 8, 9, 10, 11, 28] ?_
 refine zi h (fun h => ?_) fun h => ?_
 refine za [4] ?_
 cases h
 exact aG zr
 refine aC ?_
 refine aT ?_
 refine zb ?_
 exact dI (zv [] [0, 1, 9, 10, 11] 0) (⟨_, h, rfl⟩)
 exact aI (zv [] [0, 1] 0) (bD (hj1 _ h))
def iC  (n : Nat) (p0 : Int) (p1 : Int) (p2 : bS) : Option Int := (idx p2.Rules p0).bind fun (e1 : cC) => (oP n e1).bind fun (y2 : cY) => (idx p2.Rules p1).bind fun (e3 : cC) => (oP n e3).bind fun (y4 : cY) => (jP n [y2.x0, y2.x1] [y4.x0, y4.x1]).bind fun (y5 : Int) => some y5
theorem jJ  (n : Nat) (p0 : Int) (p1 : Int) (p2 : bS) (r : Int) (h : iC n p0 p1 p2 = some r) : cN E 38 0 [.c (I p0), .c (I p1), .c (.imm [.lit (List.map aW p2.Rules)])] [] (.c (I r)) [] := by
 refine fW Tryz.func38 rfl ?_
 unfold iC at h
 refine za [0, 1, 2] ?_
 refine wP [[], [0], [], [1, 2, 0], [3, 1, 2, 0], [4, 3, 1, 2, 0], [], [6], [], [7, 8, 6], [9, 7, 8, 6], [10, 5, 9, 7, 8, 6, 4, 3, 1, 2, 0], [], [], [12, 5, 11, 0, 1, 2, 3, 4, 10, 13, 9, 7, 8, 6], [13, 11, 14, 0, 1, 2, 3, 4, 5, 6, 7, 8, 9, 10, 12]] fun _ => ?_
 refine zk 3 ?_
 obtain ⟨e1, he, h⟩ := aB h
 refine zd aW he ?_
 clear he
 refine zk 1 ?_
 obtain ⟨y2, he, h⟩ := aB h
 refine zc Ww (tE n _ y2 he) ?_
 clear he
 refine zk 3 ?_
 obtain ⟨e3, he, h⟩ := aB h
 refine zd aW he ?_
 clear he
 refine zk 1 ?_
 obtain ⟨y4, he, h⟩ := aB h
 refine zc Ww (tE n _ y4 he) ?_
 clear he
 refine zk 4 ?_
 refine jV [6, 7] (L2 := [(6, .c (.ptr 13 0)), (7, .c (.ptr 14 0))]) (G2 := [(13, .blk 97 [I y2.x0, I y2.x1]), (14, .blk 97 [I y4.x0, I y4.x1])]) 17 ?_
 refine aI (vM 13 (T := 97) (l := [I y2.x0, I y2.x1]) (l2 := [I y2.x0, I y2.x1]) (L2 := [(6, .c (.imm [I y2.x0, I y2.x1])), (7, .c (.ptr 14 0))]) (G2 := [(14, .blk 97 [I y4.x0, I y4.x1])]) (by kernel_rfl) (by kernel_rfl) (by kernel_rfl) (by kernel_rfl)) ?_
 refine aI (vM 14 (T := 97) (l := [I y4.x0, I y4.x1]) (l2 := [I y4.x0, I y4.x1]) (L2 := [(6, .c (.imm [I y2.x0, I y2.x1])), (7, .c (.imm [I y4.x0, I y4.x1]))]) (G2 := []) (by kernel_rfl) (by kernel_rfl) (by kernel_rfl) (by kernel_rfl)) ?_
 refine wP [[], [], [0, 1], [2, 0, 1]] fun _ => ?_
 refine zw (v := .c (.lit (List.map aJ [y2.x0, y2.x1]))) [] (Do (l := [I y2.x0, I y2.x1]) (len := 2) (sz := 1) (r := List.map aJ [y2.x0, y2.x1]) (by kernel_rfl) (by kernel_rfl) (by kernel_rfl)) ?_
 refine zw (v := .c (.lit (List.map aJ [y4.x0, y4.x1]))) [] (Do (l := [I y4.x0, I y4.x1]) (len := 2) (sz := 1) (r := List.map aJ [y4.x0, y4.x1]) (by kernel_rfl) (by kernel_rfl) (by kernel_rfl)) ?_
 obtain ⟨y5, he, h⟩ := aB h
 refine zc fok40 (qF n _ _ y5 he) ?_
 clear he
 refine zk 1 ?_
 refine ze [5] ?_
 cases h
 exact aG zr
def dC (p1 : Int) (p3 : bS) (j35 : List Int → Option (List Int)) (p2 : Int) (v33 : Int) : Nat → Int → List Int → Option (List Int)
 | 0, _, _ => none
 | n + 1, v49, v50 => (gd [(decide (v49 > p1))] (oE v49 (List.length v50))).bind fun (k51 : Nat) => (gd [(decide (v49 > p1))] (v50[k51]?)).bind fun (e52 : Int) => (gd [(decide (v49 > p1))] (oE (IntKind.wrap .i64 (v49 - 1)) (List.length v50))).bind fun (k53 : Nat) => (gd [(decide (v49 > p1))] (v50[k53]?)).bind fun (e54 : Int) => (gd [(decide (v49 > p1))] (iC n e52 e54 p3)).bind fun (y55 : Int) => (if ((decide (v49 > p1)) && (decide (y55 < 0))) = true then (oE (IntKind.wrap .i64 (v49 - 1)) (List.length v50)).bind fun (k56 : Nat) => (v50[k56]?).bind fun (e57 : Int) => (oE v49 (List.length v50)).bind fun (k58 : Nat) => (v50[k58]?).bind fun (e59 : Int) => (oE v49 (List.length v50)).bind fun (k60 : Nat) => (v50[k60]?).bind fun (e61 : Int) => (oE (IntKind.wrap .i64 (v49 - 1)) (List.length (List.set v50 k60 e57))).bind fun (k62 : Nat) => ((List.set v50 k60 e57)[k62]?).bind fun (e63 : Int) => dC p1 p3 j35 p2 v33 n (IntKind.wrap .i64 (v49 - 1)) (List.set (List.set v50 k60 e57) k62 e59) else j35 v50)
def dA (p2 : Int) (p1 : Int) (p3 : bS) : Nat → Int → List Int → Option (List Int)
 | 0, _, _ => none
 | n + 1, v33, v34 => (if (decide (v33 < p2)) = true then (aV (fun (v66 : List Int) => dA p2 p1 p3 n (IntKind.wrap .i64 (v33 + 1)) v66) (fun (j35 : List Int → Option (List Int)) => dC p1 p3 j35 p2 v33 n v33 v34)) else some v34)
def dM  (n : Nat) (p0 : (List Int)) (p1 : Int) (p2 : Int) (p3 : bS) : Option (List Int) := dA p2 p1 p3 n (IntKind.wrap .i64 (p1 + 1)) p0
theorem gY  (n : Nat) (p0 : (List Int)) (p1 : Int) (p2 : Int) (p3 : bS) (r : (List Int)) (h : dM n p0 p1 p2 p3 = some r) : cN E 102 1 [.c (.row 0), .c (I p1), .c (I p2), .c (.fn 38 [.imm [.lit (List.map aW p3.Rules)]])] [(0, .vec 3 1 (List.map aJ p0))] (.tup []) [(0, .vec 3 1 (List.map aJ r))] := by
 refine fW Tryz.func102 rfl ?_
 unfold dM at h
 refine za [0, 1, 2, 3, 8] ?_
 refine aF ?_
 refine bA (fun n s => ∃ v33 v34, dA p2 p1 p3 n v33 v34 = some r ∧ s = mk [(0, .c (.row 0)), (1, .c (I p1)), (2, .c (I p2)), (3, .c (.fn 38 [.imm [.lit (List.map aW p3.Rules)]])), (8, .c (I v33))] [(0, .vec 3 1 (List.map aJ v34))] 1) n _ (zv [(0, 0)] [0, 1, 2, 3, 8] 1) ⟨_, _, h, rfl⟩ (fun s ⟨v33, v34, h, _⟩ => nomatch h) ?_
 rintro n s ⟨v33, v34, h, rfl⟩
 rw [dA] at h
 refine aK ?_
 refine za [0, 1, 2, 3, 8, 14] ?_
 refine zi h (fun h => ?_) fun h => ?_
 refine aC ?_
 refine aQ h (fun A j => ∀ v66, j v66 = some r → A (mk [(0, .c (.row 0)), (1, .c (I p1)), (2, .c (I p2)), (3, .c (.fn 38 [.imm [.lit (List.map aW p3.Rules)]])), (8, .c (I v33))] [(0, .vec 3 1 (List.map aJ v66))] 1)) (fun v66 h => ?_) (fun j35 Aj35 hj35 h => ?_)
 refine aT ?_
 refine zb ?_
 exact dI (zv [(0, 0)] [0, 1, 2, 3, 8] 1) (⟨_, _, h, rfl⟩)
 refine aF ?_
 refine za [0, 1, 2, 3, 8, 9] ?_
 refine aF ?_
 refine bA (fun n s => ∃ v49 v50, dC p1 p3 j35 p2 v33 n v49 v50 = some r ∧ s = mk [(0, .c (.row 0)), (1, .c (I p1)), (2, .c (I p2)), (3, .c (.fn 38 [.imm [.lit (List.map aW p3.Rules)]])), (8, .c (I v33)), (9, .c (I v49))] [(0, .vec 3 1 (List.map aJ v50))] 1) n _ (zv [(0, 0)] [0, 1, 2, 3, 8, 9] 1) ⟨_, _, h, rfl⟩ (fun s ⟨v49, v50, h, _⟩ => nomatch h) ?_
 rintro n s ⟨v49, v50, h, rfl⟩
 rw [dC] at h
 refine aK ?_
 refine wP [[], [], [0, 1], [2, 0, 1], [3, 2, 0, 1], [3, 2, 0, 1], [3, 2, 0, 1], [5, 6, 3, 2, 0, 1], [7, 3, 5, 6, 2, 0, 1], [3, 2, 0, 1], [3, 2, 0, 1], [10, 3, 2, 0, 1], [9, 11, 3, 2, 0, 1, 10], [12, 3, 9, 11, 2, 0, 1, 10], [4, 8, 13, 3, 2, 0, 1, 7, 5, 6, 12, 9, 11, 10], [14, 3, 4, 8, 13, 2, 0, 1, 7, 5, 6, 12, 9, 11, 10], [3, 15, 2, 0, 1, 14, 4, 8, 13, 7, 5, 6, 12, 9, 11, 10]] fun _ => ?_
 refine zk 4 ?_
 refine zE (.c (.fn 38 [.imm [.lit (List.map aW p3.Rules)]])) ?_
 refine zE (.c (.row 0)) ?_
 refine zE (.c (I v49)) ?_
 obtain ⟨k51, he, h⟩ := aB h
 refine jW (e := [(decide (v49 > p1))]) [(23, .c (.row 0), some 1), (24, .c (I v49), some 1)] (v := .c (.ptr 0 (k51 * 1))) (foot := [0]) (by kernel_rfl) (by kernel_rfl) (by kernel_rfl) (fun hg => dD (enc := aJ) (l := v50) (n := 0) (sz := 1) (k := k51) (ix := v49) (bT he hg) (by kernel_rfl)) rfl rfl ?_
 clear he
 obtain ⟨e52, he, h⟩ := aB h
 refine Da (e := [(decide (v49 > p1))]) [(25, .c (.ptr 0 (k51 * 1)), some 1)] (v := .c (I e52)) (foot := [0]) (by kernel_rfl) (by kernel_rfl) (by kernel_rfl) (fun hg => gE (enc := aJ) (l := v50) (n := 0) (q := k51) (f := 0) (sz := 1) (e := e52) (j := ⟨.int .i64, 1, 8, [.int .i64 0]⟩) (bT he hg) (by kernel_rfl) (by kernel_rfl)) rfl rfl ?_
 clear he
 refine zE (.c (.row 0)) ?_
 refine zE (.c (I v49)) ?_
 refine zE (.c (I (IntKind.wrap .i64 (v49 - 1)))) ?_
 obtain ⟨k53, he, h⟩ := aB h
 refine jW (e := [(decide (v49 > p1))]) [(27, .c (.row 0), some 1), (29, .c (I (IntKind.wrap .i64 (v49 - 1))), some 1)] (v := .c (.ptr 0 (k53 * 1))) (foot := [0]) (by kernel_rfl) (by kernel_rfl) (by kernel_rfl) (fun hg => dD (enc := aJ) (l := v50) (n := 0) (sz := 1) (k := k53) (ix := (IntKind.wrap .i64 (v49 - 1))) (bT he hg) (by kernel_rfl)) rfl rfl ?_
 clear he
 obtain ⟨e54, he, h⟩ := aB h
 refine Da (e := [(decide (v49 > p1))]) [(30, .c (.ptr 0 (k53 * 1)), some 1)] (v := .c (I e54)) (foot := [0]) (by kernel_rfl) (by kernel_rfl) (by kernel_rfl) (fun hg => gE (enc := aJ) (l := v50) (n := 0) (q := k53) (f := 0) (sz := 1) (e := e54) (j := ⟨.int .i64, 1, 8, [.int .i64 0]⟩) (bT he hg) (by kernel_rfl) (by kernel_rfl)) rfl rfl ?_
 clear he
 obtain ⟨y55, he, h⟩ := aB h
 refine rx_EO (e := [(decide (v49 > p1))]) [(22, .c (.fn 38 [.imm [.lit (List.map aW p3.Rules)]]), some 1), (26, .c (I e52), some 1), (31, .c (I e54), some 1)] (v := .c (I y55)) (foot := []) (by kernel_rfl) (by kernel_rfl) (by kernel_rfl) (fun hg => vF (F := 38) (As := [.c (I e52), .c (I e54), .c (.imm [.lit (List.map aW p3.Rules)])]) (Bs := [.c (I e52), .c (I e54), .c (.imm [.lit (List.map aW p3.Rules)])]) (r := .c (I y55)) (v := .c (I y55)) (by kernel_rfl) Ov (by kernel_rfl) (jJ n _ _ _ y55 (bT he hg)) (by kernel_rfl)) rfl rfl ?_
 clear he
 refine zE (.c (Bo (decide (y55 < 0)))) ?_
 refine zP (.bool ((decide (v49 > p1)) && (decide (y55 < 0)))) ?_
 refine jV [0, 1, 2, 3, 8, 9, 34] (L2 := [(0, .c (.row 0)), (1, .c (I p1)), (2, .c (I p2)), (3, .c (.fn 38 [.imm [.lit (List.map aW p3.Rules)]])), (8, .c (I v33)), (9, .c (I v49)), (34, .c (Bo ((decide (v49 > p1)) && (decide (y55 < 0)))))]) (G2 := [(0, .vec 3 1 (List.map aJ v50))]) 18 ?_
 refine zi h (fun h => ?_) fun h => ?_
 refine aC ?_
 refine aK ?_
 refine aF ?_
 refine Lh [[], [], [], [], [3], [], [], [6], [5, 7, 6], [8, 5, 7, 6], [], [], [10, 11], [12, 10, 11], [0, 1, 5, 6, 7, 8, 9, 13, 12, 10, 11], [14, 9, 0, 1, 5, 6, 7, 8, 13, 12, 10, 11], [2, 4, 0, 1, 3, 5, 6, 7, 8, 9, 10, 11, 12, 13, 14, 15], [16, 13, 15, 0, 1, 2, 3, 4, 5, 6, 7, 8, 9, 10, 11, 12, 14]] fun _ => ?_
 refine zk 8 ?_
 obtain ⟨k56, he, h⟩ := aB h
 refine cF (v := .c (.ptr 0 (k56 * 1))) (foot := [0]) (dD (enc := aJ) (l := v50) (n := 0) (sz := 1) (k := k56) (ix := (IntKind.wrap .i64 (v49 - 1))) he (by kernel_rfl)) (by kernel_rfl) rfl rfl ?_
 have hb_k56 := dP he; clear he
 obtain ⟨e57, he, h⟩ := aB h
 refine zw (v := .c (I e57)) [0] (gE (enc := aJ) (l := v50) (n := 0) (q := k56) (f := 0) (sz := 1) (e := e57) (j := ⟨.int .i64, 1, 8, [.int .i64 0]⟩) he (by kernel_rfl) (by kernel_rfl)) ?_
 clear he
 refine zk 2 ?_
 obtain ⟨k58, he, h⟩ := aB h
 refine cF (v := .c (.ptr 0 (k58 * 1))) (foot := [0]) (dD (enc := aJ) (l := v50) (n := 0) (sz := 1) (k := k58) (ix := v49) he (by kernel_rfl)) (by kernel_rfl) rfl rfl ?_
 have hb_k58 := dP he; clear he
 obtain ⟨e59, he, h⟩ := aB h
 refine zw (v := .c (I e59)) [0] (gE (enc := aJ) (l := v50) (n := 0) (q := k58) (f := 0) (sz := 1) (e := e59) (j := ⟨.int .i64, 1, 8, [.int .i64 0]⟩) he (by kernel_rfl) (by kernel_rfl)) ?_
 clear he
 obtain ⟨k60, he, h⟩ := aB h
 refine cF (v := .c (.ptr 0 (k60 * 1))) (foot := [0]) (dD (enc := aJ) (l := v50) (n := 0) (sz := 1) (k := k60) (ix := v49) he (by kernel_rfl)) (by kernel_rfl) rfl rfl ?_
 have hb_k60 := dP he; clear he
 obtain ⟨e61, he, h⟩ := aB h
 refine kC (enc := aJ) (n := 0) (q := k60) (f := 0) (sz := 1) (T0 := 3) (lp := [I e57]) (l := v50) (e := e61) (e2 := e57) he (by kernel_rfl) (by simp only [List.length_cons, List.length_nil]; omega) (by kernel_rfl) (by kernel_rfl) rfl rfl ?_
 clear he
 obtain ⟨k62, he, h⟩ := aB h
 refine cF (v := .c (.ptr 0 (k62 * 1))) (foot := [0]) (dD (enc := aJ) (l := (List.set v50 k60 e57)) (n := 0) (sz := 1) (k := k62) (ix := (IntKind.wrap .i64 (v49 - 1))) he (by kernel_rfl)) (by kernel_rfl) rfl rfl ?_
 have hb_k62 := dP he; clear he
 obtain ⟨e63, he, h⟩ := aB h
 refine kC (enc := aJ) (n := 0) (q := k62) (f := 0) (sz := 1) (T0 := 3) (lp := [I e59]) (l := (List.set v50 k60 e57)) (e := e63) (e2 := e59) he (by kernel_rfl) (by simp only [List.length_cons, List.length_nil]; omega) (by kernel_rfl) (by kernel_rfl) rfl rfl ?_
 clear he
 refine bL ?_
 refine aT ?_
 refine zb ?_
 exact dI (zv [(0, 0)] [0, 1, 2, 3, 8, 9] 1) (⟨_, _, h, rfl⟩)
 exact aI (zv [(0, 0)] [0, 1, 2, 3, 8] 1) (bD (hj35 _ h))
 cases h
 exact bD zr
def dS (p3 : Int) (p2 : Int) (p1 : Int) : Nat → Int → List Int → Option (List Int)
 | 0, _, _ => none
 | n + 1, v9, v10 => (if (decide (v9 < p3)) = true then (oE (IntKind.wrap .i64 (p2 + v9)) (List.length v10)).bind fun (k11 : Nat) => (v10[k11]?).bind fun (e12 : Int) => (oE (IntKind.wrap .i64 (p1 + v9)) (List.length v10)).bind fun (k13 : Nat) => (v10[k13]?).bind fun (e14 : Int) => (oE (IntKind.wrap .i64 (p1 + v9)) (List.length v10)).bind fun (k15 : Nat) => (v10[k15]?).bind fun (e16 : Int) => (oE (IntKind.wrap .i64 (p2 + v9)) (List.length (List.set v10 k15 e12))).bind fun (k17 : Nat) => ((List.set v10 k15 e12)[k17]?).bind fun (e18 : Int) => dS p3 p2 p1 n (IntKind.wrap .i64 (v9 + 1)) (List.set (List.set v10 k15 e12) k17 e14) else some v10)
def dK  (n : Nat) (p0 : (List Int)) (p1 : Int) (p2 : Int) (p3 : Int) (p4 : bS) : Option (List Int) := dS p3 p2 p1 n 0 p0
theorem fP  (n : Nat) (p0 : (List Int)) (p1 : Int) (p2 : Int) (p3 : Int) (p4 : bS) (r : (List Int)) (h : dK n p0 p1 p2 p3 p4 = some r) : cN E 136 1 [.c (.row 0), .c (I p1), .c (I p2), .c (I p3), .c (.fn 38 [.imm [.lit (List.map aW p4.Rules)]])] [(0, .vec 3 1 (List.map aJ p0))] (.tup []) [(0, .vec 3 1 (List.map aJ r))] := by
 refine fW Tryz.func136 rfl ?_
 unfold dK at h
 refine za [0, 1, 2, 3, 10] ?_
 refine aF ?_
 refine bA (fun n s => ∃ v9 v10, dS p3 p2 p1 n v9 v10 = some r ∧ s = mk [(0, .c (.row 0)), (1, .c (I p1)), (2, .c (I p2)), (3, .c (I p3)), (10, .c (I v9))] [(0, .vec 3 1 (List.map aJ v10))] 1) n _ (zv [(0, 0)] [0, 1, 2, 3, 10] 1) ⟨_, _, h, rfl⟩ (fun s ⟨v9, v10, h, _⟩ => nomatch h) ?_
 rintro n s ⟨v9, v10, h, rfl⟩
 rw [dS] at h
 refine aK ?_
 refine za [0, 1, 2, 3, 10, 13] ?_
 refine zi h (fun h => ?_) fun h => ?_
 refine aC ?_
 refine aK ?_
 refine aF ?_
 refine Lh [[], [], [], [1, 2], [], [], [], [5, 6], [], [], [], [9, 10], [8, 11, 9, 10], [12, 8, 11, 9, 10], [], [], [], [15, 16], [14, 17, 15, 16], [18, 14, 17, 15, 16], [0, 3, 1, 2, 8, 9, 10, 11, 12, 13, 19, 18, 14, 17, 15, 16], [20, 13, 0, 1, 2, 3, 8, 9, 10, 11, 12, 19, 18, 14, 17, 15, 16], [4, 7, 0, 1, 2, 3, 5, 6, 8, 9, 10, 11, 12, 13, 14, 15, 16, 17, 18, 19, 20, 21], [22, 19, 21, 0, 1, 2, 3, 4, 5, 6, 7, 8, 9, 10, 11, 12, 13, 14, 15, 16, 17, 18, 20]] fun _ => ?_
 refine zk 12 ?_
 obtain ⟨k11, he, h⟩ := aB h
 refine cF (v := .c (.ptr 0 (k11 * 1))) (foot := [0]) (dD (enc := aJ) (l := v10) (n := 0) (sz := 1) (k := k11) (ix := (IntKind.wrap .i64 (p2 + v9))) he (by kernel_rfl)) (by kernel_rfl) rfl rfl ?_
 have hb_k11 := dP he; clear he
 obtain ⟨e12, he, h⟩ := aB h
 refine zw (v := .c (I e12)) [0] (gE (enc := aJ) (l := v10) (n := 0) (q := k11) (f := 0) (sz := 1) (e := e12) (j := ⟨.int .i64, 1, 8, [.int .i64 0]⟩) he (by kernel_rfl) (by kernel_rfl)) ?_
 clear he
 refine zk 4 ?_
 obtain ⟨k13, he, h⟩ := aB h
 refine cF (v := .c (.ptr 0 (k13 * 1))) (foot := [0]) (dD (enc := aJ) (l := v10) (n := 0) (sz := 1) (k := k13) (ix := (IntKind.wrap .i64 (p1 + v9))) he (by kernel_rfl)) (by kernel_rfl) rfl rfl ?_
 have hb_k13 := dP he; clear he
 obtain ⟨e14, he, h⟩ := aB h
 refine zw (v := .c (I e14)) [0] (gE (enc := aJ) (l := v10) (n := 0) (q := k13) (f := 0) (sz := 1) (e := e14) (j := ⟨.int .i64, 1, 8, [.int .i64 0]⟩) he (by kernel_rfl) (by kernel_rfl)) ?_
 clear he
 obtain ⟨k15, he, h⟩ := aB h
 refine cF (v := .c (.ptr 0 (k15 * 1))) (foot := [0]) (dD (enc := aJ) (l := v10) (n := 0) (sz := 1) (k := k15) (ix := (IntKind.wrap .i64 (p1 + v9))) he (by kernel_rfl)) (by kernel_rfl) rfl rfl ?_
 have hb_k15 := dP he; clear he
 obtain ⟨e16, he, h⟩ := aB h
 refine kC (enc := aJ) (n := 0) (q := k15) (f := 0) (sz := 1) (T0 := 3) (lp := [I e12]) (l := v10) (e := e16) (e2 := e12) he (by kernel_rfl) (by simp only [List.length_cons, List.length_nil]; omega) (by kernel_rfl) (by kernel_rfl) rfl rfl ?_
 clear he
 obtain ⟨k17, he, h⟩ := aB h
 refine cF (v := .c (.ptr 0 (k17 * 1))) (foot := [0]) (dD (enc := aJ) (l := (List.set v10 k15 e12)) (n := 0) (sz := 1) (k := k17) (ix := (IntKind.wrap .i64 (p2 + v9))) he (by kernel_rfl)) (by kernel_rfl) rfl rfl ?_
 have hb_k17 := dP he; clear he
 obtain ⟨e18, he, h⟩ := aB h
 refine kC (enc := aJ) (n := 0) (q := k17) (f := 0) (sz := 1) (T0 := 3) (lp := [I e14]) (l := (List.set v10 k15 e12)) (e := e18) (e2 := e14) he (by kernel_rfl) (by simp only [List.length_cons, List.length_nil]; omega) (by kernel_rfl) (by kernel_rfl) rfl rfl ?_
 clear he
 refine bL ?_
 refine aT ?_
 refine zb ?_
 exact dI (zv [(0, 0)] [0, 1, 2, 3, 10] 1) (⟨_, _, h, rfl⟩)
 cases h
 exact bD zr
def dJ (p2 : Int) (p4 : bS) (j1 : Int → List Int → Option (List Int)) : Nat → Int → Int → List Int → Option (List Int)
 | 0, _, _, _ => none
 | n + 1, v4, v5, v6 => (if (v4 != v5) = true then (if (decide (v4 > v5)) = true then (dK n v6 (IntKind.wrap .i64 (p2 - v4)) p2 v5 p4).bind fun (y7 : (List Int)) => dJ p2 p4 j1 n (IntKind.wrap .i64 (v4 - v5)) v5 y7 else (dK n v6 (IntKind.wrap .i64 (p2 - v4)) (IntKind.wrap .i64 ((IntKind.wrap .i64 (p2 + v5)) - v4)) v4 p4).bind fun (y8 : (List Int)) => dJ p2 p4 j1 n v4 (IntKind.wrap .i64 (v5 - v4)) y8) else j1 v4 v6)
def iY  (n : Nat) (p0 : (List Int)) (p1 : Int) (p2 : Int) (p3 : Int) (p4 : bS) : Option (List Int) := (aV (fun (v12 : Int) (v13 : List Int) => (dK n v13 (IntKind.wrap .i64 (p2 - v12)) p2 v12 p4).bind fun (y14 : (List Int)) => some y14) (fun (j1 : Int → List Int → Option (List Int)) => dJ p2 p4 j1 n (IntKind.wrap .i64 (p2 - p1)) (IntKind.wrap .i64 (p3 - p2)) p0))
theorem oT  (n : Nat) (p0 : (List Int)) (p1 : Int) (p2 : Int) (p3 : Int) (p4 : bS) (r : (List Int)) (h : iY n p0 p1 p2 p3 p4 = some r) : cN E 125 1 [.c (.row 0), .c (I p1), .c (I p2), .c (I p3), .c (.fn 38 [.imm [.lit (List.map aW p4.Rules)]])] [(0, .vec 3 1 (List.map aJ p0))] (.tup []) [(0, .vec 3 1 (List.map aJ r))] := by
 refine fW Tryz.func125 rfl ?_
 unfold iY at h
 refine za [0, 2, 3, 4, 10] ?_
 refine za [0, 2, 4, 10, 11] ?_
 refine aQ h (fun A j => ∀ v12 v13, j v12 v13 = some r → A (mk [(0, .c (.row 0)), (2, .c (I p2)), (4, .c (.fn 38 [.imm [.lit (List.map aW p4.Rules)]])), (10, .c (I v12))] [(0, .vec 3 1 (List.map aJ v13))] 1)) (fun v12 v13 h => ?_) (fun j1 Aj1 hj1 h => ?_)
 refine zy fun _ => ?_
 refine zk 7 ?_
 obtain ⟨y14, he, h⟩ := aB h
 refine zo [(0, 0)] Mx (fP n _ _ _ _ _ y14 he) ?_
 clear he
 refine bL ?_
 cases h
 exact zr
 refine aF ?_
 refine bA (fun n s => ∃ v4 v5 v6, dJ p2 p4 j1 n v4 v5 v6 = some r ∧ s = mk [(0, .c (.row 0)), (2, .c (I p2)), (4, .c (.fn 38 [.imm [.lit (List.map aW p4.Rules)]])), (10, .c (I v4)), (11, .c (I v5))] [(0, .vec 3 1 (List.map aJ v6))] 1) n _ (zv [(0, 0)] [0, 2, 4, 10, 11] 1) ⟨_, _, _, h, rfl⟩ (fun s ⟨v4, v5, v6, h, _⟩ => nomatch h) ?_
 rintro n s ⟨v4, v5, v6, h, rfl⟩
 rw [dJ] at h
 refine aK ?_
 refine za [0, 2, 4, 10, 11, 20] ?_
 refine zi h (fun h => ?_) fun h => ?_
 refine aC ?_
 refine aF ?_
 refine za [0, 2, 4, 10, 11, 23] ?_
 refine zi h (fun h => ?_) fun h => ?_
 refine zx fun _ => ?_
 refine zk 7 ?_
 obtain ⟨y7, he, h⟩ := aB h
 refine zo [(0, 0)] Mx (fP n _ _ _ _ _ y7 he) ?_
 clear he
 refine ze [0, 2, 4, 10, 11] ?_
 refine aT ?_
 refine zb ?_
 exact dI (zv [(0, 0)] [0, 2, 4, 10, 11] 1) (⟨_, _, _, h, rfl⟩)
 refine zx fun _ => ?_
 refine zk 11 ?_
 obtain ⟨y8, he, h⟩ := aB h
 refine zo [(0, 0)] Mx (fP n _ _ _ _ _ y8 he) ?_
 clear he
 refine ze [0, 2, 4, 10, 11] ?_
 refine aT ?_
 refine zb ?_
 exact dI (zv [(0, 0)] [0, 2, 4, 10, 11] 1) (⟨_, _, _, h, rfl⟩)
 exact aI (zv [(0, 0)] [0, 2, 4, 10] 1) (bD (hj1 _ _ h))
end Go.Proofs.YtojkihhnioeggaaGreatDoor.S
