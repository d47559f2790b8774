import Derived.Test.YtojkihhnioeggaaGreatDoorQMGJ11
set_option linter.unusedVariables false
set_option linter.unusedSimpArgs false
set_option maxRecDepth 100000
set_option maxHeartbeats 4000000
namespace Go.Proofs.YtojkihhnioeggaaGreatDoor.S
open Go Go.Bm
def eU  (n : Nat) (p0 : Int) (p1 : Int) : Option Bool := (aV (fun (v8 : Int) (v9 : Int) => some ((((decide (p0 ≥ 0)) && (decide (p0 < 22))) && (decide (p1 ≥ v8))) && (decide (p1 ≤ v9)))) (fun (j1 : Int → Int → Option Bool) => (if (p0 == 0) = true then j1 0 16777215 else (if (p0 == 1) = true then j1 (-1 : Int) 16777215 else (if (p0 == 2) = true then j1 1 1000 else (if (p0 == 3) = true then j1 0 7 else (aV (fun (v3 : Bool) => (if v3 = true then j1 0 1 else (aV (fun (v5 : Bool) => (if v5 = true then j1 0 4 else (if (p0 == 7) = true then j1 0 3 else (if (p0 == 8) = true then j1 0 2 else (aV (fun (v7 : Bool) => (if v7 = true then j1 0 1000 else (if (p0 == 12) = true then j1 (-1 : Int) 1048576 else j1 0 1048576))) (fun (j6 : Bool → Option Bool) => (if (p0 == 10) = true then j6 (p0 == 10) else j6 (p0 == 11)))))))) (fun (j4 : Bool → Option Bool) => (if (p0 == 5) = true then j4 (p0 == 5) else j4 (p0 == 6)))))) (fun (j2 : Bool → Option Bool) => (if (p0 == 4) = true then j2 (p0 == 4) else j2 (p0 == 21))))))))))
theorem zC  (n : Nat) (p0 : Int) (p1 : Int) (r : Bool) (h : eU n p0 p1 = some r) : cN E 65 0 [.c (I p0), .c (I p1)] [] (.c (Bo r)) [] := by
 refine fW Tryz.func65 rfl ?_
 unfold eU at h
 refine za [0, 1] ?_
 refine za [0, 1, 5, 6] ?_
 refine aQ h (fun A j => ∀ v8 v9, j v8 v9 = some r → A (mk [(0, .c (I p0)), (1, .c (I p1)), (5, .c (I v8)), (6, .c (I v9))] [] 0)) (fun v8 v9 h => ?_) (fun j1 Aj1 hj1 h => ?_)
 refine zx fun _ => ?_
 refine zk 3 ?_
 refine zE (.c (I p0)) ?_
 refine zE (.c (Bo (decide (p0 < 22)))) ?_
 refine zP (.bool ((decide (p0 ≥ 0)) && (decide (p0 < 22)))) ?_
 refine zk 1 ?_
 refine zE (.c (I p1)) ?_
 refine zE (.c (I v8)) ?_
 refine zE (.c (Bo (decide (p1 ≥ v8)))) ?_
 refine zP (.bool (((decide (p0 ≥ 0)) && (decide (p0 < 22))) && (decide (p1 ≥ v8)))) ?_
 refine zk 1 ?_
 refine zE (.c (I p1)) ?_
 refine zE (.c (I v9)) ?_
 refine zE (.c (Bo (decide (p1 ≤ v9)))) ?_
 refine zP (.bool ((((decide (p0 ≥ 0)) && (decide (p0 < 22))) && (decide (p1 ≥ v8))) && (decide (p1 ≤ v9)))) ?_
 refine zk 1 ?_
 refine jV [4] (L2 := [(4, .c (Bo ((((decide (p0 ≥ 0)) && (decide (p0 < 22))) && (decide (p1 ≥ v8))) && (decide (p1 ≤ v9)))))]) (G2 := []) 17 ?_
 cases h
 exact aG zr
 refine za [0, 1, 5, 6, 7] ?_
 refine aF ?_
 refine za [0, 1, 5, 6, 7, 8] ?_
 refine zi h (fun h => ?_) fun h => ?_
 refine aT ?_
 refine zb ?_
 exact dI (zv [] [0, 1, 5, 6] 0) (hj1 _ _ h)
 refine za [0, 1, 5, 6, 7, 10] ?_
 refine zi h (fun h => ?_) fun h => ?_
 refine aT ?_
 refine zb ?_
 exact dI (zv [] [0, 1, 5, 6] 0) (hj1 _ _ h)
 refine za [0, 1, 5, 6, 7, 12] ?_
 refine zi h (fun h => ?_) fun h => ?_
 refine aT ?_
 refine zb ?_
 exact dI (zv [] [0, 1, 5, 6] 0) (hj1 _ _ h)
 refine za [0, 1, 5, 6, 7, 14] ?_
 refine zi h (fun h => ?_) fun h => ?_
 refine aT ?_
 refine zb ?_
 exact dI (zv [] [0, 1, 5, 6] 0) (hj1 _ _ h)
 refine aQ h (fun A j => ∀ v3, j v3 = some r → A (mk [(0, .c (I p0)), (1, .c (I p1)), (5, .c (I 0)), (6, .c (I 1048576)), (7, .c (I p0)), (16, .c (Bo v3))] [] 0)) (fun v3 h => ?_) (fun j2 Aj2 hj2 h => ?_)
 refine zi h (fun h => ?_) fun h => ?_
 refine aT ?_
 refine zb ?_
 exact dI (zv [] [0, 1, 5, 6] 0) (hj1 _ _ h)
 refine aQ h (fun A j => ∀ v5, j v5 = some r → A (mk [(0, .c (I p0)), (1, .c (I p1)), (5, .c (I 0)), (6, .c (I 1048576)), (7, .c (I p0)), (19, .c (Bo v5))] [] 0)) (fun v5 h => ?_) (fun j4 Aj4 hj4 h => ?_)
 refine zi h (fun h => ?_) fun h => ?_
 refine aT ?_
 refine zb ?_
 exact dI (zv [] [0, 1, 5, 6] 0) (hj1 _ _ h)
 refine za [0, 1, 5, 6, 7, 22] ?_
 refine zi h (fun h => ?_) fun h => ?_
 refine aT ?_
 refine zb ?_
 exact dI (zv [] [0, 1, 5, 6] 0) (hj1 _ _ h)
 refine za [0, 1, 5, 6, 7, 24] ?_
 refine zi h (fun h => ?_) fun h => ?_
 refine aT ?_
 refine zb ?_
 exact dI (zv [] [0, 1, 5, 6] 0) (hj1 _ _ h)
 refine aQ h (fun A j => ∀ v7, j v7 = some r → A (mk [(0, .c (I p0)), (1, .c (I p1)), (5, .c (I 0)), (6, .c (I 1048576)), (7, .c (I p0)), (26, .c (Bo v7))] [] 0)) (fun v7 h => ?_) (fun j6 Aj6 hj6 h => ?_)
 refine zi h (fun h => ?_) fun h => ?_
 refine aT ?_
 refine zb ?_
 exact dI (zv [] [0, 1, 5, 6] 0) (hj1 _ _ h)
 refine za [0, 1, 5, 6, 29] ?_
 refine zi h (fun h => ?_) fun h => ?_
 refine aT ?_
 refine zb ?_
 exact dI (zv [] [0, 1, 5, 6] 0) (hj1 _ _ h)
 exact aI (zv [] [0, 1, 5, 6] 0) (aC (hj1 _ _ h))
 refine za [0, 1, 5, 6, 7, 26] ?_
 refine zi h (fun h => ?_) fun h => ?_
 exact aI (zv [] [0, 1, 5, 6, 7, 26] 0) (aC (hj6 _ h))
 refine aT ?_
 refine zb ?_
 exact dI (zv [] [0, 1, 5, 6, 7, 26] 0) (hj6 _ h)
 refine za [0, 1, 5, 6, 7, 19] ?_
 refine zi h (fun h => ?_) fun h => ?_
 exact aI (zv [] [0, 1, 5, 6, 7, 19] 0) (aC (hj4 _ h))
 refine aT ?_
 refine zb ?_
 exact dI (zv [] [0, 1, 5, 6, 7, 19] 0) (hj4 _ h)
 refine za [0, 1, 5, 6, 7, 16] ?_
 refine zi h (fun h => ?_) fun h => ?_
 exact aI (zv [] [0, 1, 5, 6, 7, 16] 0) (aC (hj2 _ h))
 refine aT ?_
 refine zb ?_
 exact dI (zv [] [0, 1, 5, 6, 7, 16] 0) (hj2 _ h)
def mG (v3 : Int) (j9 : Int → Option (cI × aP)) (y7 : (Int × aP)) : Nat → Int → Option (cI × aP)
 | 0, _ => none
 | n + 1, v11 => (eU n v3 v11).bind fun (y12 : Bool) => (if (!y12) = true then (if (decide ((Fb 0 (IntKind.wrap .i64 (Int.tdiv v11 2))) < 2)) = true then j9 1 else mG v3 j9 y7 n (Fb 0 (IntKind.wrap .i64 (Int.tdiv v11 2)))) else j9 v11)
def uW  (n : Nat) (p0 : aP) (p1 : Int) : Option (cI × aP) := (cH n p0 22).bind fun (y1 : (Int × aP)) => (aV (fun (v3 : Int) => (cH n y1.2 8).bind fun (y4 : (Int × aP)) => (if (y4.1 == 0) = true then (cH n y4.2 4).bind fun (y5 : (Int × aP)) => (idx [(⟨#[105, 110, 107]⟩ : ByteArray), (⟨#[112, 97, 112, 101, 114]⟩ : ByteArray), (⟨#[115, 112, 97, 99, 101]⟩ : ByteArray), (⟨#[110, 111, 110, 101]⟩ : ByteArray)] y5.1).bind fun (e6 : ByteArray) => some ((cI.mk v3 1 0 e6), y5.2) else (if (y4.1 == 1) = true then some ((cI.mk v3 2 0 (⟨#[]⟩ : ByteArray)), y4.2) else (if (y4.1 == 2) = true then some ((cI.mk v3 3 0 (⟨#[]⟩ : ByteArray)), y4.2) else (cH n y4.2 (List.length [0, 1, 2, 3, 4, 8, 12, 20, 40, 90, 300, (-1 : Int)] : Int)).bind fun (y7 : (Int × aP)) => (idx [0, 1, 2, 3, 4, 8, 12, 20, 40, 90, 300, (-1 : Int)] y7.1).bind fun (e8 : Int) => (aV (fun (v14 : Int) => some ((cI.mk v3 0 v14 (⟨#[]⟩ : ByteArray)), y7.2)) (fun (j9 : Int → Option (cI × aP)) => mG v3 j9 y7 n e8)))))) (fun (j2 : Int → Option (cI × aP)) => (if (((lQ .i64 p1 7) != 0) && ((y1.1 == 5) || (y1.1 == 21))) = true then j2 9 else j2 y1.1)))
theorem Jz  (n : Nat) (p0 : aP) (p1 : Int) (r : (cI × aP)) (h : uW n p0 p1 = some r) : cN E 33 1 [.c (.ptr 0 0), .c (I p1)] [(0, .blk 78 [.lit (List.map aJ p0.L), I p0.At])] (.agg [I r.1.Prop_, I r.1.Source, I r.1.N, Sx r.1.Token]) [(0, .blk 78 [.lit (List.map aJ r.2.L), I r.2.At])] := by
 refine fW Tryz.func33 rfl ?_
 unfold uW at h
 refine za [0, 1, 4] ?_
 refine zx fun _ => ?_
 refine zk 1 ?_
 obtain ⟨y1, he, h⟩ := aB h
 refine zo [(0, 0)] cL (bH n _ _ y1 he) ?_
 clear he
 refine zk 3 ?_
 refine ze [0, 1, 4, 5] ?_
 refine aQ h (fun A j => ∀ v3, j v3 = some r → A (mk [(0, .c (.ptr 0 0)), (4, .c (.ptr 1 0)), (5, .c (.ptr 2 0))] [(0, .blk 78 [.lit (List.map aJ y1.2.L), I y1.2.At]), (1, .blk 81 [I 0, I 0, I 0, Sx (⟨#[]⟩ : ByteArray)]), (2, .blk 81 [I v3, I 0, I 0, Sx (⟨#[]⟩ : ByteArray)])] 3)) (fun v3 h => ?_) (fun j2 Aj2 hj2 h => ?_)
 refine aK ?_
 refine zx fun _ => ?_
 refine zk 1 ?_
 obtain ⟨y4, he, h⟩ := aB h
 refine zo [(0, 0)] cL (bH n _ _ y4 he) ?_
 clear he
 refine ze [0, 4, 5, 25] ?_
 refine aF ?_
 refine za [0, 4, 5, 25, 26] ?_
 refine zi h (fun h => ?_) fun h => ?_
 refine wP [[], [], [1], [0, 2, 1], [3, 0, 2, 1], [], [5, 2, 1], [0, 1, 2, 3, 4, 5, 6], [7, 4, 6, 0, 1, 2, 3, 5]] fun _ => ?_
 refine zk 2 ?_
 obtain ⟨y5, he, h⟩ := aB h
 refine zo [(0, 0)] cL (bH n _ _ y5 he) ?_
 clear he
 obtain ⟨e6, he, h⟩ := aB h
 refine zd eS he ?_
 clear he
 refine zk 5 ?_
 refine ze [4, 5] ?_
 refine za [4] ?_
 cases h
 exact aG zr
 refine za [0, 4, 5, 25, 36] ?_
 refine zi h (fun h => ?_) fun h => ?_
 refine za [4, 5] ?_
 refine za [4] ?_
 cases h
 exact aG zr
 refine za [0, 4, 5, 40] ?_
 refine zi h (fun h => ?_) fun h => ?_
 refine za [4, 5] ?_
 refine za [4] ?_
 cases h
 exact aG zr
 refine aC ?_
 refine za [0, 4, 5, 6] ?_
 refine zx fun _ => ?_
 refine zk 3 ?_
 refine zl aJ [0, 1, 2, 3, 4, 8, 12, 20, 40, 90, 300, (-1 : Int)] ?_
 obtain ⟨y7, he, h⟩ := aB h
 refine zo [(0, 0)] cL (bH n _ _ y7 he) ?_
 clear he
 obtain ⟨e8, he, h⟩ := aB h
 refine zd aJ he ?_
 clear he
 refine zk 3 ?_
 refine jV [4, 5] (L2 := [(4, .c (.ptr 1 0)), (5, .c (.ptr 2 0))]) (G2 := [(0, .blk 78 [.lit (List.map aJ y7.2.L), I y7.2.At]), (1, .blk 81 [I 0, I 0, I 0, Sx (⟨#[]⟩ : ByteArray)]), (2, .blk 81 [I v3, I 0, I e8, Sx (⟨#[]⟩ : ByteArray)]), (11, .tok 3 1 (List.length [0, 1, 2, 3, 4, 8, 12, 20, 40, 90, 300, (-1 : Int)]))]) 22 ?_
 refine aQ h (fun A j => ∀ v14, j v14 = some r → A (mk [(4, .c (.ptr 1 0)), (5, .c (.ptr 2 0))] [(0, .blk 78 [.lit (List.map aJ y7.2.L), I y7.2.At]), (1, .blk 81 [I 0, I 0, I 0, Sx (⟨#[]⟩ : ByteArray)]), (2, .blk 81 [I v3, I 0, I v14, Sx (⟨#[]⟩ : ByteArray)])] 3)) (fun v14 h => ?_) (fun j9 Aj9 hj9 h => ?_)
 refine za [4] ?_
 cases h
 exact aG zr
 refine aF ?_
 refine bA (fun n s => ∃ v11, mG v3 j9 y7 n v11 = some r ∧ s = mk [(4, .c (.ptr 1 0)), (5, .c (.ptr 2 0))] [(0, .blk 78 [.lit (List.map aJ y7.2.L), I y7.2.At]), (1, .blk 81 [I 0, I 0, I 0, Sx (⟨#[]⟩ : ByteArray)]), (2, .blk 81 [I v3, I 0, I v11, Sx (⟨#[]⟩ : ByteArray)])] 3) n _ (zv [(0, 0), (1, 1), (2, 2)] [4, 5] 3) ⟨_, h, rfl⟩ (fun s ⟨v11, h, _⟩ => nomatch h) ?_
 rintro n s ⟨v11, h, rfl⟩
 rw [mG] at h
 refine aK ?_
 refine zx fun _ => ?_
 refine zk 4 ?_
 obtain ⟨y12, he, h⟩ := aB h
 refine zc fok65 (zC n _ _ y12 he) ?_
 clear he
 refine zk 1 ?_
 refine ze [4, 5, 58] ?_
 refine zi h (fun h => ?_) fun h => ?_
 refine aC ?_
 refine aF ?_
 refine zx fun _ => ?_
 refine zk 3 ?_
 refine zw (v := .c (I (Fb 0 (IntKind.wrap .i64 (Int.tdiv v11 2))))) [] (Vu (k := .i64) (p := 0) (q := (IntKind.wrap .i64 (Int.tdiv v11 2))) (by kernel_rfl)) ?_
 refine zk 2 ?_
 refine ze [4, 5] ?_
 refine za [4, 5, 66] ?_
 refine zi h (fun h => ?_) fun h => ?_
 refine za [4, 5] ?_
 exact aI (zv [(0, 0), (1, 1), (2, 2)] [4, 5] 3) (bD (hj9 _ h))
 exact aI (zv [(0, 0), (1, 1), (2, 2)] [4, 5] 3) (aC (⟨_, h, rfl⟩))
 exact aI (zv [(0, 0), (1, 1), (2, 2)] [4, 5] 3) (bD (hj9 _ h))
 refine zx fun _ => ?_
 refine zk 4 ?_
 refine zE (.c (.ptr 5 0)) ?_
 refine zE (.c (I y1.1)) ?_
 refine zE (.c (Bo (y1.1 == 5))) ?_
 refine zF [((lQ .i64 p1 7) != 0)] (.c (Bo (y1.1 == 5))) ?_
 refine zE (.c (.ptr 5 0)) ?_
 refine zE (.c (I y1.1)) ?_
 refine zE (.c (Bo (y1.1 == 21))) ?_
 refine zP (.bool ((y1.1 == 5) || (y1.1 == 21))) ?_
 refine zP (.bool (((lQ .i64 p1 7) != 0) && ((y1.1 == 5) || (y1.1 == 21)))) ?_
 refine jV [0, 4, 5, 22] (L2 := [(0, .c (.ptr 0 0)), (4, .c (.ptr 1 0)), (5, .c (.ptr 5 0)), (22, .c (Bo (((lQ .i64 p1 7) != 0) && ((y1.1 == 5) || (y1.1 == 21)))))]) (G2 := [(0, .blk 78 [.lit (List.map aJ y1.2.L), I y1.2.At]), (1, .blk 81 [I 0, I 0, I 0, Sx (⟨#[]⟩ : ByteArray)]), (5, .blk 81 [I y1.1, I 0, I 0, Sx (⟨#[]⟩ : ByteArray)])]) 20 ?_
 refine zi h (fun h => ?_) fun h => ?_
 refine aT ?_
 refine zb ?_
 exact dI (zv [(0, 0), (1, 1), (5, 2)] [0, 4, 5] 3) (hj2 _ h)
 exact aI (zv [(0, 0), (1, 1), (5, 2)] [0, 4, 5] 3) (aC (hj2 _ h))
def jS (v89 : Int) (j102 : List Int → Int → List cI → Option (bS × aP)) (v67 : Int) (v77 : Int) (v83 : ByteArray) (v95 : Int) (v101 : ByteArray) (v70 : List cC) : Nat → Int → List Int → Int → List cI → Option (bS × aP)
 | 0, _, _, _, _ => none
 | n + 1, v109, v110, v111, v112 => (if (decide (v109 > 0)) = true then (uW n (aP.mk v110 v111) v89).bind fun (y113 : (cI × aP)) => (pE 40 v112 [y113.1]).bind fun (l114 : List cI) => jS v89 j102 v67 v77 v83 v95 v101 v70 n (IntKind.wrap .i64 (v109 - 1)) y113.2.L y113.2.At l114 else j102 v110 v111 v112)
def jQ (j1 : List Int → Int → List cC → Option (bS × aP)) : Nat → Int → List Int → Int → List cC → Option (bS × aP)
 | 0, _, _, _, _ => none
 | n + 1, v67, v68, v69, v70 => (if (decide (v67 > 0)) = true then (aV (fun (v126 : List Int) (v127 : Int) (v128 : List cC) => jQ j1 n (IntKind.wrap .i64 (v67 - 1)) v126 v127 v128) (fun (j71 : List Int → Int → List cC → Option (bS × aP)) => (aV (fun (v75 : List Int) (v76 : Int) (v77 : Int) => (aV (fun (v81 : List Int) (v82 : Int) (v83 : ByteArray) => (aV (fun (v87 : List Int) (v88 : Int) (v89 : Int) => (aV (fun (v93 : List Int) (v94 : Int) (v95 : Int) => (aV (fun (v99 : List Int) (v100 : Int) (v101 : ByteArray) => (aV (fun (v122 : List Int) (v123 : Int) (v124 : List cI) => (pE 80 v70 [(cC.mk v77 v83 v89 v95 v101 v124)]).bind fun (l125 : List cC) => j71 v122 v123 l125) (fun (j102 : List Int → Int → List cI → Option (bS × aP)) => (mE n (aP.mk v99 v100) 1 4).bind fun (y103 : (Int × aP)) => jS v89 j102 v67 v77 v83 v95 v101 v70 n y103.1 y103.2.L y103.2.At ([] : List cI)))) (fun (j96 : List Int → Int → ByteArray → Option (bS × aP)) => (cH n (aP.mk v93 v94) 5).bind fun (y97 : (Int × aP)) => (if (y97.1 == 0) = true then (nB n y97.2).bind fun (y98 : (ByteArray × aP)) => j96 y98.2.L y98.2.At y98.1 else j96 y97.2.L y97.2.At (⟨#[]⟩ : ByteArray))))) (fun (j90 : List Int → Int → Int → Option (bS × aP)) => (cH n (aP.mk v87 v88) 4).bind fun (y91 : (Int × aP)) => (if (y91.1 == 0) = true then (cH n y91.2 14).bind fun (y92 : (Int × aP)) => j90 y92.2.L y92.2.At y92.1 else j90 y91.2.L y91.2.At 0)))) (fun (j84 : List Int → Int → Int → Option (bS × aP)) => (cH n (aP.mk v81 v82) 4).bind fun (y85 : (Int × aP)) => (if (y85.1 == 0) = true then (cH n y85.2 32).bind fun (y86 : (Int × aP)) => j84 y86.2.L y86.2.At y86.1 else j84 y85.2.L y85.2.At 0)))) (fun (j78 : List Int → Int → ByteArray → Option (bS × aP)) => (cH n (aP.mk v75 v76) 3).bind fun (y79 : (Int × aP)) => (if (y79.1 == 0) = true then (nB n y79.2).bind fun (y80 : (ByteArray × aP)) => j78 y80.2.L y80.2.At y80.1 else j78 y79.2.L y79.2.At (⟨#[]⟩ : ByteArray))))) (fun (j72 : List Int → Int → Int → Option (bS × aP)) => (cH n (aP.mk v68 v69) 2).bind fun (y73 : (Int × aP)) => (if (y73.1 == 0) = true then (cH n y73.2 14).bind fun (y74 : (Int × aP)) => j72 y74.2.L y74.2.At y74.1 else j72 y73.2.L y73.2.At 0))))) else j1 v68 v69 v70)
def rO  (n : Nat) (p0 : aP) : Option (bS × aP) := (aV (fun (v139 : List Int) (v140 : Int) (v141 : List cC) => some ((bS.mk v141), (aP.mk v139 v140))) (fun (j1 : List Int → Int → List cC → Option (bS × aP)) => (cH n p0 7).bind fun (y2 : (Int × aP)) => jQ j1 n y2.1 y2.2.L y2.2.At ([] : List cC)))
theorem Hy  (n : Nat) (p0 : aP) (r : (bS × aP)) (h : rO n p0 = some r) : cN E 11 1 [.c (.ptr 0 0)] [(0, .blk 78 [.lit (List.map aJ p0.L), I p0.At])] (.agg [.row 1]) [(0, .blk 78 [.lit (List.map aJ r.2.L), I r.2.At]), (1, .vec 63 6 (List.map aW r.1.Rules))] := by
 refine fW Tryz.func11 rfl ?_
 unfold rO at h
 refine za [0, 2] ?_
 refine za [0, 2, 3] ?_
 refine aQ h (fun A j => ∀ v139 v140 v141, j v139 v140 v141 = some r → A (mk [(2, .c (.ptr 1 0)), (3, .c (.ptr 2 0))] [(0, .blk 78 [.lit (List.map aJ v139), I v140]), (1, .blk 31 [.row 3]), (2, .blk 31 [.row 4]), (3, .vec 63 6 (List.map aW ([] : List cC))), (4, .vec 63 6 (List.map aW v141))] 5)) (fun v139 v140 v141 h => ?_) (fun j1 Aj1 hj1 h => ?_)
 refine za [2] ?_
 have h := Option.some.inj h
 subst h
 refine aI (sD rfl [(0, 0), (4, 1), (1, 2)] [2] (L2 := [(2, .c (.ptr 2 0))]) (G2 := [(0, .blk 78 [.lit (List.map aJ v139), I v140]), (1, .vec 63 6 (List.map aW v141)), (2, .blk 31 [.row 1])]) (lim2 := 3) (by kernel_rfl)) ?_
 exact aG (Bn (.inl rfl) (by kernel_rfl) (by kernel_rfl))
 refine zx fun _ => ?_
 refine zk 1 ?_
 obtain ⟨y2, he, h⟩ := aB h
 refine zo [(0, 0)] cL (bH n _ _ y2 he) ?_
 clear he
 refine zk 1 ?_
 refine ze [0, 2, 3, 4] ?_
 refine aF ?_
 refine bA (fun n s => ∃ v67 v68 v69 v70, jQ j1 n v67 v68 v69 v70 = some r ∧ s = mk [(0, .c (.ptr 0 0)), (2, .c (.ptr 1 0)), (3, .c (.ptr 2 0)), (4, .c (I v67))] [(0, .blk 78 [.lit (List.map aJ v68), I v69]), (1, .blk 31 [.row 3]), (2, .blk 31 [.row 4]), (3, .vec 63 6 (List.map aW ([] : List cC))), (4, .vec 63 6 (List.map aW v70))] 5) n _ (dU.trans (wM (n := 1) (T0 := 31) (l := [bY]) (G2 := [(0, .blk 78 [.lit (List.map aJ y2.2.L), I y2.2.At]), (1, .blk 31 [.row 6]), (2, .blk 31 [bY]), (6, .vec 63 6 (List.map aW ([] : List cC)))]) (lim2 := 7) 0 63 6 (by kernel_rfl) (by kernel_rfl) (by kernel_rfl) (by kernel_rfl)) (dU.trans (wM (n := 2) (T0 := 31) (l := [bY]) (G2 := [(0, .blk 78 [.lit (List.map aJ y2.2.L), I y2.2.At]), (1, .blk 31 [.row 6]), (2, .blk 31 [.row 7]), (6, .vec 63 6 (List.map aW ([] : List cC))), (7, .vec 63 6 (List.map aW ([] : List cC)))]) (lim2 := 8) 0 63 6 (by kernel_rfl) (by kernel_rfl) (by kernel_rfl) (by kernel_rfl)) (zv [(0, 0), (1, 1), (2, 2), (6, 3), (7, 4)] [0, 2, 3, 4] 5))) ⟨_, _, _, _, h, rfl⟩ (fun s ⟨v67, v68, v69, v70, h, _⟩ => nomatch h) ?_
 rintro n s ⟨v67, v68, v69, v70, h, rfl⟩
 rw [jQ] at h
 refine aK ?_
 refine za [0, 2, 3, 4, 10] ?_
 refine zi h (fun h => ?_) fun h => ?_
 refine aC ?_
 refine aQ h (fun A j => ∀ v126 v127 v128, j v126 v127 v128 = some r → A (mk [(0, .c (.ptr 0 0)), (2, .c (.ptr 1 0)), (3, .c (.ptr 2 0)), (4, .c (I v67))] [(0, .blk 78 [.lit (List.map aJ v126), I v127]), (1, .blk 31 [.row 3]), (2, .blk 31 [.row 4]), (3, .vec 63 6 (List.map aW ([] : List cC))), (4, .vec 63 6 (List.map aW v128))] 5)) (fun v126 v127 v128 h => ?_) (fun j71 Aj71 hj71 h => ?_)
 refine aT ?_
 refine zb ?_
 exact dI (zv [(0, 0), (1, 1), (2, 2), (3, 3), (4, 4)] [0, 2, 3, 4] 5) (⟨_, _, _, _, h, rfl⟩)
 refine aF ?_
 refine za [0, 2, 3, 4, 5] ?_
 refine aQ h (fun A j => ∀ v75 v76 v77, j v75 v76 v77 = some r → A (mk [(0, .c (.ptr 0 0)), (2, .c (.ptr 1 0)), (3, .c (.ptr 2 0)), (4, .c (I v67)), (5, .c (.ptr 3 0))] [(0, .blk 78 [.lit (List.map aJ v75), I v76]), (1, .blk 31 [.row 4]), (2, .blk 31 [.row 5]), (3, .blk 63 [I v77, Sx (⟨#[]⟩ : ByteArray), I 0, I 0, Sx (⟨#[]⟩ : ByteArray), bY]), (4, .vec 63 6 (List.map aW ([] : List cC))), (5, .vec 63 6 (List.map aW v70))] 6)) (fun v75 v76 v77 h => ?_) (fun j72 Aj72 hj72 h => ?_)
 refine aQ h (fun A j => ∀ v81 v82 v83, j v81 v82 v83 = some r → A (mk [(0, .c (.ptr 0 0)), (2, .c (.ptr 1 0)), (3, .c (.ptr 2 0)), (4, .c (I v67)), (5, .c (.ptr 3 0))] [(0, .blk 78 [.lit (List.map aJ v81), I v82]), (1, .blk 31 [.row 4]), (2, .blk 31 [.row 5]), (3, .blk 63 [I v77, Sx v83, I 0, I 0, Sx (⟨#[]⟩ : ByteArray), bY]), (4, .vec 63 6 (List.map aW ([] : List cC))), (5, .vec 63 6 (List.map aW v70))] 6)) (fun v81 v82 v83 h => ?_) (fun j78 Aj78 hj78 h => ?_)
 refine aQ h (fun A j => ∀ v87 v88 v89, j v87 v88 v89 = some r → A (mk [(0, .c (.ptr 0 0)), (2, .c (.ptr 1 0)), (3, .c (.ptr 2 0)), (4, .c (I v67)), (5, .c (.ptr 3 0))] [(0, .blk 78 [.lit (List.map aJ v87), I v88]), (1, .blk 31 [.row 4]), (2, .blk 31 [.row 5]), (3, .blk 63 [I v77, Sx v83, I v89, I 0, Sx (⟨#[]⟩ : ByteArray), bY]), (4, .vec 63 6 (List.map aW ([] : List cC))), (5, .vec 63 6 (List.map aW v70))] 6)) (fun v87 v88 v89 h => ?_) (fun j84 Aj84 hj84 h => ?_)
 refine aQ h (fun A j => ∀ v93 v94 v95, j v93 v94 v95 = some r → A (mk [(0, .c (.ptr 0 0)), (2, .c (.ptr 1 0)), (3, .c (.ptr 2 0)), (4, .c (I v67)), (5, .c (.ptr 3 0))] [(0, .blk 78 [.lit (List.map aJ v93), I v94]), (1, .blk 31 [.row 4]), (2, .blk 31 [.row 5]), (3, .blk 63 [I v77, Sx v83, I v89, I v95, Sx (⟨#[]⟩ : ByteArray), bY]), (4, .vec 63 6 (List.map aW ([] : List cC))), (5, .vec 63 6 (List.map aW v70))] 6)) (fun v93 v94 v95 h => ?_) (fun j90 Aj90 hj90 h => ?_)
 refine aQ h (fun A j => ∀ v99 v100 v101, j v99 v100 v101 = some r → A (mk [(0, .c (.ptr 0 0)), (2, .c (.ptr 1 0)), (3, .c (.ptr 2 0)), (4, .c (I v67)), (5, .c (.ptr 3 0))] [(0, .blk 78 [.lit (List.map aJ v99), I v100]), (1, .blk 31 [.row 4]), (2, .blk 31 [.row 5]), (3, .blk 63 [I v77, Sx v83, I v89, I v95, Sx v101, bY]), (4, .vec 63 6 (List.map aW ([] : List cC))), (5, .vec 63 6 (List.map aW v70))] 6)) (fun v99 v100 v101 h => ?_) (fun j96 Aj96 hj96 h => ?_)
 refine aQ h (fun A j => ∀ v122 v123 v124, j v122 v123 v124 = some r → A (mk [(0, .c (.ptr 0 0)), (2, .c (.ptr 1 0)), (3, .c (.ptr 2 0)), (4, .c (I v67)), (5, .c (.ptr 3 0))] [(0, .blk 78 [.lit (List.map aJ v122), I v123]), (1, .blk 31 [.row 4]), (2, .blk 31 [.row 5]), (3, .blk 63 [I v77, Sx v83, I v89, I v95, Sx v101, .app 6 (List.map bK v124)]), (4, .vec 63 6 (List.map aW ([] : List cC))), (5, .vec 63 6 (List.map aW v70)), (6, .tok 81 4 (List.length v124))] 7)) (fun v122 v123 v124 h => ?_) (fun j102 Aj102 hj102 h => ?_)
 refine aT ?_
 refine zy fun _ => ?_
 refine zk 4 ?_
 obtain ⟨l125, he, h⟩ := aB h
 refine sM (enc := aW) (l := v70) (els := [(cC.mk v77 v83 v89 v95 v101 v124)]) (r := l125) (m := 5) (e := 63) (sz := 6) (bytes := 80) (nm := 11) he (by kernel_rfl) (fun x => by kernel_rfl) (by kernel_rfl) (by kernel_rfl) rfl rfl rfl ?_
 clear he
 refine zk 2 ?_
 refine bL ?_
 exact dI (zv [(0, 0), (1, 1), (2, 2), (4, 3), (11, 4)] [0, 2, 3, 4] 5) (hj71 _ _ _ h)
 refine zx fun _ => ?_
 refine zk 1 ?_
 obtain ⟨y103, he, h⟩ := aB h
 refine zo [(0, 0)] Nn (oS n _ _ _ y103 he) ?_
 clear he
 refine zk 1 ?_
 refine ze [0, 2, 3, 4, 5, 6] ?_
 refine aF ?_
 refine bA (fun n s => ∃ v109 v110 v111 v112, jS v89 j102 v67 v77 v83 v95 v101 v70 n v109 v110 v111 v112 = some r ∧ s = mk [(0, .c (.ptr 0 0)), (2, .c (.ptr 1 0)), (3, .c (.ptr 2 0)), (4, .c (I v67)), (5, .c (.ptr 3 0)), (6, .c (I v109))] [(0, .blk 78 [.lit (List.map aJ v110), I v111]), (1, .blk 31 [.row 4]), (2, .blk 31 [.row 5]), (3, .blk 63 [I v77, Sx v83, I v89, I v95, Sx v101, .app 6 (List.map bK v112)]), (4, .vec 63 6 (List.map aW ([] : List cC))), (5, .vec 63 6 (List.map aW v70)), (6, .tok 81 4 (List.length v112))] 7) n _ (dU.trans (lB (n := 3) (T0 := 63) (l := [I v77, Sx v83, I v89, I v95, Sx v101, bY]) (G2 := [(0, .blk 78 [.lit (List.map aJ y103.2.L), I y103.2.At]), (1, .blk 31 [.row 4]), (2, .blk 31 [.row 5]), (3, .blk 63 [I v77, Sx v83, I v89, I v95, Sx v101, .app 9 (List.map bK ([] : List cI))]), (4, .vec 63 6 (List.map aW ([] : List cC))), (5, .vec 63 6 (List.map aW v70)), (9, .tok 81 4 (List.length ([] : List cI)))]) (lim2 := 10) 5 81 4 (by kernel_rfl) (by kernel_rfl) (by kernel_rfl) (by kernel_rfl)) (zv [(0, 0), (1, 1), (2, 2), (3, 3), (4, 4), (5, 5), (9, 6)] [0, 2, 3, 4, 5, 6] 7)) ⟨_, _, _, _, h, rfl⟩ (fun s ⟨v109, v110, v111, v112, h, _⟩ => nomatch h) ?_
 rintro n s ⟨v109, v110, v111, v112, h, rfl⟩
 rw [jS] at h
 refine aK ?_
 refine za [0, 2, 3, 4, 5, 6, 47] ?_
 refine zi h (fun h => ?_) fun h => ?_
 refine aC ?_
 refine aK ?_
 refine aF ?_
 refine Lh [[], [0], [], [], [3], [2, 4, 3], [5, 2, 4, 3], [1, 6, 5, 0, 2, 4, 3], [0, 1, 2, 3, 4, 5, 6, 7], [8, 7, 0, 1, 2, 3, 4, 5, 6]] fun _ => ?_
 refine zk 5 ?_
 obtain ⟨y113, he, h⟩ := aB h
 refine zo [(0, 0)] fok33 (Jz n _ _ y113 he) ?_
 clear he
 refine zk 1 ?_
 obtain ⟨l114, he, h⟩ := aB h
 refine cB (enc := bK) (l := v112) (els := [y113.1]) (r := l114) (old := some 6) (e := 81) (sz := 4) (bytes := 40) (k := (List.length v112)) (nm := 16) he (by kernel_rfl) (by kernel_rfl) (fun x => by kernel_rfl) (by kernel_rfl) (by kernel_rfl) rfl rfl rfl ?_
 clear he
 refine zk 2 ?_
 refine bL ?_
 refine aT ?_
 refine zb ?_
 exact dI (zv [(0, 0), (1, 1), (2, 2), (3, 3), (4, 4), (5, 5), (16, 6)] [0, 2, 3, 4, 5, 6] 7) (⟨_, _, _, _, h, rfl⟩)
 exact aI (zv [(0, 0), (1, 1), (2, 2), (3, 3), (4, 4), (5, 5), (6, 6)] [0, 2, 3, 4, 5] 7) (bD (hj102 _ _ _ h))
 refine zx fun _ => ?_
 refine zk 1 ?_
 obtain ⟨y97, he, h⟩ := aB h
 refine zo [(0, 0)] cL (bH n _ _ y97 he) ?_
 clear he
 refine zk 1 ?_
 refine ze [0, 2, 3, 4, 5, 40] ?_
 refine zi h (fun h => ?_) fun h => ?_
 refine aT ?_
 refine zy fun _ => ?_
 refine zk 1 ?_
 obtain ⟨y98, he, h⟩ := aB h
 refine zo [(0, 0)] Rn (uJ n _ y98 he) ?_
 clear he
 refine zk 2 ?_
 refine bL ?_
 exact dI (zv [(0, 0), (1, 1), (2, 2), (3, 3), (4, 4), (5, 5)] [0, 2, 3, 4, 5] 6) (hj96 _ _ _ h)
 exact aI (zv [(0, 0), (1, 1), (2, 2), (3, 3), (4, 4), (5, 5)] [0, 2, 3, 4, 5] 6) (aC (hj96 _ _ _ h))
 refine zx fun _ => ?_
 refine zk 1 ?_
 obtain ⟨y91, he, h⟩ := aB h
 refine zo [(0, 0)] cL (bH n _ _ y91 he) ?_
 clear he
 refine zk 1 ?_
 refine ze [0, 2, 3, 4, 5, 34] ?_
 refine zi h (fun h => ?_) fun h => ?_
 refine aT ?_
 refine zy fun _ => ?_
 refine zk 1 ?_
 obtain ⟨y92, he, h⟩ := aB h
 refine zo [(0, 0)] cL (bH n _ _ y92 he) ?_
 clear he
 refine zk 2 ?_
 refine bL ?_
 exact dI (zv [(0, 0), (1, 1), (2, 2), (3, 3), (4, 4), (5, 5)] [0, 2, 3, 4, 5] 6) (hj90 _ _ _ h)
 exact aI (zv [(0, 0), (1, 1), (2, 2), (3, 3), (4, 4), (5, 5)] [0, 2, 3, 4, 5] 6) (aC (hj90 _ _ _ h))
 refine zx fun _ => ?_
 refine zk 1 ?_
 obtain ⟨y85, he, h⟩ := aB h
 refine zo [(0, 0)] cL (bH n _ _ y85 he) ?_
 clear he
 refine zk 1 ?_
 refine ze [0, 2, 3, 4, 5, 28] ?_
 refine zi h (fun h => ?_) fun h => ?_
 refine aT ?_
 refine zy fun _ => ?_
 refine zk 1 ?_
 obtain ⟨y86, he, h⟩ := aB h
 refine zo [(0, 0)] cL (bH n _ _ y86 he) ?_
 clear he
 refine zk 2 ?_
 refine bL ?_
 exact dI (zv [(0, 0), (1, 1), (2, 2), (3, 3), (4, 4), (5, 5)] [0, 2, 3, 4, 5] 6) (hj84 _ _ _ h)
 exact aI (zv [(0, 0), (1, 1), (2, 2), (3, 3), (4, 4), (5, 5)] [0, 2, 3, 4, 5] 6) (aC (hj84 _ _ _ h))
 refine zx fun _ => ?_
 refine zk 1 ?_
 obtain ⟨y79, he, h⟩ := aB h
 refine zo [(0, 0)] cL (bH n _ _ y79 he) ?_
 clear he
 refine zk 1 ?_
 refine ze [0, 2, 3, 4, 5, 22] ?_
 refine zi h (fun h => ?_) fun h => ?_
 refine aT ?_
 refine zy fun _ => ?_
 refine zk 1 ?_
 obtain ⟨y80, he, h⟩ := aB h
 refine zo [(0, 0)] Rn (uJ n _ y80 he) ?_
 clear he
 refine zk 2 ?_
 refine bL ?_
 exact dI (zv [(0, 0), (1, 1), (2, 2), (3, 3), (4, 4), (5, 5)] [0, 2, 3, 4, 5] 6) (hj78 _ _ _ h)
 exact aI (zv [(0, 0), (1, 1), (2, 2), (3, 3), (4, 4), (5, 5)] [0, 2, 3, 4, 5] 6) (aC (hj78 _ _ _ h))
 refine zx fun _ => ?_
 refine zk 1 ?_
 obtain ⟨y73, he, h⟩ := aB h
 refine zo [(0, 0)] cL (bH n _ _ y73 he) ?_
 clear he
 refine zk 1 ?_
 refine ze [0, 2, 3, 4, 5, 16] ?_
 refine zi h (fun h => ?_) fun h => ?_
 refine aT ?_
 refine zy fun _ => ?_
 refine zk 1 ?_
 obtain ⟨y74, he, h⟩ := aB h
 refine zo [(0, 0)] cL (bH n _ _ y74 he) ?_
 clear he
 refine zk 2 ?_
 refine bL ?_
 exact dI (zv [(0, 0), (1, 1), (2, 2), (8, 3), (3, 4), (4, 5)] [0, 2, 3, 4, 5] 6) (hj72 _ _ _ h)
 exact aI (zv [(0, 0), (1, 1), (2, 2), (8, 3), (3, 4), (4, 5)] [0, 2, 3, 4, 5] 6) (aC (hj72 _ _ _ h))
 exact aI (zv [(0, 0), (1, 1), (2, 2), (3, 3), (4, 4)] [2, 3] 5) (bD (hj1 _ _ _ h))
def iS (p1 : bC) (j1 : List aU → List Int → Int → Option ((List aU) × aP)) : Nat → List aU → Int → List Int → Int → Option ((List aU) × aP)
 | 0, _, _, _, _ => none
 | n + 1, v10, v11, v12, v13 => (if (decide (v11 < (List.length p1.Nodes : Int))) = true then (aV (fun (v19 : List aU) (v20 : List Int) (v21 : Int) => iS p1 j1 n v19 (IntKind.wrap .i64 (v11 + 1)) v20 v21) (fun (j14 : List aU → List Int → Int → Option ((List aU) × aP)) => (cH n (aP.mk v12 v13) 4).bind fun (y15 : (Int × aP)) => (if (y15.1 == 0) = true then (idx p1.Nodes v11).bind fun (e16 : aR) => (cH n y15.2 32).bind fun (y17 : (Int × aP)) => (pE 16 v10 [(aU.mk e16.ID y17.1)]).bind fun (l18 : List aU) => j14 l18 y17.2.L y17.2.At else j14 v10 y15.2.L y15.2.At))) else j1 v10 v12 v13)
def pQ  (n : Nat) (p0 : aP) (p1 : bC) : Option ((List aU) × aP) := (aV (fun (v26 : List aU) (v27 : List Int) (v28 : Int) => some (v26, (aP.mk v27 v28))) (fun (j1 : List aU → List Int → Int → Option ((List aU) × aP)) => iS p1 j1 n ([] : List aU) 0 p0.L p0.At))
theorem Ex  (n : Nat) (p0 : aP) (p1 : bC) (r : ((List aU) × aP)) (h : pQ n p0 p1 = some r) : cN E 14 1 [.c (.ptr 0 0), .agg [I p1.Root, I p1.Next, .lit (List.map aE p1.Nodes)]] [(0, .blk 78 [.lit (List.map aJ p0.L), I p0.At])] (.c (.lit (List.map bG r.1))) [(0, .blk 78 [.lit (List.map aJ r.2.L), I r.2.At])] := by
 refine fW Tryz.func14 rfl ?_
 unfold pQ at h
 refine za [0, 3] ?_
 refine za [0, 3, 5] ?_
 refine aQ h (fun A j => ∀ v26 v27 v28, j v26 v27 v28 = some r → A (mk [(5, .c (.app 1 (List.map bG v26)))] [(0, .blk 78 [.lit (List.map aJ v27), I v28]), (1, .tok 67 2 (List.length v26))] 2)) (fun v26 v27 v28 h => ?_) (fun j1 Aj1 hj1 h => ?_)
 refine za [4] ?_
 cases h
 exact aG zr
 refine za [0, 3, 5, 6] ?_
 refine aF ?_
 refine bA (fun n s => ∃ v10 v11 v12 v13, iS p1 j1 n v10 v11 v12 v13 = some r ∧ s = mk [(0, .c (.ptr 0 0)), (3, .c (.ptr 1 0)), (5, .c (.app 2 (List.map bG v10))), (6, .c (I v11))] [(0, .blk 78 [.lit (List.map aJ v12), I v13]), (1, .blk 27 [I p1.Root, I p1.Next, .lit (List.map aE p1.Nodes)]), (2, .tok 67 2 (List.length v10))] 3) n _ (dU.trans (mJ (L2 := [(0, .c (.ptr 0 0)), (3, .c (.ptr 1 0)), (5, .c (.app 5 (List.map bG ([] : List aU)))), (6, .c (I 0))]) (G2 := [(0, .blk 78 [.lit (List.map aJ p0.L), I p0.At]), (1, .blk 27 [I p1.Root, I p1.Next, .lit (List.map aE p1.Nodes)]), (5, .tok 67 2 (List.length ([] : List aU)))]) (lim2 := 6) 5 67 2 (by kernel_rfl) (by kernel_rfl) (by kernel_rfl) (by kernel_rfl)) (zv [(0, 0), (1, 1), (5, 2)] [0, 3, 5, 6] 3)) ⟨_, _, _, _, h, rfl⟩ (fun s ⟨v10, v11, v12, v13, h, _⟩ => nomatch h) ?_
 rintro n s ⟨v10, v11, v12, v13, h, rfl⟩
 rw [iS] at h
 refine aK ?_
 refine zx fun _ => ?_
 refine zk 3 ?_
 refine zl aE p1.Nodes ?_
 refine zk 1 ?_
 refine ze [0, 3, 5, 6, 11] ?_
 refine zi h (fun h => ?_) fun h => ?_
 refine aC ?_
 refine aQ h (fun A j => ∀ v19 v20 v21, j v19 v20 v21 = some r → A (mk [(0, .c (.ptr 0 0)), (3, .c (.ptr 1 0)), (5, .c (.app 2 (List.map bG v19))), (6, .c (I v11))] [(0, .blk 78 [.lit (List.map aJ v20), I v21]), (1, .blk 27 [I p1.Root, I p1.Next, .lit (List.map aE p1.Nodes)]), (2, .tok 67 2 (List.length v19))] 3)) (fun v19 v20 v21 h => ?_) (fun j14 Aj14 hj14 h => ?_)
 refine aT ?_
 refine zb ?_
 exact dI (zv [(0, 0), (1, 1), (2, 2)] [0, 3, 5, 6] 3) (⟨_, _, _, _, h, rfl⟩)
 refine aF ?_
 refine zx fun _ => ?_
 refine zk 1 ?_
 obtain ⟨y15, he, h⟩ := aB h
 refine zo [(0, 0)] cL (bH n _ _ y15 he) ?_
 clear he
 refine zk 1 ?_
 refine ze [0, 3, 5, 6, 16] ?_
 refine zi h (fun h => ?_) fun h => ?_
 refine aT ?_
 refine Lh [[], [], [1], [], [2, 3, 1], [4, 2, 3, 1], [5, 4, 2, 3, 1], [], [7], [6, 8, 5, 4, 2, 3, 1, 7], [9, 6, 8, 5, 4, 2, 3, 1, 7], [0, 10, 8, 9, 6, 5, 4, 2, 3, 1, 7], [11, 0, 1, 2, 3, 4, 5, 6, 7, 8, 9, 10]] fun _ => ?_
 refine zk 4 ?_
 obtain ⟨e16, he, h⟩ := aB h
 refine zd aE he ?_
 clear he
 refine zk 3 ?_
 obtain ⟨y17, he, h⟩ := aB h
 refine zo [(0, 0)] cL (bH n _ _ y17 he) ?_
 clear he
 refine zk 2 ?_
 obtain ⟨l18, he, h⟩ := aB h
 refine cB (enc := bG) (l := v10) (els := [(aU.mk e16.ID y17.1)]) (r := l18) (old := some 2) (e := 67) (sz := 2) (bytes := 16) (k := (List.length v10)) (nm := 22) he (by kernel_rfl) (by kernel_rfl) (fun x => by kernel_rfl) (by kernel_rfl) (by kernel_rfl) rfl rfl rfl ?_
 clear he
 refine zk 1 ?_
 refine bL ?_
 exact dI (zv [(0, 0), (1, 1), (22, 2)] [0, 3, 5, 6] 3) (hj14 _ _ _ h)
 exact aI (zv [(0, 0), (1, 1), (2, 2)] [0, 3, 5, 6] 3) (aC (hj14 _ _ _ h))
 exact aI (zv [(0, 0), (2, 1)] [5] 2) (bD (hj1 _ _ _ h))
def gT (p0 : (List aZ)) (p1 : ByteArray) (j1 : Unit → Option (aH × Bool)) : Nat → Int → Option (aH × Bool)
 | 0, _ => none
 | n + 1, v4 => (if (decide (v4 < (List.length p0 : Int))) = true then (idx p0 v4).bind fun (e5 : aZ) => (if (cG e5.Name p1) = true then (idx p0 v4).bind fun (e6 : aZ) => some (e6.Value, true) else gT p0 p1 j1 n (IntKind.wrap .i64 (v4 + 1))) else j1 ())
def sU  (n : Nat) (p0 : (List aZ)) (p1 : ByteArray) : Option (aH × Bool) := (aV (fun (_ : Unit) => some ((aH.mk 0 0 (⟨#[]⟩ : ByteArray) ([] : List aH)), false)) (fun (j1 : Unit → Option (aH × Bool)) => gT p0 p1 j1 n 0))
theorem Er  (n : Nat) (p0 : (List aZ)) (p1 : ByteArray) (r : (aH × Bool)) (h : sU n p0 p1 = some r) : cN E 92 0 [.c (.lit (List.map aM p0)), .c (Sx p1)] [] (.tup [.agg [I r.1.Kind, I r.1.N, Sx r.1.S, .lit (List.map aO r.1.L)], .c (Bo r.2)]) [] := by
 refine fW Tryz.func92 rfl ?_
 unfold sU at h
 refine za [0, 1, 4] ?_
 refine aQ h (fun A j => ∀ u, j u = some r → A (mk [(4, .c (.ptr 0 0))] [(0, .blk 152 [I 0, I 0, Sx (⟨#[]⟩ : ByteArray), bY])] 1)) (fun u h => ?_) (fun j1 Aj1 hj1 h => ?_)
 refine za [4, 5] ?_
 cases h
 exact aG zr
 refine za [0, 1, 4, 6] ?_
 refine aF ?_
 refine bA (fun n s => ∃ v4, gT p0 p1 j1 n v4 = some r ∧ s = mk [(0, .c (.lit (List.map aM p0))), (1, .c (Sx p1)), (4, .c (.ptr 0 0)), (6, .c (I v4))] [(0, .blk 152 [I 0, I 0, Sx (⟨#[]⟩ : ByteArray), bY])] 1) n _ (zv [(0, 0)] [0, 1, 4, 6] 1) ⟨_, h, rfl⟩ (fun s ⟨v4, h, _⟩ => nomatch h) ?_
 rintro n s ⟨v4, h, rfl⟩
 rw [gT] at h
 refine aK ?_
 refine zx fun _ => ?_
 refine zk 2 ?_
 refine zl aM p0 ?_
 refine zk 1 ?_
 refine ze [0, 1, 4, 6, 10] ?_
 refine zi h (fun h => ?_) fun h => ?_
 refine aC ?_
 refine aK ?_
 refine aF ?_
 refine zx fun _ => ?_
 refine zk 2 ?_
 obtain ⟨e5, he, h⟩ := aB h
 refine zd aM he ?_
 clear he
 refine zk 4 ?_
 refine ze [0, 1, 4, 6, 19] ?_
 refine zi h (fun h => ?_) fun h => ?_
 refine zx fun _ => ?_
 refine zk 2 ?_
 obtain ⟨e6, he, h⟩ := aB h
 refine zd aM he ?_
 clear he
 refine zk 4 ?_
 refine ze [4, 5] ?_
 cases h
 exact aG zr
 refine aC ?_
 refine aT ?_
 refine zb ?_
 exact dI (zv [(0, 0)] [0, 1, 4, 6] 1) (⟨_, h, rfl⟩)
 exact aI (zv [(0, 0)] [4] 1) (bD (hj1 _ h))
def sE  (n : Nat) (p0 : (List aZ)) (p1 : ByteArray) : Option ByteArray := (sU n p0 p1).bind fun (y1 : (aH × Bool)) => (if (y1.1.Kind != 3) = true then some (⟨#[]⟩ : ByteArray) else some y1.1.S)
theorem Ez  (n : Nat) (p0 : (List aZ)) (p1 : ByteArray) (r : ByteArray) (h : sE n p0 p1 = some r) : cN E 113 0 [.c (.lit (List.map aM p0)), .c (Sx p1)] [] (.c (Sx r)) [] := by
 refine fW Tryz.func113 rfl ?_
 unfold sE at h
 refine za [0, 1] ?_
 refine zx fun _ => ?_
 refine zk 2 ?_
 obtain ⟨y1, he, h⟩ := aB h
 refine zc fok92 (Er n _ _ y1 he) ?_
 clear he
 refine zk 6 ?_
 refine ze [5] ?_
 refine aK ?_
 refine za [5, 15] ?_
 refine zi h (fun h => ?_) fun h => ?_
 refine za [4] ?_
 cases h
 exact aG zr
 refine aC ?_
 refine za [4] ?_
 cases h
 exact aG zr
def mF  (n : Nat) (p0 : aR) : Option ByteArray := (sE n p0.Attrs (⟨#[99, 108, 97, 115, 115]⟩ : ByteArray)).bind fun (y1 : ByteArray) => some y1
theorem uE  (n : Nat) (p0 : aR) (r : ByteArray) (h : mF n p0 = some r) : cN E 89 0 [.agg [I p0.ID, I p0.Parent, I p0.Kind, Sx p0.Key, .lit (List.map aM p0.Attrs), .lit (List.map aD p0.Actions), .lit (List.map aJ p0.Kids)]] [] (.c (Sx r)) [] := by
 refine fW Tryz.func89 rfl ?_
 unfold mF at h
 refine za [1] ?_
 refine zx fun _ => ?_
 refine zk 2 ?_
 obtain ⟨y1, he, h⟩ := aB h
 refine zc Zf (Ez n _ _ y1 he) ?_
 clear he
 refine zk 1 ?_
 refine ze [2] ?_
 cases h
 exact aG zr
def gI (p0 : (List aU)) (p1 : Int) (j1 : Unit → Option Int) : Nat → Int → Option Int
 | 0, _ => none
 | n + 1, v4 => (if (decide (v4 < (List.length p0 : Int))) = true then (idx p0 v4).bind fun (e5 : aU) => (if (e5.ID == p1) = true then (idx p0 v4).bind fun (e6 : aU) => some e6.States else gI p0 p1 j1 n (IntKind.wrap .i64 (v4 + 1))) else j1 ())
def mU  (n : Nat) (p0 : (List aU)) (p1 : Int) : Option Int := (aV (fun (_ : Unit) => some 0) (fun (j1 : Unit → Option Int) => gI p0 p1 j1 n 0))
theorem Ap  (n : Nat) (p0 : (List aU)) (p1 : Int) (r : Int) (h : mU n p0 p1 = some r) : cN E 90 0 [.c (.lit (List.map bG p0)), .c (I p1)] [] (.c (I r)) [] := by
 refine fW Tryz.func90 rfl ?_
 unfold mU at h
 refine za [0, 1] ?_
 refine aQ h (fun A j => ∀ u, j u = some r → A (mk [] [] 0)) (fun u h => ?_) (fun j1 Aj1 hj1 h => ?_)
 refine za [4] ?_
 cases h
 exact aG zr
 refine za [0, 1, 5] ?_
 refine aF ?_
 refine bA (fun n s => ∃ v4, gI p0 p1 j1 n v4 = some r ∧ s = mk [(0, .c (.lit (List.map bG p0))), (1, .c (I p1)), (5, .c (I v4))] [] 0) n _ (zv [] [0, 1, 5] 0) ⟨_, h, rfl⟩ (fun s ⟨v4, h, _⟩ => nomatch h) ?_
 rintro n s ⟨v4, h, rfl⟩
 rw [gI] at h
 refine aK ?_
 refine zx fun _ => ?_
 refine zk 2 ?_
 refine zl bG p0 ?_
 refine zk 1 ?_
 refine ze [0, 1, 5, 9] ?_
 refine zi h (fun h => ?_) fun h => ?_
 refine aC ?_
 refine aK ?_
 refine aF ?_
 refine zx fun _ => ?_
 refine zk 2 ?_
 obtain ⟨e5, he, h⟩ := aB h
 refine zd bG he ?_
 clear he
 refine zk 4 ?_
 refine ze [0, 1, 5, 18] ?_
 refine zi h (fun h => ?_) fun h => ?_
 refine zx fun _ => ?_
 refine zk 2 ?_
 obtain ⟨e6, he, h⟩ := aB h
 refine zd bG he ?_
 clear he
 refine zk 3 ?_
 refine ze [4] ?_
 cases h
 exact aG zr
 refine aC ?_
 refine aT ?_
 refine zb ?_
 exact dI (zv [] [0, 1, 5] 0) (⟨_, h, rfl⟩)
 exact aI (zv [] [] 0) (bD (hj1 _ h))
def eO (p1 : bC) (p0 : cC) (j4 : Unit → Option Bool) : Nat → Int → Int → Int → ByteArray → List aZ → List cE → List Int → Option Bool
 | 0, _, _, _, _, _, _, _ => none
 | n + 1, v7, v8, v9, v10, v11, v12, v13 => (if (v8 != 0) = true then (iT n p1 v8).bind fun (y14 : aR) => (gd [((p0.UnderKind == 0) || (p0.UnderKind == y14.Kind)), (!(cG p0.UnderClass (⟨#[]⟩ : ByteArray)))] (mF n y14)).bind fun (y15 : ByteArray) => (if (((p0.UnderKind == 0) || (p0.UnderKind == y14.Kind)) && ((cG p0.UnderClass (⟨#[]⟩ : ByteArray)) || (cG p0.UnderClass y15))) = true then some true else eO p1 p0 j4 n y14.ID y14.Parent y14.Kind y14.Key y14.Attrs y14.Actions y14.Kids) else j4 ())
def lP  (n : Nat) (p0 : cC) (p1 : bC) (p2 : (List aU)) (p3 : Int) : Option Bool := (iT n p1 p3).bind fun (y1 : aR) => (gd [(!((p0.Kind != 0) && (p0.Kind != y1.Kind))), (!(cG p0.Class (⟨#[]⟩ : ByteArray)))] (mF n y1)).bind fun (y2 : ByteArray) => (gd [(!(((p0.Kind != 0) && (p0.Kind != y1.Kind)) || ((!(cG p0.Class (⟨#[]⟩ : ByteArray))) && (!(cG p0.Class y2)))))] (mU n p2 p3)).bind fun (y3 : Int) => (if ((((p0.Kind != 0) && (p0.Kind != y1.Kind)) || ((!(cG p0.Class (⟨#[]⟩ : ByteArray))) && (!(cG p0.Class y2)))) || ((lQ .i64 y3 p0.States) != p0.States)) = true then some false else (if ((p0.UnderKind == 0) && (cG p0.UnderClass (⟨#[]⟩ : ByteArray))) = true then some true else (aV (fun (_ : Unit) => some false) (fun (j4 : Unit → Option Bool) => eO p1 p0 j4 n y1.ID y1.Parent y1.Kind y1.Key y1.Attrs y1.Actions y1.Kids))))
theorem zN  (n : Nat) (p0 : cC) (p1 : bC) (p2 : (List aU)) (p3 : Int) (r : Bool) (h : lP n p0 p1 p2 p3 = some r) : cN E 54 0 [.agg [I p0.Kind, Sx p0.Class, I p0.States, I p0.UnderKind, Sx p0.UnderClass, .lit (List.map bK p0.Decls)], .agg [I p1.Root, I p1.Next, .lit (List.map aE p1.Nodes)], .c (.lit (List.map bG p2)), .c (I p3)] [] (.c (Bo r)) [] := by
 refine fW Tryz.func54 rfl ?_
 unfold lP at h
 refine za [2, 3, 4, 5] ?_
 refine zx fun _ => ?_
 refine zk 2 ?_
 obtain ⟨y1, he, h⟩ := aB h
 refine zc Nu (nP n _ _ y1 he) ?_
 clear he
 refine zk 2 ?_
 refine ze [2, 3, 4, 5, 9] ?_
 refine aK ?_
 refine wP [[], [0], [1, 0], [2, 1, 0], [3, 2, 1, 0], [4, 3, 2, 1, 0], [3, 2, 1, 0], [6, 3, 2, 1, 0], [5, 7, 3, 4, 2, 1, 0, 6], [3, 8, 2, 1, 0, 5, 7, 4, 6], [9, 3, 8, 2, 1, 0, 5, 7, 4, 6], [10, 9, 3, 8, 2, 1, 0, 5, 7, 4, 6], [11, 10, 9, 3, 8, 2, 1, 0, 5, 7, 4, 6], [12, 10, 11, 9, 3, 8, 2, 1, 0, 5, 7, 4, 6], [13, 10, 12, 11, 9, 3, 8, 2, 1, 0, 5, 7, 4, 6], [14, 13, 10, 12, 11, 9, 3, 8, 2, 1, 0, 5, 7, 4, 6], [15, 14, 13, 10, 12, 11, 9, 3, 8, 2, 1, 0, 5, 7, 4, 6], [14, 13, 10, 12, 11, 9, 3, 8, 2, 1, 0, 5, 7, 4, 6], [17, 14, 13, 10, 12, 11, 9, 3, 8, 2, 1, 0, 5, 7, 4, 6], [16, 18, 14, 15, 13, 10, 12, 11, 9, 3, 8, 2, 1, 0, 5, 7, 4, 6, 17], [14, 19, 10, 13, 12, 11, 9, 3, 8, 2, 1, 0, 5, 7, 4, 6, 16, 18, 15, 17], [10, 20, 9, 3, 8, 2, 1, 0, 5, 7, 4, 6, 14, 19, 13, 12, 11, 16, 18, 15, 17], [21, 18, 10, 20, 9, 3, 8, 2, 1, 0, 5, 7, 4, 6, 14, 19, 13, 12, 11, 16, 15, 17], [22, 21, 18, 10, 20, 9, 3, 8, 2, 1, 0, 5, 7, 4, 6, 14, 19, 13, 12, 11, 16, 15, 17], [22, 21, 18, 10, 20, 9, 3, 8, 2, 1, 0, 5, 7, 4, 6, 14, 19, 13, 12, 11, 16, 15, 17], [23, 24, 22, 21, 18, 10, 20, 9, 3, 8, 2, 1, 0, 5, 7, 4, 6, 14, 19, 13, 12, 11, 16, 15, 17], [22, 21, 18, 10, 20, 9, 3, 8, 2, 1, 0, 5, 7, 4, 6, 14, 19, 13, 12, 11, 16, 15, 17], [26, 22, 21, 18, 10, 20, 9, 3, 8, 2, 1, 0, 5, 7, 4, 6, 14, 19, 13, 12, 11, 16, 15, 17], [25, 27, 22, 23, 24, 21, 18, 10, 20, 9, 3, 8, 2, 1, 0, 5, 7, 4, 6, 14, 19, 13, 12, 11, 16, 15, 17, 26], [22, 21, 18, 10, 20, 9, 3, 8, 2, 1, 0, 5, 7, 4, 6, 14, 19, 13, 12, 11, 16, 15, 17], [29, 22, 21, 18, 10, 20, 9, 3, 8, 2, 1, 0, 5, 7, 4, 6, 14, 19, 13, 12, 11, 16, 15, 17], [28, 30, 22, 25, 27, 23, 24, 21, 18, 10, 20, 9, 3, 8, 2, 1, 0, 5, 7, 4, 6, 14, 19, 13, 12, 11, 16, 15, 17, 26, 29], [22, 31, 21, 18, 10, 20, 9, 3, 8, 2, 1, 0, 5, 7, 4, 6, 14, 19, 13, 12, 11, 16, 15, 17, 28, 30, 25, 27, 23, 24, 26, 29]] fun _ => ?_
 refine zk 4 ?_
 refine zE (.c (.ptr 0 0)) ?_
 refine zE (.c (I p0.Kind)) ?_
 refine zE (.c (.ptr 6 2)) ?_
 refine zE (.c (I y1.Kind)) ?_
 refine zE (.c (Bo (p0.Kind != y1.Kind))) ?_
 refine zP (.bool ((p0.Kind != 0) && (p0.Kind != y1.Kind))) ?_
 refine zk 1 ?_
 refine zE (.c (.ptr 0 1)) ?_
 refine zE (.c (Sx p0.Class)) ?_
 refine zE (.c (Bo (!(cG p0.Class (⟨#[]⟩ : ByteArray))))) ?_
 refine zF [(!((p0.Kind != 0) && (p0.Kind != y1.Kind)))] (.c (Bo (!(cG p0.Class (⟨#[]⟩ : ByteArray))))) ?_
 refine zE (.c (.ptr 0 1)) ?_
 refine zE (.c (Sx p0.Class)) ?_
 refine zE (.agg [I y1.ID, I y1.Parent, I y1.Kind, Sx y1.Key, .lit (List.map aM y1.Attrs), .lit (List.map aD y1.Actions), .lit (List.map aJ y1.Kids)]) ?_
 obtain ⟨y2, he, h⟩ := aB h
 refine Ho [(!((p0.Kind != 0) && (p0.Kind != y1.Kind))), (!(cG p0.Class (⟨#[]⟩ : ByteArray)))] Xb (fun hg => uE n _ y2 (bT he hg)) ?_
 clear he
 refine zE (.c (Bo (!(cG p0.Class y2)))) ?_
 refine zP (.bool ((!(cG p0.Class (⟨#[]⟩ : ByteArray))) && (!(cG p0.Class y2)))) ?_
 refine zP (.bool (((p0.Kind != 0) && (p0.Kind != y1.Kind)) || ((!(cG p0.Class (⟨#[]⟩ : ByteArray))) && (!(cG p0.Class y2))))) ?_
 refine Ym 1 (L' := [(2, .c (.lit (List.map bG p2))), (3, .c (I p3)), (4, .c (.ptr 0 0)), (5, .c (.ptr 1 0)), (9, .c (.ptr 6 0)), (13, .c (.ptr 0 0)), (14, .c (I p0.Kind)), (15, .c (Bo (p0.Kind != 0))), (16, .c (Bo (p0.Kind != 0))), (17, .cnd [(p0.Kind != 0)] (.c (.ptr 0 0))), (18, .cnd [(p0.Kind != 0)] (.c (I p0.Kind))), (19, .cnd [(p0.Kind != 0)] (.c (.ptr 6 2))), (20, .cnd [(p0.Kind != 0)] (.c (I y1.Kind))), (21, .cnd [(p0.Kind != 0)] (.c (Bo (p0.Kind != y1.Kind)))), (22, .c (Bo ((p0.Kind != 0) && (p0.Kind != y1.Kind)))), (23, .c (Bo ((p0.Kind != 0) && (p0.Kind != y1.Kind)))), (24, .cnd [(!((p0.Kind != 0) && (p0.Kind != y1.Kind)))] (.c (.ptr 0 1))), (25, .cnd [(!((p0.Kind != 0) && (p0.Kind != y1.Kind)))] (.c (Sx p0.Class))), (26, .cnd [(!((p0.Kind != 0) && (p0.Kind != y1.Kind)))] (.c (Bo (!(cG p0.Class (⟨#[]⟩ : ByteArray)))))), (27, .cnd [(!((p0.Kind != 0) && (p0.Kind != y1.Kind)))] (.c (Bo (!(cG p0.Class (⟨#[]⟩ : ByteArray)))))), (28, .cnd [(!((p0.Kind != 0) && (p0.Kind != y1.Kind))), (!(cG p0.Class (⟨#[]⟩ : ByteArray)))] (.c (.ptr 0 1))), (29, .cnd [(!((p0.Kind != 0) && (p0.Kind != y1.Kind))), (!(cG p0.Class (⟨#[]⟩ : ByteArray)))] (.c (Sx p0.Class))), (30, .cnd [(!((p0.Kind != 0) && (p0.Kind != y1.Kind))), (!(cG p0.Class (⟨#[]⟩ : ByteArray)))] (.agg [I y1.ID, I y1.Parent, I y1.Kind, Sx y1.Key, .lit (List.map aM y1.Attrs), .lit (List.map aD y1.Actions), .lit (List.map aJ y1.Kids)])), (31, .cnd [(!((p0.Kind != 0) && (p0.Kind != y1.Kind))), (!(cG p0.Class (⟨#[]⟩ : ByteArray)))] (.c (Sx y2))), (32, .cnd [(!((p0.Kind != 0) && (p0.Kind != y1.Kind))), (!(cG p0.Class (⟨#[]⟩ : ByteArray)))] (.c (Bo (!(cG p0.Class y2))))), (33, .cnd [(!((p0.Kind != 0) && (p0.Kind != y1.Kind)))] (.c (Bo ((!(cG p0.Class (⟨#[]⟩ : ByteArray))) && (!(cG p0.Class y2)))))), (34, .c (Bo (((p0.Kind != 0) && (p0.Kind != y1.Kind)) || ((!(cG p0.Class (⟨#[]⟩ : ByteArray))) && (!(cG p0.Class y2)))))), (35, .c (Bo (((p0.Kind != 0) && (p0.Kind != y1.Kind)) || ((!(cG p0.Class (⟨#[]⟩ : ByteArray))) && (!(cG p0.Class y2))))))]) (G' := [(0, .blk 63 [I p0.Kind, Sx p0.Class, I p0.States, I p0.UnderKind, Sx p0.UnderClass, .lit (List.map bK p0.Decls)]), (1, .blk 27 [I p1.Root, I p1.Next, .lit (List.map aE p1.Nodes)]), (6, .blk 58 [I y1.ID, I y1.Parent, I y1.Kind, Sx y1.Key, .lit (List.map aM y1.Attrs), .lit (List.map aD y1.Actions), .lit (List.map aJ y1.Kids)])]) (X' := [(0, ⟨[], []⟩), (1, ⟨[0], []⟩), (2, ⟨[], []⟩), (3, ⟨[], []⟩), (4, ⟨[], []⟩), (5, ⟨[0], []⟩), (6, ⟨[], []⟩), (7, ⟨[6], []⟩), (8, ⟨[], []⟩), (9, ⟨[], []⟩), (10, ⟨[], []⟩), (11, ⟨[], []⟩), (12, ⟨[0], []⟩), (13, ⟨[], []⟩), (14, ⟨[], []⟩), (15, ⟨[], []⟩), (16, ⟨[0], []⟩), (17, ⟨[6], []⟩), (18, ⟨[], []⟩), (19, ⟨[], []⟩), (20, ⟨[], []⟩), (21, ⟨[], []⟩), (22, ⟨[], []⟩)]) ?_
 refine zE (.c (.lit (List.map bG p2))) ?_
 refine zE (.c (I p3)) ?_
 obtain ⟨y3, he, h⟩ := aB h
 refine Ho [(!(((p0.Kind != 0) && (p0.Kind != y1.Kind)) || ((!(cG p0.Class (⟨#[]⟩ : ByteArray))) && (!(cG p0.Class y2)))))] fok90 (fun hg => Ap n _ _ y3 (bT he hg)) ?_
 clear he
 refine zE (.c (.ptr 0 2)) ?_
 refine zE (.c (I p0.States)) ?_
 refine zE (.c (I (lQ .i64 y3 p0.States))) ?_
 refine zE (.c (.ptr 0 2)) ?_
 refine zE (.c (I p0.States)) ?_
 refine zE (.c (Bo ((lQ .i64 y3 p0.States) != p0.States))) ?_
 refine zP (.bool ((((p0.Kind != 0) && (p0.Kind != y1.Kind)) || ((!(cG p0.Class (⟨#[]⟩ : ByteArray))) && (!(cG p0.Class y2)))) || ((lQ .i64 y3 p0.States) != p0.States))) ?_
 refine jV [4, 5, 9, 45] (L2 := [(4, .c (.ptr 0 0)), (5, .c (.ptr 1 0)), (9, .c (.ptr 6 0)), (45, .c (Bo ((((p0.Kind != 0) && (p0.Kind != y1.Kind)) || ((!(cG p0.Class (⟨#[]⟩ : ByteArray))) && (!(cG p0.Class y2)))) || ((lQ .i64 y3 p0.States) != p0.States))))]) (G2 := [(0, .blk 63 [I p0.Kind, Sx p0.Class, I p0.States, I p0.UnderKind, Sx p0.UnderClass, .lit (List.map bK p0.Decls)]), (1, .blk 27 [I p1.Root, I p1.Next, .lit (List.map aE p1.Nodes)]), (6, .blk 58 [I y1.ID, I y1.Parent, I y1.Kind, Sx y1.Key, .lit (List.map aM y1.Attrs), .lit (List.map aD y1.Actions), .lit (List.map aJ y1.Kids)])]) 41 ?_
 refine zi h (fun h => ?_) fun h => ?_
 refine za [8] ?_
 cases h
 exact aG zr
 refine aC ?_
 refine aK ?_
 refine zx fun _ => ?_
 refine zk 4 ?_
 refine zE (.c (.ptr 0 4)) ?_
 refine zE (.c (Sx p0.UnderClass)) ?_
 refine zE (.c (Bo (cG p0.UnderClass (⟨#[]⟩ : ByteArray)))) ?_
 refine zP (.bool ((p0.UnderKind == 0) && (cG p0.UnderClass (⟨#[]⟩ : ByteArray)))) ?_
 refine ze [4, 5, 9, 53] ?_
 refine zi h (fun h => ?_) fun h => ?_
 refine za [8] ?_
 cases h
 exact aG zr
 refine aC ?_
 refine aQ h (fun A j => ∀ u, j u = some r → A (mk [] [] 0)) (fun u h => ?_) (fun j4 Aj4 hj4 h => ?_)
 refine za [8] ?_
 cases h
 exact aG zr
 refine aF ?_
 refine bA (fun n s => ∃ v7 v8 v9 v10 v11 v12 v13, eO p1 p0 j4 n v7 v8 v9 v10 v11 v12 v13 = some r ∧ s = mk [(4, .c (.ptr 0 0)), (5, .c (.ptr 1 0)), (9, .c (.ptr 2 0))] [(0, .blk 63 [I p0.Kind, Sx p0.Class, I p0.States, I p0.UnderKind, Sx p0.UnderClass, .lit (List.map bK p0.Decls)]), (1, .blk 27 [I p1.Root, I p1.Next, .lit (List.map aE p1.Nodes)]), (2, .blk 58 [I v7, I v8, I v9, Sx v10, .lit (List.map aM v11), .lit (List.map aD v12), .lit (List.map aJ v13)])] 3) n _ (zv [(0, 0), (1, 1), (6, 2)] [4, 5, 9] 3) ⟨_, _, _, _, _, _, _, h, rfl⟩ (fun s ⟨v7, v8, v9, v10, v11, v12, v13, h, _⟩ => nomatch h) ?_
 rintro n s ⟨v7, v8, v9, v10, v11, v12, v13, h, rfl⟩
 rw [eO] at h
 refine aK ?_
 refine za [4, 5, 9, 56] ?_
 refine zi h (fun h => ?_) fun h => ?_
 refine aC ?_
 refine aF ?_
 refine zx fun _ => ?_
 refine zk 3 ?_
 obtain ⟨y14, he, h⟩ := aB h
 refine zc Nu (nP n _ _ y14 he) ?_
 clear he
 refine zk 1 ?_
 refine ze [4, 5, 9] ?_
 refine wP [[], [0], [1, 0], [2, 1, 0], [3, 2, 1, 0], [4, 3, 2, 1, 0], [3, 2, 1, 0], [6, 3, 2, 1, 0], [5, 7, 3, 4, 2, 1, 0, 6], [3, 8, 2, 1, 0, 5, 7, 4, 6], [9, 3, 8, 2, 1, 0, 5, 7, 4, 6], [10, 9, 3, 8, 2, 1, 0, 5, 7, 4, 6], [11, 10, 9, 3, 8, 2, 1, 0, 5, 7, 4, 6], [12, 10, 11, 9, 3, 8, 2, 1, 0, 5, 7, 4, 6], [13, 10, 12, 11, 9, 3, 8, 2, 1, 0, 5, 7, 4, 6], [14, 13, 10, 12, 11, 9, 3, 8, 2, 1, 0, 5, 7, 4, 6], [15, 14, 13, 10, 12, 11, 9, 3, 8, 2, 1, 0, 5, 7, 4, 6], [14, 13, 10, 12, 11, 9, 3, 8, 2, 1, 0, 5, 7, 4, 6], [17, 14, 13, 10, 12, 11, 9, 3, 8, 2, 1, 0, 5, 7, 4, 6], [16, 18, 14, 15, 13, 10, 12, 11, 9, 3, 8, 2, 1, 0, 5, 7, 4, 6, 17], [14, 19, 10, 13, 12, 11, 9, 3, 8, 2, 1, 0, 5, 7, 4, 6, 16, 18, 15, 17], [10, 20, 9, 3, 8, 2, 1, 0, 5, 7, 4, 6, 14, 19, 13, 12, 11, 16, 18, 15, 17]] fun _ => ?_
 refine zk 4 ?_
 refine zE (.c (.ptr 0 3)) ?_
 refine zE (.c (I p0.UnderKind)) ?_
 refine zE (.c (.ptr 2 2)) ?_
 refine zE (.c (I y14.Kind)) ?_
 refine zE (.c (Bo (p0.UnderKind == y14.Kind))) ?_
 refine zP (.bool ((p0.UnderKind == 0) || (p0.UnderKind == y14.Kind))) ?_
 refine zk 1 ?_
 refine zE (.c (.ptr 0 4)) ?_
 refine zE (.c (Sx p0.UnderClass)) ?_
 refine zE (.c (Bo (cG p0.UnderClass (⟨#[]⟩ : ByteArray)))) ?_
 refine zF [((p0.UnderKind == 0) || (p0.UnderKind == y14.Kind))] (.c (Bo (cG p0.UnderClass (⟨#[]⟩ : ByteArray)))) ?_
 refine zE (.c (.ptr 0 4)) ?_
 refine zE (.c (Sx p0.UnderClass)) ?_
 refine zE (.agg [I y14.ID, I y14.Parent, I y14.Kind, Sx y14.Key, .lit (List.map aM y14.Attrs), .lit (List.map aD y14.Actions), .lit (List.map aJ y14.Kids)]) ?_
 obtain ⟨y15, he, h⟩ := aB h
 refine Ho [((p0.UnderKind == 0) || (p0.UnderKind == y14.Kind)), (!(cG p0.UnderClass (⟨#[]⟩ : ByteArray)))] Xb (fun hg => uE n _ y15 (bT he hg)) ?_
 clear he
 refine zE (.c (Bo (cG p0.UnderClass y15))) ?_
 refine zP (.bool ((cG p0.UnderClass (⟨#[]⟩ : ByteArray)) || (cG p0.UnderClass y15))) ?_
 refine zP (.bool (((p0.UnderKind == 0) || (p0.UnderKind == y14.Kind)) && ((cG p0.UnderClass (⟨#[]⟩ : ByteArray)) || (cG p0.UnderClass y15)))) ?_
 refine jV [4, 5, 9, 82] (L2 := [(4, .c (.ptr 0 0)), (5, .c (.ptr 1 0)), (9, .c (.ptr 2 0)), (82, .c (Bo (((p0.UnderKind == 0) || (p0.UnderKind == y14.Kind)) && ((cG p0.UnderClass (⟨#[]⟩ : ByteArray)) || (cG p0.UnderClass y15)))))]) (G2 := [(0, .blk 63 [I p0.Kind, Sx p0.Class, I p0.States, I p0.UnderKind, Sx p0.UnderClass, .lit (List.map bK p0.Decls)]), (1, .blk 27 [I p1.Root, I p1.Next, .lit (List.map aE p1.Nodes)]), (2, .blk 58 [I y14.ID, I y14.Parent, I y14.Kind, Sx y14.Key, .lit (List.map aM y14.Attrs), .lit (List.map aD y14.Actions), .lit (List.map aJ y14.Kids)])]) 33 ?_
 refine zi h (fun h => ?_) fun h => ?_
 refine za [8] ?_
 cases h
 exact aG zr
 exact aI (zv [(0, 0), (1, 1), (2, 2)] [4, 5, 9] 3) (aC (⟨_, _, _, _, _, _, _, h, rfl⟩))
 exact aI (zv [] [] 0) (bD (hj4 _ h))
def jA  (n : Nat) (p0 : cC) (p1 : bC) (p2 : (List aU)) (p3 : Int) : Option Bool := (nJ n p1).bind fun (y1 : Int) => (if (y1 != 0) = true then some false else (pG n p1 p2).bind fun (y2 : iN) => (some (gN p3 y2.nodes, jF p3 y2.nodes)).bind fun (y3 : (aR × Bool)) => (gd [y3.2] (kB n y2 p0 p3)).bind fun (y4 : Bool) => some (y3.2 && y4))
theorem rC  (n : Nat) (p0 : cC) (p1 : bC) (p2 : (List aU)) (p3 : Int) (r : Bool) (h : jA n p0 p1 p2 p3 = some r) : cN E 22 0 [.agg [I p0.Kind, Sx p0.Class, I p0.States, I p0.UnderKind, Sx p0.UnderClass, .lit (List.map bK p0.Decls)], .agg [I p1.Root, I p1.Next, .lit (List.map aE p1.Nodes)], .c (.lit (List.map bG p2)), .c (I p3)] [] (.c (Bo r)) [] := by
 refine fW Tryz.func22 rfl ?_
 unfold jA at h
 refine za [2, 3, 4, 5] ?_
 refine aK ?_
 refine zx fun _ => ?_
 refine zk 1 ?_
 obtain ⟨y1, he, h⟩ := aB h
 refine zc Wv (vW n _ y1 he) ?_
 clear he
 refine zk 1 ?_
 refine ze [2, 3, 4, 5, 14] ?_
 refine zi h (fun h => ?_) fun h => ?_
 refine za [8] ?_
 cases h
 exact aG zr
 refine aC ?_
 refine zx fun _ => ?_
 refine zk 2 ?_
 obtain ⟨y2, he, h⟩ := aB h
 refine zc Xm (xC n _ _ y2 he) ?_
 clear he
 refine zk 2 ?_
 refine ze [3, 4, 9] ?_
 refine zx fun _ => ?_
 refine zk 3 ?_
 obtain ⟨y3, he, h⟩ := aB h
 refine zw (v := .tup [.agg [I y3.1.ID, I y3.1.Parent, I y3.1.Kind, Sx y3.1.Key, .lit (List.map aM y3.1.Attrs), .lit (List.map aD y3.1.Actions), .lit (List.map aJ y3.1.Kids)], .c (Bo y3.2)]) [] (cZ (kf := (Value.int .i64)) (enc := aE) (l := y2.nodes) (k := p3) (ok := true) (kk := .int .i64) (j := ⟨.st [(3, 0, 1), (3, 1, 1), (3, 2, 1), (9, 3, 1), (55, 4, 1), (56, 5, 1), (22, 6, 1)], 7, 112, [.int .i64 0, .int .i64 0, .int .i64 0, .string ⟨#[]⟩, .slice none 0 0, .slice none 0 0, .slice none 0 0]⟩) (p := y3) (v := .agg [I y3.1.ID, I y3.1.Parent, I y3.1.Kind, Sx y3.1.Key, .lit (List.map aM y3.1.Attrs), .lit (List.map aD y3.1.Actions), .lit (List.map aJ y3.1.Kids)]) he (by kernel_rfl) gH (by kernel_rfl) (by kernel_rfl) (by kernel_rfl)) ?_
 clear he
 refine zk 6 ?_
 refine jV [3, 4, 9, 11] (L2 := [(3, .c (I p3)), (4, .c (.ptr 0 0)), (9, .c (.ptr 9 0)), (11, .c (Bo y3.2))]) (G2 := [(0, .blk 63 [I p0.Kind, Sx p0.Class, I p0.States, I p0.UnderKind, Sx p0.UnderClass, .lit (List.map bK p0.Decls)]), (1, .blk 27 [I p1.Root, I p1.Next, .lit (List.map aE p1.Nodes)]), (9, .blk 92 [.lmap true (List.map (eM (Value.int .i64) aE) y2.nodes), .lmap false (List.map (eM (Value.int .i64) eS) y2.class_), .lmap false (List.map (eM (Value.int .i64) aJ) y2.states)]), (18, .blk 58 [I y3.1.ID, I y3.1.Parent, I y3.1.Kind, Sx y3.1.Key, .lit (List.map aM y3.1.Attrs), .lit (List.map aD y3.1.Actions), .lit (List.map aJ y3.1.Kids)])]) 21 ?_
 refine zx fun _ => ?_
 refine zk 2 ?_
 refine zE (.agg [.lmap true (List.map (eM (Value.int .i64) aE) y2.nodes), .lmap false (List.map (eM (Value.int .i64) eS) y2.class_), .lmap false (List.map (eM (Value.int .i64) aJ) y2.states)]) ?_
 refine zE (.agg [I p0.Kind, Sx p0.Class, I p0.States, I p0.UnderKind, Sx p0.UnderClass, .lit (List.map bK p0.Decls)]) ?_
 refine zE (.c (I p3)) ?_
 obtain ⟨y4, he, h⟩ := aB h
 refine Ho [y3.2] Wq (fun hg => rY n _ _ _ y4 (bT he hg)) ?_
 clear he
 refine zP (.bool (y3.2 && y4)) ?_
 refine zk 1 ?_
 refine ze [8] ?_
 cases h
 exact aG zr
def iZ  (n : Nat) (p0 : cC) (p1 : bC) (p2 : (List aU)) (p3 : Int) : Option Bool := (nV n p1).bind fun (y1 : Int) => (gd [(y1 == 0)] (iD n p1 p3)).bind fun (y2 : Int) => (gd [((y1 == 0) && (decide (y2 ≥ 0)))] (lP n p0 p1 p2 p3)).bind fun (y3 : Bool) => some (((y1 == 0) && (decide (y2 ≥ 0))) && y3)
theorem rH  (n : Nat) (p0 : cC) (p1 : bC) (p2 : (List aU)) (p3 : Int) (r : Bool) (h : iZ n p0 p1 p2 p3 = some r) : cN E 23 0 [.agg [I p0.Kind, Sx p0.Class, I p0.States, I p0.UnderKind, Sx p0.UnderClass, .lit (List.map bK p0.Decls)], .agg [I p1.Root, I p1.Next, .lit (List.map aE p1.Nodes)], .c (.lit (List.map bG p2)), .c (I p3)] [] (.c (Bo r)) [] := by
 refine fW Tryz.func23 rfl ?_
 unfold iZ at h
 refine za [2, 3, 4, 5] ?_
 refine zx fun _ => ?_
 refine zk 1 ?_
 obtain ⟨y1, he, h⟩ := aB h
 refine zc fok52 (Du n _ y1 he) ?_
 clear he
 refine zk 2 ?_
 refine zE (.agg [I p1.Root, I p1.Next, .lit (List.map aE p1.Nodes)]) ?_
 refine zE (.c (I p3)) ?_
 obtain ⟨y2, he, h⟩ := aB h
 refine Ho [(y1 == 0)] Og (fun hg => nC n _ _ y2 (bT he hg)) ?_
 clear he
 refine zE (.c (Bo (decide (y2 ≥ 0)))) ?_
 refine zP (.bool ((y1 == 0) && (decide (y2 ≥ 0)))) ?_
 refine zk 1 ?_
 refine zE (.agg [I p0.Kind, Sx p0.Class, I p0.States, I p0.UnderKind, Sx p0.UnderClass, .lit (List.map bK p0.Decls)]) ?_
 refine zE (.agg [I p1.Root, I p1.Next, .lit (List.map aE p1.Nodes)]) ?_
 refine zE (.c (.lit (List.map bG p2))) ?_
 refine zE (.c (I p3)) ?_
 obtain ⟨y3, he, h⟩ := aB h
 refine Ho [((y1 == 0) && (decide (y2 ≥ 0)))] fok54 (fun hg => zN n _ _ _ _ y3 (bT he hg)) ?_
 clear he
 refine zP (.bool (((y1 == 0) && (decide (y2 ≥ 0))) && y3)) ?_
 refine zk 1 ?_
 refine jV [8] (L2 := [(8, .c (Bo (((y1 == 0) && (decide (y2 ≥ 0))) && y3)))]) (G2 := [(0, .blk 63 [I p0.Kind, Sx p0.Class, I p0.States, I p0.UnderKind, Sx p0.UnderClass, .lit (List.map bK p0.Decls)]), (1, .blk 27 [I p1.Root, I p1.Next, .lit (List.map aE p1.Nodes)])]) 20 ?_
 cases h
 exact aG zr
end Go.Proofs.YtojkihhnioeggaaGreatDoor.S
