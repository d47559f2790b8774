import Derived.Test.YtojkihhnioeggaaGreatDoorQRGM0
set_option linter.unusedVariables false
set_option linter.unusedSimpArgs false
set_option maxRecDepth 100000
set_option maxHeartbeats 4000000
namespace Go.Proofs.YtojkihhnioeggaaGreatDoor.S
open Go Go.Bm
def lH (y1 : (Int × aK)) (j3 : List Int → List Int → Int → Option (ByteArray × aK)) : Nat → Int → List Int → Int → List Int → Option (ByteArray × aK)
 | 0, _, _, _, _ => none
 | n + 1, v7, v8, v9, v10 => (if (decide (v7 < y1.1)) = true then (cF n (aK.mk v8 v9) 4).bind fun (y11 : (Int × aK)) => (uC v7 (List.length v10)).bind fun (k12 : Nat) => (v10[k12]?).bind fun (e13 : Int) => lH y1 j3 n (IntKind.wrap .i64 (v7 + 1)) y11.2.L y11.2.At (List.set v10 k12 (IntKind.wrap .u8 (IntKind.wrap .i64 (97 + y11.1)))) else j3 v10 v8 v9)
def sS  (n : Nat) (p0 : aK) (p1 : Int) : Option (ByteArray × aK) := (cF n p0 (IntKind.wrap .i64 (p1 + 1))).bind fun (y1 : (Int × aK)) => (mkO 1 y1.1).bind fun (k2 : Nat) => (aR (fun (v18 : List Int) (v19 : List Int) (v20 : Int) => some ((dC v18), (aK.mk v19 v20))) (fun (j3 : List Int → List Int → Int → Option (ByteArray × aK)) => lH y1 j3 n 0 y1.2.L y1.2.At (List.replicate k2 (0 : Int))))
theorem Bg  (n : Nat) (p0 : aK) (p1 : Int) (r : (ByteArray × aK)) (h : sS n p0 p1 = some r) : dJ E 121 1 [C3 0 0, A7 p1] [D5 p0] (E5 r.1) [D5 r.2] := by
 refine gY Tryz.func121 rfl ?_
 unfold sS at h
 refine za [0, 1] ?_
 refine zx fun _ => ?_
 refine zk 3 ?_
 obtain ⟨y1, he, h⟩ := aB h
 refine zo [(0, 0)] cL (bD n _ _ y1 he) ?_
 clear he
 refine zk 1 ?_
 refine ze [0, 5] ?_
 refine zx fun _ => ?_
 refine zk 1 ?_
 obtain ⟨k2, he, h⟩ := aB h
 refine Zq (enc := Tj) (e := 5) (sz := 1) (bytes := 1) (nm := 8) (q := k2) (l := y1.1) (0 : Int) he (by kernel_rfl) (by kernel_rfl) (by kernel_rfl) rfl rfl rfl ?_
 clear he
 refine zk 1 ?_
 refine ze [0, 5, 6] ?_
 refine aV h (fun A j => ∀ v18 v19 v20, j v18 v19 v20 = some r → A (mk [(6, .c (.row 1))] [A0 v19 v20, (1, .vec 5 1 (List.map Tj v18))] 2)) (fun v18 v19 v20 h => ?_) (fun j3 Aj3 hj3 h => ?_)
 refine aJ (vZ 1 (T := 5) (sz := 1) (l := List.map Tj v18) (L2 := [(6, .c (.lit (List.map Tj v18)))]) (G2 := [A0 v19 v20]) (by kernel_rfl) (by kernel_rfl) (by kernel_rfl)) ?_
 refine zx fun _ => ?_
 refine zk 1 ?_
 refine zw (v := .c (Sx (dC v18))) [] (mB (ns := v18) (by kernel_rfl)) ?_
 refine zk 1 ?_
 refine ze [4] ?_
 cases h
 exact aH zr
 refine za [0, 5, 6, 7] ?_
 refine aI ?_
 refine bH (fun n s => ∃ v7 v8 v9 v10, lH y1 j3 n v7 v8 v9 v10 = some r ∧ s = mk [G9, C7 5 y1.1, (6, .c (.row 1)), C7 7 v7] [A0 v8 v9, (1, .vec 5 1 (List.map Tj v10))] 2) n _ (zv [(0, 0), (8, 1)] [0, 5, 6, 7] 2) ⟨_, _, _, _, h, rfl⟩ (fun s ⟨v7, v8, v9, v10, h, _⟩ => nomatch h) ?_
 rintro n s ⟨v7, v8, v9, v10, h, rfl⟩
 rw [lH] at h
 refine aN ?_
 refine za [0, 5, 6, 7, 16] ?_
 refine zi h (fun h => ?_) fun h => ?_
 refine aC ?_
 refine aN ?_
 refine aI ?_
 refine zy fun _ => ?_
 refine zk 3 ?_
 obtain ⟨y11, he, h⟩ := aB h
 refine zo [(0, 0)] cL (bD n _ _ y11 he) ?_
 clear he
 refine zk 2 ?_
 obtain ⟨k12, he, h⟩ := aB h
 refine dR (v := .c (.ptr 1 (k12 * 1))) (foot := [1]) (rC (enc := Tj) (l := v10) (n := 1) (sz := 1) (k := k12) (ix := v7) he (by kernel_rfl)) (by kernel_rfl) rfl rfl ?_
 have hb_k12 := nX he; clear he
 obtain ⟨e13, he, h⟩ := aB h
 refine vW (enc := Tj) (n := 1) (q := k12) (f := 0) (sz := 1) (T0 := 5) (lp := [U8 (G7 y11.1)]) (l := v10) (e := e13) (e2 := (G7 y11.1)) he (by kernel_rfl) (by simp only [List.length_cons, List.length_nil]; omega) (by kernel_rfl) (by kernel_rfl) rfl rfl ?_
 clear he
 refine bY ?_
 refine aY ?_
 refine zb ?_
 exact eU (zv [(0, 0), (1, 1)] [0, 5, 6, 7] 2) (⟨_, _, _, _, h, rfl⟩)
 exact aJ (zv [(0, 0), (1, 1)] [6] 2) (bI (hj3 _ _ _ h))
def rD (p1 : aD) (self_Src_Like : aK → aD → Option (aD × aK)) (j4 : List aD → List Int → Int → Option (aD × aK)) : Nat → Int → List Int → Int → List aD → Option (aD × aK)
 | 0, _, _, _, _ => none
 | n + 1, v18, v19, v20, v21 => (if (decide (v18 < (List.length p1.L : Int))) = true then (aR (fun (v27 : List Int) (v28 : Int) (v29 : List aD) => rD p1 self_Src_Like j4 n (IntKind.wrap .i64 (v18 + 1)) v27 v28 v29) (fun (j22 : List Int → Int → List aD → Option (aD × aK)) => (cF n (aK.mk v19 v20) 3).bind fun (y23 : (Int × aK)) => (if (decide (y23.1 > 0)) = true then (idx p1.L v18).bind fun (e24 : aD) => (self_Src_Like y23.2 e24).bind fun (y25 : (aD × aK)) => (pE 56 v21 [y25.1]).bind fun (l26 : List aD) => j22 y25.2.L y25.2.At l26 else j22 y23.2.L y23.2.At v21))) else j4 v21 v19 v20)
def rJ (self_Src_Like : aK → aD → Option (aD × aK)) (n : Nat) (p0 : aK) (p1 : aD) : Option (aD × aK) := (if (p1.Kind == 1) = true then (mX n p0 (-3 : Int) 9).bind fun (y1 : (Int × aK)) => some ((aD.mk 1 y1.1 (⟨#[]⟩ : ByteArray) ([] : List aD)), y1.2) else (if (p1.Kind == 2) = true then (cF n p0 2).bind fun (y2 : (Int × aK)) => some ((aD.mk 2 y2.1 (⟨#[]⟩ : ByteArray) ([] : List aD)), y2.2) else (if (p1.Kind == 3) = true then (sS n p0 4).bind fun (y3 : (ByteArray × aK)) => some ((aD.mk 3 0 y3.1 ([] : List aD)), y3.2) else (aR (fun (v37 : List aD) (v38 : List Int) (v39 : Int) => some ((aD.mk 4 0 (⟨#[]⟩ : ByteArray) v37), (aK.mk v38 v39))) (fun (j4 : List aD → List Int → Int → Option (aD × aK)) => rD p1 self_Src_Like j4 n 0 p0.L p0.At ([] : List aD))))))
theorem zC (self_Src_Like : aK → aD → Option (aD × aK)) (ih_Src_Like : ∀ (p0 : aK) (p1 : aD) (r : (aD × aK)), self_Src_Like p0 p1 = some r → dJ E 122 1 [C3 0 0, B2 p1] [D5 p0] (B2 r.1) [D5 r.2]) (n : Nat) (p0 : aK) (p1 : aD) (r : (aD × aK)) (h : rJ self_Src_Like n p0 p1 = some r) : dJ E 122 1 [C3 0 0, B2 p1] [D5 p0] (B2 r.1) [D5 r.2] := by
 refine gY Tryz.func122 rfl ?_
 unfold rJ at h
 refine za [0, 3, 4] ?_
 refine aN ?_
 refine za [0, 3, 4, 8] ?_
 refine aI ?_
 refine za [0, 3, 4, 8, 9] ?_
 refine zi h (fun h => ?_) fun h => ?_
 refine zx fun _ => ?_
 refine zk 1 ?_
 obtain ⟨y1, he, h⟩ := aB h
 refine zo [(0, 0)] Rc (pJ n _ _ _ y1 he) ?_
 clear he
 refine zk 2 ?_
 refine ze [4] ?_
 cases h
 exact aH zr
 refine za [0, 3, 4, 8, 14] ?_
 refine zi h (fun h => ?_) fun h => ?_
 refine zx fun _ => ?_
 refine zk 1 ?_
 obtain ⟨y2, he, h⟩ := aB h
 refine zo [(0, 0)] cL (bD n _ _ y2 he) ?_
 clear he
 refine zk 2 ?_
 refine ze [4] ?_
 cases h
 exact aH zr
 refine za [0, 3, 4, 19] ?_
 refine zi h (fun h => ?_) fun h => ?_
 refine zx fun _ => ?_
 refine zk 1 ?_
 obtain ⟨y3, he, h⟩ := aB h
 refine zo [(0, 0)] Va (Bg n _ _ y3 he) ?_
 clear he
 refine zk 2 ?_
 refine ze [4] ?_
 cases h
 exact aH zr
 refine aC ?_
 refine za [0, 3, 4, 5] ?_
 refine aV h (fun A j => ∀ v37 v38 v39, j v37 v38 v39 = some r → A (mk [H4, A2 5 2 0] [A0 v38 v39, (1, .blk 152 [I 0, I 0, Sx (⟨#[]⟩ : ByteArray), cJ]), (2, .blk 152 [I 4, I 0, Sx (⟨#[]⟩ : ByteArray), K6 3 v37]), B7 3 152 4 v37] 4)) (fun v37 v38 v39 h => ?_) (fun j4 Aj4 hj4 h => ?_)
 refine za [4] ?_
 cases h
 exact aH zr
 refine za [0, 3, 4, 5, 6] ?_
 refine aI ?_
 refine bH (fun n s => ∃ v18 v19 v20 v21, rD p1 self_Src_Like j4 n v18 v19 v20 v21 = some r ∧ s = mk [G9, L5, A2 4 2 0, A2 5 3 0, C7 6 v18] [A0 v19 v20, (1, D6 p1), (2, .blk 152 [I 0, I 0, Sx (⟨#[]⟩ : ByteArray), cJ]), (3, .blk 152 [I 4, I 0, Sx (⟨#[]⟩ : ByteArray), K6 4 v21]), B7 4 152 4 v21] 5) n _ (dY.trans (lU (n := 12) (T0 := 152) (l := [I 4, I 0, Sx (⟨#[]⟩ : ByteArray), cJ]) (G2 := [D5 p0, (1, D6 p1), (2, .blk 152 [I 0, I 0, Sx (⟨#[]⟩ : ByteArray), cJ]), (12, .blk 152 [I 4, I 0, Sx (⟨#[]⟩ : ByteArray), .app 15 (List.map aL ([] : List aD))]), (15, .tok 152 4 (List.length ([] : List aD)))]) (lim2 := 16) 3 152 4 (by kernel_rfl) (by kernel_rfl) (by kernel_rfl) (by kernel_rfl)) (zv [(0, 0), (1, 1), (2, 2), (12, 3), (15, 4)] [0, 3, 4, 5, 6] 5)) ⟨_, _, _, _, h, rfl⟩ (fun s ⟨v18, v19, v20, v21, h, _⟩ => nomatch h) ?_
 rintro n s ⟨v18, v19, v20, v21, h, rfl⟩
 rw [rD] at h
 refine aN ?_
 refine zx fun _ => ?_
 refine zk 3 ?_
 refine zl aL p1.L ?_
 refine zk 1 ?_
 refine ze [0, 3, 4, 5, 6, 29] ?_
 refine zi h (fun h => ?_) fun h => ?_
 refine aC ?_
 refine aV h (fun A j => ∀ v27 v28 v29, j v27 v28 v29 = some r → A (mk [G9, L5, A2 4 2 0, A2 5 3 0, C7 6 v18] [A0 v27 v28, (1, D6 p1), (2, .blk 152 [I 0, I 0, Sx (⟨#[]⟩ : ByteArray), cJ]), (3, .blk 152 [I 4, I 0, Sx (⟨#[]⟩ : ByteArray), K6 4 v29]), B7 4 152 4 v29] 5)) (fun v27 v28 v29 h => ?_) (fun j22 Aj22 hj22 h => ?_)
 refine aY ?_
 refine zb ?_
 exact eU (zv [(0, 0), (1, 1), (2, 2), (3, 3), (4, 4)] [0, 3, 4, 5, 6] 5) (⟨_, _, _, _, h, rfl⟩)
 refine aI ?_
 refine zx fun _ => ?_
 refine zk 1 ?_
 obtain ⟨y23, he, h⟩ := aB h
 refine zo [(0, 0)] cL (bD n _ _ y23 he) ?_
 clear he
 refine zk 1 ?_
 refine ze [0, 3, 4, 5, 6, 34] ?_
 refine zi h (fun h => ?_) fun h => ?_
 refine aY ?_
 refine Tm [[], [0], [], [], [3], [], [4, 5, 3], [6, 4, 5, 3], [2, 7, 6, 4, 5, 3], [8, 2, 7, 6, 4, 5, 3], [1, 9, 8, 0, 2, 7, 6, 4, 5, 3], [0, 1, 2, 3, 4, 5, 6, 7, 8, 9, 10], [11, 10, 0, 1, 2, 3, 4, 5, 6, 7, 8, 9]] fun _ => ?_
 refine zk 6 ?_
 obtain ⟨e24, he, h⟩ := aB h
 refine dR (v := .c (I4 e24)) (foot := []) (eG (enc := aL) (sz := 4) (l := p1.L) (ix := v18) he (by kernel_rfl) (dO e24) (by kernel_rfl)) (by kernel_rfl) rfl rfl ?_
 clear he
 refine zk 1 ?_
 obtain ⟨y25, he, h⟩ := aB h
 refine zo [(0, 0)] Xk (ih_Src_Like _ _ y25 he) ?_
 clear he
 refine qZ (e := 152) (sz := 4) (len := 1) (r := [I y25.1.Kind, I y25.1.N, Sx y25.1.S, C2 y25.1.L]) (l' := List.map aL [y25.1]) (nm := 22) (by kernel_rfl) (by simp only [List.map_cons, List.map_nil, dO]; kernel_rfl) (by kernel_rfl) (by kernel_rfl) rfl rfl rfl ?_
 obtain ⟨l26, he, h⟩ := aB h
 refine cE (enc := aL) (l := v21) (els := [y25.1]) (r := l26) (old := some 4) (e := 152) (sz := 4) (bytes := 56) (k := (G8 v21)) (nm := 23) he (by kernel_rfl) (by kernel_rfl) (fun x => by rw [dO]; rfl) (by kernel_rfl) (by kernel_rfl) rfl rfl rfl ?_
 clear he
 refine zk 2 ?_
 refine bY ?_
 exact eU (zv [(0, 0), (1, 1), (2, 2), (3, 3), (23, 4)] [0, 3, 4, 5, 6] 5) (hj22 _ _ _ h)
 exact aJ (zv [(0, 0), (1, 1), (2, 2), (3, 3), (4, 4)] [0, 3, 4, 5, 6] 5) (aC (hj22 _ _ _ h))
 exact aJ (zv [(0, 0), (2, 1), (3, 2), (4, 3)] [4, 5] 4) (bI (hj4 _ _ _ h))
def vB : Nat → aK → aD → Option (aD × aK)
 | 0, _, _ => none
 | n + 1, p0, p1 => rJ (fun a0 a1 => vB n a0 a1) n p0 p1
theorem Nk (n : Nat) : (∀ (p0 : aK) (p1 : aD) (r : (aD × aK)), vB n p0 p1 = some r → dJ E 122 1 [C3 0 0, B2 p1] [D5 p0] (B2 r.1) [D5 r.2]) := by
 induction n with
 | zero => intro p0 p1 r h; rw [vB] at h; cases h
 | succ n ih => intro p0 p1 r h; rw [vB] at h; exact zC _ ih n _ _ r h
def pO (y8 : (Int × aK)) (y9 : (aD × aK)) (j7 : List aD → List Int → Int → Option (aD × aK)) : Nat → Int → List Int → Int → List aD → Option (aD × aK)
 | 0, _, _, _, _ => none
 | n + 1, v13, v14, v15, v16 => (if (decide (v13 < y8.1)) = true then (vB n (aK.mk v14 v15) y9.1).bind fun (y17 : (aD × aK)) => (pE 56 v16 [y17.1]).bind fun (l18 : List aD) => pO y8 y9 j7 n (IntKind.wrap .i64 (v13 + 1)) y17.2.L y17.2.At l18 else j7 v16 v14 v15)
def nH (self_Src_Value : aK → Int → Option (aD × aK)) (n : Nat) (p0 : aK) (p1 : Int) : Option (aD × aK) := (aR (fun (v26 : List Int) (v27 : Int) => (cF n (aK.mk v26 v27) (List.length [0, 1, 2, 3, (-1 : Int), 7, 10, 1099511627776, (-1099511627776 : Int), 1099511627775] : Int)).bind fun (y28 : (Int × aK)) => (idx [0, 1, 2, 3, (-1 : Int), 7, 10, 1099511627776, (-1099511627776 : Int), 1099511627775] y28.1).bind fun (e29 : Int) => some ((aD.mk 1 e29 (⟨#[]⟩ : ByteArray) ([] : List aD)), y28.2)) (fun (j1 : List Int → Int → Option (aD × aK)) => (cF n p0 5).bind fun (y2 : (Int × aK)) => (if (y2.1 == 0) = true then (cF n y2.2 2).bind fun (y3 : (Int × aK)) => some ((aD.mk 2 y3.1 (⟨#[]⟩ : ByteArray) ([] : List aD)), y3.2) else (aR (fun (v5 : Bool) => (if v5 = true then (sS n y2.2 4).bind fun (y6 : (ByteArray × aK)) => some ((aD.mk 3 0 y6.1 ([] : List aD)), y6.2) else (if (y2.1 == 3) = true then (if (decide (p1 > 0)) = true then (aR (fun (v23 : List aD) (v24 : List Int) (v25 : Int) => some ((aD.mk 4 0 (⟨#[]⟩ : ByteArray) v23), (aK.mk v24 v25))) (fun (j7 : List aD → List Int → Int → Option (aD × aK)) => (cF n y2.2 4).bind fun (y8 : (Int × aK)) => (if (decide (y8.1 > 0)) = true then (self_Src_Value y8.2 (IntKind.wrap .i64 (p1 - 1))).bind fun (y9 : (aD × aK)) => (pE 56 ([] : List aD) [y9.1]).bind fun (l10 : List aD) => pO y8 y9 j7 n 1 y9.2.L y9.2.At l10 else j7 ([] : List aD) y8.2.L y8.2.At))) else j1 y2.2.L y2.2.At) else j1 y2.2.L y2.2.At))) (fun (j4 : Bool → Option (aD × aK)) => (if (y2.1 == 1) = true then j4 (y2.1 == 1) else j4 (y2.1 == 2)))))))
theorem yU (self_Src_Value : aK → Int → Option (aD × aK)) (ih_Src_Value : ∀ (p0 : aK) (p1 : Int) (r : (aD × aK)), self_Src_Value p0 p1 = some r → dJ E 97 1 [C3 0 0, A7 p1] [D5 p0] (B2 r.1) [D5 r.2]) (n : Nat) (p0 : aK) (p1 : Int) (r : (aD × aK)) (h : nH self_Src_Value n p0 p1 = some r) : dJ E 97 1 [C3 0 0, A7 p1] [D5 p0] (B2 r.1) [D5 r.2] := by
 refine gY Tryz.func97 rfl ?_
 unfold nH at h
 refine za [0, 1, 4] ?_
 refine aV h (fun A j => ∀ v26 v27, j v26 v27 = some r → A (mk [G9, H4] [A0 v26 v27, (1, .blk 152 [I 0, I 0, Sx (⟨#[]⟩ : ByteArray), cJ])] 2)) (fun v26 v27 h => ?_) (fun j1 Aj1 hj1 h => ?_)
 refine za [0, 4, 9] ?_
 refine zx fun _ => ?_
 refine zk 3 ?_
 refine zl aO [0, 1, 2, 3, (-1 : Int), 7, 10, 1099511627776, (-1099511627776 : Int), 1099511627775] ?_
 obtain ⟨y28, he, h⟩ := aB h
 refine zo [(0, 0)] cL (bD n _ _ y28 he) ?_
 clear he
 obtain ⟨e29, he, h⟩ := aB h
 refine zd aO he ?_
 clear he
 refine zk 3 ?_
 refine ze [4] ?_
 cases h
 exact aH zr
 refine zx fun _ => ?_
 refine zk 1 ?_
 obtain ⟨y2, he, h⟩ := aB h
 refine zo [(0, 0)] cL (bD n _ _ y2 he) ?_
 clear he
 refine ze [0, 1, 4, 11] ?_
 refine aI ?_
 refine za [0, 1, 4, 11, 12] ?_
 refine zi h (fun h => ?_) fun h => ?_
 refine zx fun _ => ?_
 refine zk 1 ?_
 obtain ⟨y3, he, h⟩ := aB h
 refine zo [(0, 0)] cL (bD n _ _ y3 he) ?_
 clear he
 refine zk 2 ?_
 refine ze [4] ?_
 cases h
 exact aH zr
 refine aV h (fun A j => ∀ v5, j v5 = some r → A (mk [G9, C7 1 p1, H4, C7 11 y2.1, (17, B3 v5)] [D5 y2.2, (1, .blk 152 [I 0, I 0, Sx (⟨#[]⟩ : ByteArray), cJ])] 2)) (fun v5 h => ?_) (fun j4 Aj4 hj4 h => ?_)
 refine zi h (fun h => ?_) fun h => ?_
 refine zx fun _ => ?_
 refine zk 1 ?_
 obtain ⟨y6, he, h⟩ := aB h
 refine zo [(0, 0)] Va (Bg n _ _ y6 he) ?_
 clear he
 refine zk 2 ?_
 refine ze [4] ?_
 cases h
 exact aH zr
 refine za [0, 1, 4, 23] ?_
 refine zi h (fun h => ?_) fun h => ?_
 refine za [0, 1, 4, 26] ?_
 refine zi h (fun h => ?_) fun h => ?_
 refine za [0, 1, 4, 5] ?_
 refine aV h (fun A j => ∀ v23 v24 v25, j v23 v24 v25 = some r → A (mk [H4, A2 5 2 0] [A0 v24 v25, (1, .blk 152 [I 0, I 0, Sx (⟨#[]⟩ : ByteArray), cJ]), (2, .blk 152 [I 4, I 0, Sx (⟨#[]⟩ : ByteArray), K6 3 v23]), B7 3 152 4 v23] 4)) (fun v23 v24 v25 h => ?_) (fun j7 Aj7 hj7 h => ?_)
 refine za [4] ?_
 cases h
 exact aH zr
 refine zx fun _ => ?_
 refine zk 1 ?_
 obtain ⟨y8, he, h⟩ := aB h
 refine zo [(0, 0)] cL (bD n _ _ y8 he) ?_
 clear he
 refine zk 1 ?_
 refine ze [0, 1, 4, 5, 6] ?_
 refine za [0, 1, 4, 5, 6, 31] ?_
 refine zi h (fun h => ?_) fun h => ?_
 refine zx fun _ => ?_
 refine zk 3 ?_
 obtain ⟨y9, he, h⟩ := aB h
 refine zo [(0, 0)] aAj (ih_Src_Value _ _ y9 he) ?_
 clear he
 refine zk 2 ?_
 refine mF [0, 4, 5, 6, 7] (L2 := [G9, H4, A2 5 7 0, C7 6 y8.1, A2 7 18 0]) (G2 := [D5 y9.2, (1, .blk 152 [I 0, I 0, Sx (⟨#[]⟩ : ByteArray), cJ]), (7, .blk 152 [I 4, I 0, Sx (⟨#[]⟩ : ByteArray), cJ]), (18, D6 y9.1)]) 20 ?_
 refine zx fun _ => ?_
 refine zk 3 ?_
 refine qZ (e := 152) (sz := 4) (len := 1) (r := [I y9.1.Kind, I y9.1.N, Sx y9.1.S, C2 y9.1.L]) (l' := List.map aL [y9.1]) (nm := 23) (by kernel_rfl) (by simp only [List.map_cons, List.map_nil, dO]; kernel_rfl) (by kernel_rfl) (by kernel_rfl) rfl rfl rfl ?_
 obtain ⟨l10, he, h⟩ := aB h
 refine cE (enc := aL) (l := ([] : List aD)) (els := [y9.1]) (r := l10) (old := none) (e := 152) (sz := 4) (bytes := 56) (k := 0) (nm := 24) he (by kernel_rfl) (by kernel_rfl) (fun x => by rw [dO]; rfl) (by kernel_rfl) (by kernel_rfl) rfl rfl rfl ?_
 clear he
 refine zk 2 ?_
 refine ze [0, 4, 5, 6, 7] ?_
 refine za [0, 4, 5, 6, 7, 8] ?_
 refine aI ?_
 refine bH (fun n s => ∃ v13 v14 v15 v16, pO y8 y9 j7 n v13 v14 v15 v16 = some r ∧ s = mk [G9, H4, A2 5 2 0, C7 6 y8.1, A2 7 3 0, C7 8 v13] [A0 v14 v15, (1, .blk 152 [I 0, I 0, Sx (⟨#[]⟩ : ByteArray), cJ]), (2, .blk 152 [I 4, I 0, Sx (⟨#[]⟩ : ByteArray), K6 4 v16]), (3, D6 y9.1), B7 4 152 4 v16] 5) n _ (zv [(0, 0), (1, 1), (7, 2), (18, 3), (24, 4)] [0, 4, 5, 6, 7, 8] 5) ⟨_, _, _, _, h, rfl⟩ (fun s ⟨v13, v14, v15, v16, h, _⟩ => nomatch h) ?_
 rintro n s ⟨v13, v14, v15, v16, h, rfl⟩
 rw [pO] at h
 refine aN ?_
 refine za [0, 4, 5, 6, 7, 8, 44] ?_
 refine zi h (fun h => ?_) fun h => ?_
 refine aC ?_
 refine aN ?_
 refine aI ?_
 refine Tm [[], [0], [], [], [2, 3], [4, 2, 3], [1, 5, 4, 0, 2, 3], [0, 1, 2, 3, 4, 5, 6], [7, 6, 0, 1, 2, 3, 4, 5]] fun _ => ?_
 refine zk 4 ?_
 obtain ⟨y17, he, h⟩ := aB h
 refine zo [(0, 0)] Xk (Nk n _ _ y17 he) ?_
 clear he
 refine qZ (e := 152) (sz := 4) (len := 1) (r := [I y17.1.Kind, I y17.1.N, Sx y17.1.S, C2 y17.1.L]) (l' := List.map aL [y17.1]) (nm := 13) (by kernel_rfl) (by simp only [List.map_cons, List.map_nil, dO]; kernel_rfl) (by kernel_rfl) (by kernel_rfl) rfl rfl rfl ?_
 obtain ⟨l18, he, h⟩ := aB h
 refine cE (enc := aL) (l := v16) (els := [y17.1]) (r := l18) (old := some 4) (e := 152) (sz := 4) (bytes := 56) (k := (G8 v16)) (nm := 14) he (by kernel_rfl) (by kernel_rfl) (fun x => by rw [dO]; rfl) (by kernel_rfl) (by kernel_rfl) rfl rfl rfl ?_
 clear he
 refine zk 2 ?_
 refine bY ?_
 refine aY ?_
 refine zb ?_
 exact eU (zv [(0, 0), (1, 1), (2, 2), (3, 3), (14, 4)] [0, 4, 5, 6, 7, 8] 5) (⟨_, _, _, _, h, rfl⟩)
 exact aJ (zv [(0, 0), (1, 1), (2, 2), (4, 3)] [4, 5] 4) (bI (hj7 _ _ _ h))
 exact aJ (dY.trans (lU (n := 7) (T0 := 152) (l := [I 4, I 0, Sx (⟨#[]⟩ : ByteArray), cJ]) (G2 := [D5 y8.2, (1, .blk 152 [I 0, I 0, Sx (⟨#[]⟩ : ByteArray), cJ]), (7, .blk 152 [I 4, I 0, Sx (⟨#[]⟩ : ByteArray), .app 14 (List.map aL ([] : List aD))]), (14, .tok 152 4 (List.length ([] : List aD)))]) (lim2 := 15) 3 152 4 (by kernel_rfl) (by kernel_rfl) (by kernel_rfl) (by kernel_rfl)) (zv [(0, 0), (1, 1), (7, 2), (14, 3)] [4, 5] 4)) (aC (hj7 _ _ _ h))
 exact aJ (zv [(0, 0), (1, 1)] [0, 4] 2) (aC (hj1 _ _ h))
 exact aJ (zv [(0, 0), (1, 1)] [0, 4] 2) (aC (hj1 _ _ h))
 refine za [0, 1, 4, 11, 17] ?_
 refine zi h (fun h => ?_) fun h => ?_
 exact aJ (zv [(0, 0), (1, 1)] [0, 1, 4, 11, 17] 2) (aC (hj4 _ h))
 refine aY ?_
 refine zb ?_
 exact eU (zv [(0, 0), (1, 1)] [0, 1, 4, 11, 17] 2) (hj4 _ h)
def nU : Nat → aK → Int → Option (aD × aK)
 | 0, _, _ => none
 | n + 1, p0, p1 => nH (fun a0 a1 => nU n a0 a1) n p0 p1
theorem Ke (n : Nat) : (∀ (p0 : aK) (p1 : Int) (r : (aD × aK)), nU n p0 p1 = some r → dJ E 97 1 [C3 0 0, A7 p1] [D5 p0] (B2 r.1) [D5 r.2]) := by
 induction n with
 | zero => intro p0 p1 r h; rw [nU] at h; cases h
 | succ n ih => intro p0 p1 r h; rw [nU] at h; exact yU _ ih n _ _ r h
def lA (v45 : List aG) (v53 : ByteArray) (j54 : Bool → Option (aG × aK)) (p1 : Int) (y14 : (Int × aK)) (y15 : (Int × aK)) (v42 : Int) (v51 : List Int) (v52 : Int) (v4 : Int) (y5 : ((List aZ) × aK)) (v13 : List cN) (y47 : (aG × aK)) : Nat → Bool → Int → Option (aG × aK)
 | 0, _, _ => none
 | n + 1, v56, v57 => (if (decide (v57 < (List.length v45 : Int))) = true then (gd [(!v56), (!(cS v53 (⟨#[]⟩ : ByteArray)))] (idx v45 v57)).bind fun (e58 : aG) => lA v45 v53 j54 p1 y14 y15 v42 v51 v52 v4 y5 v13 y47 n (v56 || ((!(cS v53 (⟨#[]⟩ : ByteArray))) && (cS e58.Key v53))) (IntKind.wrap .i64 (v57 + 1)) else j54 v56)
def lF (y14 : (Int × aK)) (self_Src_view : aK → Int → Option (aG × aK)) (p1 : Int) (y15 : (Int × aK)) (v4 : Int) (y5 : ((List aZ) × aK)) (v13 : List cN) (j16 : List aG → List Int → Int → Option (aG × aK)) : Nat → Int → List Int → Int → List aG → Option (aG × aK)
 | 0, _, _, _, _ => none
 | n + 1, v42, v43, v44, v45 => (if (decide (v42 < y14.1)) = true then (aR (fun (v63 : List Int) (v64 : Int) (v65 : List aG) => lF y14 self_Src_view p1 y15 v4 y5 v13 j16 n (IntKind.wrap .i64 (v42 + 1)) v63 v64 v65) (fun (j46 : List Int → Int → List aG → Option (aG × aK)) => (self_Src_view (aK.mk v43 v44) (IntKind.wrap .i64 (p1 - 1))).bind fun (y47 : (aG × aK)) => (aR (fun (v51 : List Int) (v52 : Int) (v53 : ByteArray) => (aR (fun (v61 : Bool) => (if (!v61) = true then (pE 96 v45 [(aG.mk y47.1.Kind v53 y47.1.Attrs y47.1.Actions y47.1.Kids)]).bind fun (l62 : List aG) => j46 v51 v52 l62 else j46 v51 v52 v45)) (fun (j54 : Bool → Option (aG × aK)) => lA v45 v53 j54 p1 y14 y15 v42 v51 v52 v4 y5 v13 y47 n false 0))) (fun (j48 : List Int → Int → ByteArray → Option (aG × aK)) => (Yk [(!(y15.1 == 0))] (cF n y47.2 3) ((default : Int), y47.2)).bind fun (y49 : (Int × aK)) => (if ((y15.1 == 0) || (y49.1 == 0)) = true then (cF n y49.2 6).bind fun (y50 : (Int × aK)) => j48 y50.2.L y50.2.At (dC [107, (IntKind.wrap .u8 (IntKind.wrap .i64 (97 + y50.1)))]) else j48 y49.2.L y49.2.At y47.1.Key))))) else j16 v45 v43 v44)
def oB (self_Src_view : aK → Int → Option (aG × aK)) (n : Nat) (p0 : aK) (p1 : Int) : Option (aG × aK) := (cF n p0 (List.length [1, 1, 2, 3, 4, 5, 6, 7, 8, 9, 10, 11, 12, 13] : Int)).bind fun (y1 : (Int × aK)) => (idx [1, 1, 2, 3, 4, 5, 6, 7, 8, 9, 10, 11, 12, 13] y1.1).bind fun (e2 : Int) => (aR (fun (v4 : Int) => (rO n y1.2 v4).bind fun (y5 : ((List aZ) × aK)) => (aR (fun (v11 : List Int) (v12 : Int) (v13 : List cN) => (if (decide (p1 ≤ 0)) = true then some ((aG.mk v4 (⟨#[]⟩ : ByteArray) y5.1 v13 ([] : List aG)), (aK.mk v11 v12)) else (cF n (aK.mk v11 v12) 5).bind fun (y14 : (Int × aK)) => (cF n y14.2 2).bind fun (y15 : (Int × aK)) => (aR (fun (v73 : List aG) (v74 : List Int) (v75 : Int) => some ((aG.mk v4 (⟨#[]⟩ : ByteArray) y5.1 v13 v73), (aK.mk v74 v75))) (fun (j16 : List aG → List Int → Int → Option (aG × aK)) => lF y14 self_Src_view p1 y15 v4 y5 v13 j16 n 0 y15.2.L y15.2.At ([] : List aG))))) (fun (j6 : List Int → Int → List cN → Option (aG × aK)) => (cF n y5.2 3).bind fun (y7 : (Int × aK)) => (if (y7.1 == 0) = true then (nU n y7.2 0).bind fun (y8 : (aD × aK)) => j6 y8.2.L y8.2.At [(cN.mk (⟨#[112, 114, 101, 115, 115]⟩ : ByteArray) (⟨#[47]⟩ : ByteArray) (⟨#[103, 111]⟩ : ByteArray) [y8.1])] else j6 y7.2.L y7.2.At ([] : List cN))))) (fun (j3 : Int → Option (aG × aK)) => (if (decide (p1 > 2)) = true then j3 1 else j3 e2)))
theorem zL (self_Src_view : aK → Int → Option (aG × aK)) (ih_Src_view : ∀ (p0 : aK) (p1 : Int) (r : (aG × aK)), self_Src_view p0 p1 = some r → dJ E 58 1 [C3 0 0, A7 p1] [D5 p0] (A8 r.1) [D5 r.2]) (n : Nat) (p0 : aK) (p1 : Int) (r : (aG × aK)) (h : oB self_Src_view n p0 p1 = some r) : dJ E 58 1 [C3 0 0, A7 p1] [D5 p0] (A8 r.1) [D5 r.2] := by
 refine gY Tryz.func58 rfl ?_
 unfold oB at h
 refine za [0, 1, 4] ?_
 refine za [0, 1, 4, 5] ?_
 refine zx fun _ => ?_
 refine zk 3 ?_
 refine zl aO [1, 1, 2, 3, 4, 5, 6, 7, 8, 9, 10, 11, 12, 13] ?_
 obtain ⟨y1, he, h⟩ := aB h
 refine zo [(0, 0)] cL (bD n _ _ y1 he) ?_
 clear he
 obtain ⟨e2, he, h⟩ := aB h
 refine zd aO he ?_
 clear he
 refine zk 4 ?_
 refine ze [0, 1, 4, 6] ?_
 refine aV h (fun A j => ∀ v4, j v4 = some r → A (mk [G9, C7 1 p1, H4, A2 6 2 0] [D5 y1.2, (1, .blk 70 [I 0, Sx (⟨#[]⟩ : ByteArray), cJ, cJ, cJ]), (2, .blk 70 [I v4, Sx (⟨#[]⟩ : ByteArray), cJ, cJ, cJ])] 3)) (fun v4 h => ?_) (fun j3 Aj3 hj3 h => ?_)
 refine zx fun _ => ?_
 refine zk 3 ?_
 obtain ⟨y5, he, h⟩ := aB h
 refine zo [(0, 0)] fok96 (Iy n _ _ y5 he) ?_
 clear he
 refine zk 2 ?_
 refine ze [0, 1, 4, 6] ?_
 refine aV h (fun A j => ∀ v11 v12 v13, j v11 v12 v13 = some r → A (mk [G9, C7 1 p1, H4, A2 6 2 0] [A0 v11 v12, (1, .blk 70 [I 0, Sx (⟨#[]⟩ : ByteArray), cJ, cJ, cJ]), (2, .blk 70 [I v4, Sx (⟨#[]⟩ : ByteArray), B6 y5.1, K7 3 v13, cJ]), B7 3 159 4 v13] 4)) (fun v11 v12 v13 h => ?_) (fun j6 Aj6 hj6 h => ?_)
 refine aN ?_
 refine za [0, 1, 4, 6, 40] ?_
 refine zi h (fun h => ?_) fun h => ?_
 refine za [4] ?_
 cases h
 exact aH zr
 refine aC ?_
 refine zx fun _ => ?_
 refine zk 1 ?_
 obtain ⟨y14, he, h⟩ := aB h
 refine zo [(0, 0)] cL (bD n _ _ y14 he) ?_
 clear he
 refine zk 1 ?_
 refine ze [0, 1, 4, 6, 7] ?_
 refine zx fun _ => ?_
 refine zk 1 ?_
 obtain ⟨y15, he, h⟩ := aB h
 refine zo [(0, 0)] cL (bD n _ _ y15 he) ?_
 clear he
 refine zk 2 ?_
 refine ze [0, 1, 4, 6, 7, 8] ?_
 refine aV h (fun A j => ∀ v73 v74 v75, j v73 v74 v75 = some r → A (mk [H4, A2 6 2 0] [A0 v74 v75, (1, .blk 70 [I 0, Sx (⟨#[]⟩ : ByteArray), cJ, cJ, cJ]), (2, .blk 70 [I v4, Sx (⟨#[]⟩ : ByteArray), B6 y5.1, K7 3 v13, J6 4 v73]), B7 3 159 4 v13, B7 4 70 5 v73] 5)) (fun v73 v74 v75 h => ?_) (fun j16 Aj16 hj16 h => ?_)
 refine za [4] ?_
 cases h
 exact aH zr
 refine za [0, 1, 4, 6, 7, 8, 9] ?_
 refine aI ?_
 refine bH (fun n s => ∃ v42 v43 v44 v45, lF y14 self_Src_view p1 y15 v4 y5 v13 j16 n v42 v43 v44 v45 = some r ∧ s = mk [G9, C7 1 p1, H4, A2 6 2 0, C7 7 y14.1, (8, B3 (y15.1 == 0)), C7 9 v42] [A0 v43 v44, (1, .blk 70 [I 0, Sx (⟨#[]⟩ : ByteArray), cJ, cJ, cJ]), (2, .blk 70 [I v4, Sx (⟨#[]⟩ : ByteArray), B6 y5.1, K7 3 v13, J6 4 v45]), B7 3 159 4 v13, B7 4 70 5 v45] 5) n _ (dY.trans (lU (n := 2) (T0 := 70) (l := [I v4, Sx (⟨#[]⟩ : ByteArray), B6 y5.1, K7 3 v13, cJ]) (G2 := [D5 y15.2, (1, .blk 70 [I 0, Sx (⟨#[]⟩ : ByteArray), cJ, cJ, cJ]), (2, .blk 70 [I v4, Sx (⟨#[]⟩ : ByteArray), B6 y5.1, K7 3 v13, .app 14 (List.map bB ([] : List aG))]), B7 3 159 4 v13, (14, .tok 70 5 (List.length ([] : List aG)))]) (lim2 := 15) 4 70 5 (by kernel_rfl) (by kernel_rfl) (by kernel_rfl) (by kernel_rfl)) (zv [(0, 0), (1, 1), (2, 2), (3, 3), (14, 4)] [0, 1, 4, 6, 7, 8, 9] 5)) ⟨_, _, _, _, h, rfl⟩ (fun s ⟨v42, v43, v44, v45, h, _⟩ => nomatch h) ?_
 rintro n s ⟨v42, v43, v44, v45, h, rfl⟩
 rw [lF] at h
 refine aN ?_
 refine za [0, 1, 4, 6, 7, 8, 9, 49] ?_
 refine zi h (fun h => ?_) fun h => ?_
 refine aC ?_
 refine aV h (fun A j => ∀ v63 v64 v65, j v63 v64 v65 = some r → A (mk [G9, C7 1 p1, H4, A2 6 2 0, C7 7 y14.1, (8, B3 (y15.1 == 0)), C7 9 v42] [A0 v63 v64, (1, .blk 70 [I 0, Sx (⟨#[]⟩ : ByteArray), cJ, cJ, cJ]), (2, .blk 70 [I v4, Sx (⟨#[]⟩ : ByteArray), B6 y5.1, K7 3 v13, J6 4 v65]), B7 3 159 4 v13, B7 4 70 5 v65] 5)) (fun v63 v64 v65 h => ?_) (fun j46 Aj46 hj46 h => ?_)
 refine aY ?_
 refine zb ?_
 exact eU (zv [(0, 0), (1, 1), (2, 2), (3, 3), (4, 4)] [0, 1, 4, 6, 7, 8, 9] 5) (⟨_, _, _, _, h, rfl⟩)
 refine aI ?_
 refine zx fun _ => ?_
 refine zk 3 ?_
 obtain ⟨y47, he, h⟩ := aB h
 refine zo [(0, 0)] fok58 (ih_Src_view _ _ y47 he) ?_
 clear he
 refine zk 2 ?_
 refine ze [0, 1, 4, 6, 7, 8, 9, 10] ?_
 refine aV h (fun A j => ∀ v51 v52 v53, j v51 v52 v53 = some r → A (mk [G9, C7 1 p1, H4, A2 6 2 0, C7 7 y14.1, (8, B3 (y15.1 == 0)), C7 9 v42, A2 10 3 0] [A0 v51 v52, (1, .blk 70 [I 0, Sx (⟨#[]⟩ : ByteArray), cJ, cJ, cJ]), (2, .blk 70 [I v4, Sx (⟨#[]⟩ : ByteArray), B6 y5.1, K7 4 v13, J6 5 v45]), (3, .blk 70 [I y47.1.Kind, Sx v53, B6 y47.1.Attrs, C0 y47.1.Actions, G3 y47.1.Kids]), B7 4 159 4 v13, B7 5 70 5 v45] 6)) (fun v51 v52 v53 h => ?_) (fun j48 Aj48 hj48 h => ?_)
 refine za [0, 1, 4, 6, 7, 8, 9, 10, 11] ?_
 refine aV h (fun A j => ∀ v61, j v61 = some r → A (mk [G9, C7 1 p1, H4, A2 6 2 0, C7 7 y14.1, (8, B3 (y15.1 == 0)), C7 9 v42, A2 10 3 0, (11, B3 v61)] [A0 v51 v52, (1, .blk 70 [I 0, Sx (⟨#[]⟩ : ByteArray), cJ, cJ, cJ]), (2, .blk 70 [I v4, Sx (⟨#[]⟩ : ByteArray), B6 y5.1, K7 4 v13, J6 5 v45]), (3, .blk 70 [I y47.1.Kind, Sx v53, B6 y47.1.Attrs, C0 y47.1.Actions, G3 y47.1.Kids]), B7 4 159 4 v13, B7 5 70 5 v45] 6)) (fun v61 h => ?_) (fun j54 Aj54 hj54 h => ?_)
 refine za [0, 1, 4, 6, 7, 8, 9, 10, 94] ?_
 refine zi h (fun h => ?_) fun h => ?_
 refine aY ?_
 refine zy fun _ => ?_
 refine zk 3 ?_
 refine qZ (e := 70) (sz := 5) (len := 1) (r := [I y47.1.Kind, Sx v53, B6 y47.1.Attrs, C0 y47.1.Actions, G3 y47.1.Kids]) (l' := List.map bB [aG.mk y47.1.Kind v53 y47.1.Attrs y47.1.Actions y47.1.Kids]) (nm := 11) (by kernel_rfl) (by simp only [List.map_cons, List.map_nil, gW]; kernel_rfl) (by kernel_rfl) (by kernel_rfl) rfl rfl rfl ?_
 obtain ⟨l62, he, h⟩ := aB h
 refine cE (enc := bB) (l := v45) (els := [aG.mk y47.1.Kind v53 y47.1.Attrs y47.1.Actions y47.1.Kids]) (r := l62) (old := some 5) (e := 70) (sz := 5) (bytes := 96) (k := (G8 v45)) (nm := 12) he (by kernel_rfl) (by kernel_rfl) (fun x => by rw [gW]; rfl) (by kernel_rfl) (by kernel_rfl) rfl rfl rfl ?_
 clear he
 refine zk 2 ?_
 refine bY ?_
 exact eU (zv [(0, 0), (1, 1), (2, 2), (4, 3), (12, 4)] [0, 1, 4, 6, 7, 8, 9] 5) (hj46 _ _ _ h)
 exact aJ (zv [(0, 0), (1, 1), (2, 2), (4, 3), (5, 4)] [0, 1, 4, 6, 7, 8, 9] 5) (aC (hj46 _ _ _ h))
 refine za [0, 1, 4, 6, 7, 8, 9, 10, 11, 12] ?_
 refine aI ?_
 refine bH (fun n s => ∃ v56 v57, lA v45 v53 j54 p1 y14 y15 v42 v51 v52 v4 y5 v13 y47 n v56 v57 = some r ∧ s = mk [G9, C7 1 p1, H4, A2 6 2 0, C7 7 y14.1, (8, B3 (y15.1 == 0)), C7 9 v42, A2 10 3 0, (11, B3 v56), C7 12 v57] [A0 v51 v52, (1, .blk 70 [I 0, Sx (⟨#[]⟩ : ByteArray), cJ, cJ, cJ]), (2, .blk 70 [I v4, Sx (⟨#[]⟩ : ByteArray), B6 y5.1, K7 4 v13, J6 5 v45]), (3, .blk 70 [I y47.1.Kind, Sx v53, B6 y47.1.Attrs, C0 y47.1.Actions, G3 y47.1.Kids]), B7 4 159 4 v13, B7 5 70 5 v45] 6) n _ (zv [(0, 0), (1, 1), (2, 2), (3, 3), (4, 4), (5, 5)] [0, 1, 4, 6, 7, 8, 9, 10, 11, 12] 6) ⟨_, _, h, rfl⟩ (fun s ⟨v56, v57, h, _⟩ => nomatch h) ?_
 rintro n s ⟨v56, v57, h, rfl⟩
 rw [lA] at h
 refine aN ?_
 refine zx fun _ => ?_
 refine zk 3 ?_
 refine zl bB v45 ?_
 refine zk 1 ?_
 refine ze [0, 1, 4, 6, 7, 8, 9, 10, 11, 12, 73] ?_
 refine zi h (fun h => ?_) fun h => ?_
 refine aC ?_
 refine aN ?_
 refine aI ?_
 refine Tm [[], [0], [1, 0], [2, 1, 0], [3, 1, 2, 0], [4, 1, 3, 2, 0], [5, 4, 1, 3, 2, 0], [6, 5, 4, 1, 3, 2, 0], [5, 4, 1, 3, 2, 0], [7, 8, 5, 6, 4, 1, 3, 2, 0], [9, 5, 7, 8, 6, 4, 1, 3, 2, 0], [10, 5, 9, 7, 8, 6, 4, 1, 3, 2, 0], [5, 4, 1, 3, 2, 0], [12, 5, 4, 1, 3, 2, 0], [11, 13, 5, 10, 9, 7, 8, 6, 4, 1, 3, 2, 0, 12], [5, 14, 1, 4, 3, 2, 0, 11, 13, 10, 9, 7, 8, 6, 12], [1, 15, 0, 5, 14, 4, 3, 2, 11, 13, 10, 9, 7, 8, 6, 12], [16, 5, 0, 1, 2, 3, 4, 6, 7, 8, 9, 10, 11, 12, 13, 14, 15]] fun _ => ?_
 refine zk 2 ?_
 refine zE (C3 3 1) ?_
 refine zE (E5 v53) ?_
 refine zE (.c (Bo (!(cS v53 (⟨#[]⟩ : ByteArray))))) ?_
 refine zF [!v56] (.c (Bo (!(cS v53 (⟨#[]⟩ : ByteArray))))) ?_
 refine zE (C3 2 4) ?_
 refine zE (.c (J6 5 v45)) ?_
 refine zE (A7 v57) ?_
 obtain ⟨e58, he, h⟩ := aB h
 refine kR (e := [!v56, (!(cS v53 (⟨#[]⟩ : ByteArray)))]) [(83, .c (J6 5 v45), some 2), (84, A7 v57, some 2)] (v := .c (D8 e58)) (foot := []) (by kernel_rfl) (by kernel_rfl) (by kernel_rfl) (fun hg => eG (enc := bB) (sz := 5) (l := v45) (ix := v57) (cM he hg) (by kernel_rfl) (gW e58) (by kernel_rfl)) rfl rfl ?_
 clear he
 refine zE (.c (.imm [Sx e58.Key, B6 e58.Attrs, C0 e58.Actions, G3 e58.Kids])) ?_
 refine zE (E5 e58.Key) ?_
 refine zE (C3 3 1) ?_
 refine zE (E5 v53) ?_
 refine zE (B3 (cS e58.Key v53)) ?_
 refine zP (.bool ((!(cS v53 (⟨#[]⟩ : ByteArray))) && (cS e58.Key v53))) ?_
 refine zP (.bool (v56 || ((!(cS v53 (⟨#[]⟩ : ByteArray))) && (cS e58.Key v53)))) ?_
 refine zk 1 ?_
 refine bY ?_
 refine aY ?_
 refine zb ?_
 exact eU (zv [(0, 0), (1, 1), (2, 2), (3, 3), (4, 4), (5, 5)] [0, 1, 4, 6, 7, 8, 9, 10, 11, 12] 6) (⟨_, _, h, rfl⟩)
 exact aJ (zv [(0, 0), (1, 1), (2, 2), (3, 3), (4, 4), (5, 5)] [0, 1, 4, 6, 7, 8, 9, 10, 11] 6) (bI (hj54 _ h))
 refine zx fun _ => ?_
 refine zk 2 ?_
 refine zE (C3 0 0) ?_
 obtain ⟨y49, he, h⟩ := aB h
 refine Am (e := [!(y15.1 == 0)]) [(58, C3 0 0, some 1)] (F := 15) (As := [C3 0 0, .c (I 3)]) (Bs := [C3 0 0, .c (I 3)]) (σ := [(0, 0)]) (k := 1) (Gc := [D5 y47.2]) (Gf := [D5 y49.2]) (r := .c (I y49.1)) (v := .c (I y49.1)) (by kernel_rfl) (by kernel_rfl) (by kernel_rfl) (by kernel_rfl) (by kernel_rfl) (by kernel_rfl) cL ⟨.inr ⟨(by kernel_rfl), (by kernel_rfl)⟩, ⟨.inl (by kernel_rfl), trivial⟩⟩ (fun hg => bD n _ _ y49 (Wi he hg)) (by kernel_rfl) (by kernel_rfl) (by kernel_rfl) (fun hg => by rw [Uz he hg]; kernel_rfl) (by kernel_rfl) rfl rfl rfl ?_
 clear he
 refine zE (B3 (y49.1 == 0)) ?_
 refine zP (.bool ((y15.1 == 0) || (y49.1 == 0))) ?_
 refine ze [0, 1, 4, 6, 7, 8, 9, 10, 61] ?_
 refine zi h (fun h => ?_) fun h => ?_
 refine aY ?_
 refine zy fun _ => ?_
 refine zk 1 ?_
 obtain ⟨y50, he, h⟩ := aB h
 refine zo [(0, 0)] cL (bD n _ _ y50 he) ?_
 clear he
 refine zk 3 ?_
 refine zw (v := .c (Sx (dC [107, G7 y50.1]))) [] (mB (ns := [107, G7 y50.1]) (by kernel_rfl)) ?_
 refine zk 2 ?_
 refine bY ?_
 exact eU (zv [(0, 0), (1, 1), (2, 2), (12, 3), (3, 4), (4, 5)] [0, 1, 4, 6, 7, 8, 9, 10] 6) (hj48 _ _ _ h)
 exact aJ (zv [(0, 0), (1, 1), (2, 2), (12, 3), (3, 4), (4, 5)] [0, 1, 4, 6, 7, 8, 9, 10] 6) (aC (hj48 _ _ _ h))
 exact aJ (zv [(0, 0), (1, 1), (2, 2), (3, 3), (4, 4)] [4, 6] 5) (bI (hj16 _ _ _ h))
 refine zx fun _ => ?_
 refine zk 1 ?_
 obtain ⟨y7, he, h⟩ := aB h
 refine zo [(0, 0)] cL (bD n _ _ y7 he) ?_
 clear he
 refine zk 1 ?_
 refine ze [0, 1, 4, 6, 32] ?_
 refine zi h (fun h => ?_) fun h => ?_
 refine aY ?_
 refine zy fun _ => ?_
 refine zk 1 ?_
 obtain ⟨y8, he, h⟩ := aB h
 refine zo [(0, 0)] aAj (Ke n _ _ y8 he) ?_
 clear he
 refine qZ (e := 152) (sz := 4) (len := 1) (r := [I y8.1.Kind, I y8.1.N, Sx y8.1.S, C2 y8.1.L]) (l' := List.map aL [y8.1]) (nm := 14) (by kernel_rfl) (by simp only [List.map_cons, List.map_nil, dO]; kernel_rfl) (by kernel_rfl) (by kernel_rfl) rfl rfl rfl ?_
 refine zk 4 ?_
 refine bY ?_
 exact eU (zv [(0, 0), (1, 1), (2, 2), (16, 3)] [0, 1, 4, 6] 4) (hj6 _ _ _ h)
 exact aJ (dY.trans (lU (n := 2) (T0 := 70) (l := [I v4, Sx (⟨#[]⟩ : ByteArray), B6 y5.1, cJ, cJ]) (G2 := [D5 y7.2, (1, .blk 70 [I 0, Sx (⟨#[]⟩ : ByteArray), cJ, cJ, cJ]), (2, .blk 70 [I v4, Sx (⟨#[]⟩ : ByteArray), B6 y5.1, .app 12 (List.map aF ([] : List cN)), cJ]), (12, .tok 159 4 (List.length ([] : List cN)))]) (lim2 := 13) 3 159 4 (by kernel_rfl) (by kernel_rfl) (by kernel_rfl) (by kernel_rfl)) (zv [(0, 0), (1, 1), (2, 2), (12, 3)] [0, 1, 4, 6] 4)) (aC (hj6 _ _ _ h))
 refine za [0, 1, 4, 6, 23] ?_
 refine zi h (fun h => ?_) fun h => ?_
 refine aY ?_
 refine zb ?_
 exact eU (zv [(0, 0), (1, 1), (12, 2)] [0, 1, 4, 6] 3) (hj3 _ h)
 exact aJ (zv [(0, 0), (1, 1), (12, 2)] [0, 1, 4, 6] 3) (aC (hj3 _ h))
def oS : Nat → aK → Int → Option (aG × aK)
 | 0, _, _ => none
 | n + 1, p0, p1 => oB (fun a0 a1 => oS n a0 a1) n p0 p1
theorem Lq (n : Nat) : (∀ (p0 : aK) (p1 : Int) (r : (aG × aK)), oS n p0 p1 = some r → dJ E 58 1 [C3 0 0, A7 p1] [D5 p0] (A8 r.1) [D5 r.2]) := by
 induction n with
 | zero => intro p0 p1 r h; rw [oS] at h; cases h
 | succ n ih => intro p0 p1 r h; rw [oS] at h; exact zL _ ih n _ _ r h
def pR (p0 : ByteArray) (j1 : Unit → Option Bool) : Nat → Int → Option Bool
 | 0, _ => none
 | n + 1, v3 => (if (decide (v3 < (ByteArray.size p0 : Int))) = true then (xE p0 v3).bind fun (u4 : Int) => (if ((((((decide (u4 < 97)) || (decide (u4 > 122))) && ((decide (u4 < 65)) || (decide (u4 > 90)))) && ((decide (u4 < 48)) || (decide (u4 > 57)))) && (u4 != 45)) && (u4 != 95)) = true then some false else pR p0 j1 n (IntKind.wrap .i64 (v3 + 1))) else j1 ())
def zG  (n : Nat) (p0 : ByteArray) : Option Bool := (aR (fun (_ : Unit) => some (decide ((ByteArray.size p0 : Int) ≤ 24))) (fun (j1 : Unit → Option Bool) => pR p0 j1 n 0))
theorem Kd  (n : Nat) (p0 : ByteArray) (r : Bool) (h : zG n p0 = some r) : dJ E 134 0 [E5 p0] [] (B3 r) [] := by
 refine gY Tryz.func134 rfl ?_
 unfold zG at h
 refine za [0] ?_
 refine aV h (fun A j => ∀ u, j u = some r → A (mk [(0, E5 p0)] [] 0)) (fun u h => ?_) (fun j1 Aj1 hj1 h => ?_)
 refine za [2] ?_
 cases h
 exact aH zr
 refine za [0, 3] ?_
 refine aI ?_
 refine bH (fun n s => ∃ v3, pR p0 j1 n v3 = some r ∧ s = mk [(0, E5 p0), C7 3 v3] [] 0) n _ (zv [] [0, 3] 0) ⟨_, h, rfl⟩ (fun s ⟨v3, h, _⟩ => nomatch h) ?_
 rintro n s ⟨v3, h, rfl⟩
 rw [pR] at h
 refine aN ?_
 refine za [0, 3, 8] ?_
 refine zi h (fun h => ?_) fun h => ?_
 refine aC ?_
 refine aN ?_
 refine aI ?_
 refine zx fun _ => ?_
 refine zk 2 ?_
 obtain ⟨u4, he, h⟩ := aB h
 refine zs he ?_
 clear he
 refine zk 1 ?_
 refine ze [0, 3, 4] ?_
 refine zx fun _ => ?_
 refine zk 3 ?_
 refine zE (H6 u4) ?_
 refine zE (K3 u4 122) ?_
 refine zP (.bool (F3 u4)) ?_
 refine zk 1 ?_
 refine zE (H6 u4) ?_
 refine zE (I6 u4 65) ?_
 refine zF [F3 u4] (I6 u4 65) ?_
 refine zE (H6 u4) ?_
 refine zE (K3 u4 90) ?_
 refine zP (.bool (I0 u4)) ?_
 refine zP (.bool ((F3 u4) && (I0 u4))) ?_
 refine zk 1 ?_
 refine zE (H6 u4) ?_
 refine zE (I6 u4 48) ?_
 refine zF [(F3 u4) && (I0 u4)] (I6 u4 48) ?_
 refine zE (H6 u4) ?_
 refine zE (K3 u4 57) ?_
 refine zP (.bool (K4 u4)) ?_
 refine zP (.bool (((F3 u4) && (I0 u4)) && (K4 u4))) ?_
 refine zke 1 (L' := [(0, E5 p0), C7 3 v3, (4, H6 u4), (14, H6 u4), (15, I6 u4 97), (16, I6 u4 97), (17, .cnd [!(D3 u4 97)] (H6 u4)), (18, .cnd [!(D3 u4 97)] (K3 u4 122)), (19, B3 (F3 u4)), (20, B3 (F3 u4)), (21, .cnd [F3 u4] (H6 u4)), (22, .cnd [F3 u4] (I6 u4 65)), (23, .cnd [F3 u4] (I6 u4 65)), (24, .cnd [F3 u4, !(D3 u4 65)] (H6 u4)), (25, .cnd [F3 u4, !(D3 u4 65)] (K3 u4 90)), (26, .cnd [F3 u4] (B3 (I0 u4))), (27, B3 ((F3 u4) && (I0 u4))), (28, B3 ((F3 u4) && (I0 u4))), (29, .cnd [(F3 u4) && (I0 u4)] (H6 u4)), (30, .cnd [(F3 u4) && (I0 u4)] (I6 u4 48)), (31, .cnd [(F3 u4) && (I0 u4)] (I6 u4 48)), (32, .cnd [(F3 u4) && (I0 u4), !(D3 u4 48)] (H6 u4)), (33, .cnd [(F3 u4) && (I0 u4), !(D3 u4 48)] (K3 u4 57)), (34, .cnd [(F3 u4) && (I0 u4)] (B3 (K4 u4))), (35, B3 (((F3 u4) && (I0 u4)) && (K4 u4))), (36, B3 (((F3 u4) && (I0 u4)) && (K4 u4)))]) (G' := []) (X' := []) ?_
 refine zE (H6 u4) ?_
 refine zE (B3 (u4 != 45)) ?_
 refine zP (.bool ((((F3 u4) && (I0 u4)) && (K4 u4)) && (u4 != 45))) ?_
 refine zk 1 ?_
 refine zE (H6 u4) ?_
 refine zE (B3 (u4 != 95)) ?_
 refine zP (.bool (((((F3 u4) && (I0 u4)) && (K4 u4)) && (u4 != 45)) && (u4 != 95))) ?_
 refine ze [0, 3, 43] ?_
 refine zi h (fun h => ?_) fun h => ?_
 refine za [2] ?_
 cases h
 exact aH zr
 refine aC ?_
 refine aY ?_
 refine zb ?_
 exact eU (zv [] [0, 3] 0) (⟨_, h, rfl⟩)
 exact aJ (zv [] [0] 0) (bI (hj1 _ h))
def wC  (n : Nat) (p0 : ByteArray) : Option Bool := (zG n p0).bind fun (y1 : Bool) => some y1
theorem Jp  (n : Nat) (p0 : ByteArray) (r : Bool) (h : wC n p0 = some r) : dJ E 123 0 [E5 p0] [] (B3 r) [] := by
 refine gY Tryz.func123 rfl ?_
 unfold wC at h
 refine za [0] ?_
 refine zx fun _ => ?_
 refine zk 1 ?_
 obtain ⟨y1, he, h⟩ := aB h
 refine zc fok134 (Kd n _ y1 he) ?_
 clear he
 refine zk 1 ?_
 refine ze [2] ?_
 cases h
 exact aH zr
def lT  (n : Nat) (p0 : Int) : Option Bool := some (((decide (p0 ≥ 97)) && (decide (p0 ≤ 122))) || ((decide (p0 ≥ 65)) && (decide (p0 ≤ 90))))
theorem tT  (n : Nat) (p0 : Int) (r : Bool) (h : lT n p0 = some r) : dJ E 127 0 [H6 p0] [] (B3 r) [] := by
 refine gY Tryz.func127 rfl ?_
 unfold lT at h
 refine za [0] ?_
 refine zx fun _ => ?_
 refine zk 3 ?_
 refine zE (H6 p0) ?_
 refine zE (B3 (H8 p0 122)) ?_
 refine zP (.bool (C9 p0 97 122)) ?_
 refine zk 1 ?_
 refine zE (H6 p0) ?_
 refine zE (B3 (H9 p0 65)) ?_
 refine zF [!(C9 p0 97 122)] (B3 (H9 p0 65)) ?_
 refine zE (H6 p0) ?_
 refine zE (B3 (H8 p0 90)) ?_
 refine zP (.bool (C9 p0 65 90)) ?_
 refine zP (.bool ((C9 p0 97 122) || (C9 p0 65 90))) ?_
 refine zk 1 ?_
 refine mF [2] (L2 := [(2, B3 ((C9 p0 97 122) || (C9 p0 65 90)))]) (G2 := []) 16 ?_
 cases h
 exact aH zr
def gB (p0 : ByteArray) (j3 : Unit → Option Bool) : Nat → Int → Option Bool
 | 0, _ => none
 | n + 1, v10 => (if (decide (v10 < (ByteArray.size p0 : Int))) = true then (xE p0 v10).bind fun (u11 : Int) => (lT n u11).bind fun (y12 : Bool) => (gd [(!y12)] (xE p0 v10)).bind fun (u13 : Int) => (gd [(!y12), (!(decide (u13 < 48)))] (xE p0 v10)).bind fun (u14 : Int) => (gd [((!y12) && ((decide (u13 < 48)) || (decide (u14 > 57))))] (xE p0 v10)).bind fun (u15 : Int) => (gd [(((!y12) && ((decide (u13 < 48)) || (decide (u14 > 57)))) && (u15 != 45))] (xE p0 v10)).bind fun (u16 : Int) => (if ((((!y12) && ((decide (u13 < 48)) || (decide (u14 > 57)))) && (u15 != 45)) && (u16 != 95)) = true then some false else gB p0 j3 n (IntKind.wrap .i64 (v10 + 1))) else j3 ())
def dM  (n : Nat) (p0 : ByteArray) : Option Bool := (gd [(!((decide ((ByteArray.size p0 : Int) < 1)) || (decide ((ByteArray.size p0 : Int) > 24))))] (xE p0 0)).bind fun (u1 : Int) => (gd [(!((decide ((ByteArray.size p0 : Int) < 1)) || (decide ((ByteArray.size p0 : Int) > 24))))] (lT n u1)).bind fun (y2 : Bool) => (if (((decide ((ByteArray.size p0 : Int) < 1)) || (decide ((ByteArray.size p0 : Int) > 24))) || (!y2)) = true then some false else (aR (fun (_ : Unit) => some true) (fun (j3 : Unit → Option Bool) => gB p0 j3 n 1)))
theorem rM  (n : Nat) (p0 : ByteArray) (r : Bool) (h : dM n p0 = some r) : dJ E 108 0 [E5 p0] [] (B3 r) [] := by
 refine gY Tryz.func108 rfl ?_
 unfold dM at h
 refine za [0] ?_
 refine aN ?_
 refine zx fun _ => ?_
 refine zk 4 ?_
 refine zE (E5 p0) ?_
 refine zE (.c (I (ByteArray.size p0 : Int))) ?_
 refine zE (.c (Bo (decide ((ByteArray.size p0 : Int) > 24)))) ?_
 refine zP (.bool ((decide ((ByteArray.size p0 : Int) < 1)) || (decide ((ByteArray.size p0 : Int) > 24)))) ?_
 refine zk 1 ?_
 refine zE (E5 p0) ?_
 obtain ⟨u1, he, h⟩ := aB h
 refine kR (e := [(!((decide ((ByteArray.size p0 : Int) < 1)) || (decide ((ByteArray.size p0 : Int) > 24))))]) [(13, E5 p0, some 1)] (v := .c (U8 u1)) (foot := []) (by kernel_rfl) (by kernel_rfl) (by kernel_rfl) (fun hg => wA (s := p0) (ix := 0) (cM he hg) (by kernel_rfl)) rfl rfl ?_
 clear he
 obtain ⟨y2, he, h⟩ := aB h
 refine Ry [(!((decide ((ByteArray.size p0 : Int) < 1)) || (decide ((ByteArray.size p0 : Int) > 24))))] Um (fun hg => tT n _ y2 (cM he hg)) ?_
 clear he
 refine zE (B3 (!y2)) ?_
 refine zP (.bool (((decide ((ByteArray.size p0 : Int) < 1)) || (decide ((ByteArray.size p0 : Int) > 24))) || (!y2))) ?_
 refine mF [0, 17] (L2 := [(0, E5 p0), (17, .c (Bo (((decide ((ByteArray.size p0 : Int) < 1)) || (decide ((ByteArray.size p0 : Int) > 24))) || (!y2))))]) (G2 := []) 15 ?_
 refine zi h (fun h => ?_) fun h => ?_
 refine za [2] ?_
 cases h
 exact aH zr
 refine aC ?_
 refine aV h (fun A j => ∀ u, j u = some r → A (mk [] [] 0)) (fun u h => ?_) (fun j3 Aj3 hj3 h => ?_)
 refine za [2] ?_
 cases h
 exact aH zr
 refine za [0, 3] ?_
 refine aI ?_
 refine bH (fun n s => ∃ v10, gB p0 j3 n v10 = some r ∧ s = mk [(0, E5 p0), C7 3 v10] [] 0) n _ (zv [] [0, 3] 0) ⟨_, h, rfl⟩ (fun s ⟨v10, h, _⟩ => nomatch h) ?_
 rintro n s ⟨v10, h, rfl⟩
 rw [gB] at h
 refine aN ?_
 refine za [0, 3, 21] ?_
 refine zi h (fun h => ?_) fun h => ?_
 refine aC ?_
 refine aN ?_
 refine aI ?_
 refine zx fun _ => ?_
 refine zk 2 ?_
 obtain ⟨u11, he, h⟩ := aB h
 refine zs he ?_
 clear he
 obtain ⟨y12, he, h⟩ := aB h
 refine zc Um (tT n _ y12 he) ?_
 clear he
 refine zk 2 ?_
 refine zE (E5 p0) ?_
 refine zE (A7 v10) ?_
 obtain ⟨u13, he, h⟩ := aB h
 refine kR (e := [!y12]) [(30, E5 p0, some 1), (31, A7 v10, some 1)] (v := .c (U8 u13)) (foot := []) (by kernel_rfl) (by kernel_rfl) (by kernel_rfl) (fun hg => wA (s := p0) (ix := v10) (cM he hg) (by kernel_rfl)) rfl rfl ?_
 clear he
 refine zE (I6 u13 48) ?_
 refine zF [!y12] (I6 u13 48) ?_
 refine zE (E5 p0) ?_
 refine zE (A7 v10) ?_
 obtain ⟨u14, he, h⟩ := aB h
 refine kR (e := [!y12, !(D3 u13 48)]) [(35, E5 p0, some 2), (36, A7 v10, some 2)] (v := .c (U8 u14)) (foot := []) (by kernel_rfl) (by kernel_rfl) (by kernel_rfl) (fun hg => wA (s := p0) (ix := v10) (cM he hg) (by kernel_rfl)) rfl rfl ?_
 clear he
 refine zE (K3 u14 57) ?_
 refine zP (.bool ((D3 u13 48) || (D7 u14 57))) ?_
 refine zP (.bool ((!y12) && ((D3 u13 48) || (D7 u14 57)))) ?_
 refine zk 1 ?_
 refine zE (E5 p0) ?_
 refine zE (A7 v10) ?_
 obtain ⟨u15, he, h⟩ := aB h
 refine kR (e := [(!y12) && ((D3 u13 48) || (D7 u14 57))]) [(42, E5 p0, some 1), (43, A7 v10, some 1)] (v := .c (U8 u15)) (foot := []) (by kernel_rfl) (by kernel_rfl) (by kernel_rfl) (fun hg => wA (s := p0) (ix := v10) (cM he hg) (by kernel_rfl)) rfl rfl ?_
 clear he
 refine zE (B3 (u15 != 45)) ?_
 refine zP (.bool (((!y12) && ((D3 u13 48) || (D7 u14 57))) && (u15 != 45))) ?_
 refine zke 1 (L' := [(0, E5 p0), C7 3 v10, (21, .c (Bo (decide (v10 < (ByteArray.size p0 : Int))))), (24, E5 p0), C7 25 v10, (26, H6 u11), (27, B3 y12), (28, B3 (!y12)), (29, B3 (!y12)), (30, .cnd [!y12] (E5 p0)), (31, .cnd [!y12] (A7 v10)), (32, .cnd [!y12] (H6 u13)), (33, .cnd [!y12] (I6 u13 48)), (34, .cnd [!y12] (I6 u13 48)), (35, .cnd [!y12, !(D3 u13 48)] (E5 p0)), (36, .cnd [!y12, !(D3 u13 48)] (A7 v10)), (37, .cnd [!y12, !(D3 u13 48)] (H6 u14)), (38, .cnd [!y12, !(D3 u13 48)] (K3 u14 57)), (39, .cnd [!y12] (B3 ((D3 u13 48) || (D7 u14 57)))), (40, B3 ((!y12) && ((D3 u13 48) || (D7 u14 57)))), (41, B3 ((!y12) && ((D3 u13 48) || (D7 u14 57)))), (42, .cnd [(!y12) && ((D3 u13 48) || (D7 u14 57))] (E5 p0)), (43, .cnd [(!y12) && ((D3 u13 48) || (D7 u14 57))] (A7 v10)), (44, .cnd [(!y12) && ((D3 u13 48) || (D7 u14 57))] (H6 u15)), (45, .cnd [(!y12) && ((D3 u13 48) || (D7 u14 57))] (B3 (u15 != 45))), (46, B3 (((!y12) && ((D3 u13 48) || (D7 u14 57))) && (u15 != 45))), (47, B3 (((!y12) && ((D3 u13 48) || (D7 u14 57))) && (u15 != 45)))]) (G' := []) (X' := []) ?_
 refine zE (E5 p0) ?_
 refine zE (A7 v10) ?_
 obtain ⟨u16, he, h⟩ := aB h
 refine kR (e := [((!y12) && ((D3 u13 48) || (D7 u14 57))) && (u15 != 45)]) [(48, E5 p0, some 1), (49, A7 v10, some 1)] (v := .c (U8 u16)) (foot := []) (by kernel_rfl) (by kernel_rfl) (by kernel_rfl) (fun hg => wA (s := p0) (ix := v10) (cM he hg) (by kernel_rfl)) rfl rfl ?_
 clear he
 refine zE (B3 (u16 != 95)) ?_
 refine zP (.bool ((((!y12) && ((D3 u13 48) || (D7 u14 57))) && (u15 != 45)) && (u16 != 95))) ?_
 refine ze [0, 3, 52] ?_
 refine zi h (fun h => ?_) fun h => ?_
 refine za [2] ?_
 cases h
 exact aH zr
 refine aC ?_
 refine aY ?_
 refine zb ?_
 exact eU (zv [] [0, 3] 0) (⟨_, h, rfl⟩)
 exact aJ (zv [] [] 0) (bI (hj3 _ h))
def pZ  (n : Nat) (p0 : ByteArray) : Option Bool := (zJ p0).bind fun (l1 : List Int) => some (cS (runesBytes l1) p0)
theorem Gg  (n : Nat) (p0 : ByteArray) (r : Bool) (h : pZ n p0 = some r) : dJ E 145 0 [E5 p0] [] (B3 r) [] := by
 refine gY Tryz.func145 rfl ?_
 unfold pZ at h
 refine za [0] ?_
 refine zx fun _ => ?_
 refine zk 1 ?_
 obtain ⟨l1, he, h⟩ := aB h
 refine rx_O (v := .c (.lit (List.map nR l1))) (foot := []) (Ia (s := p0) he (by kernel_rfl)) (by kernel_rfl) rfl rfl ?_
 clear he
 refine zw (v := .c (Sx (runesBytes l1))) [] (rL (ns := l1) (by kernel_rfl)) ?_
 refine zk 3 ?_
 refine ze [2] ?_
 cases h
 exact aH zr
end Go.Proofs.YtojkihhnioeggaaGreatDoor.S
