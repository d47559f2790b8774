import Derived.Test.YtojkihhnioeggaaGreatDoorQUGM0
set_option linter.unusedVariables false
set_option linter.unusedSimpArgs false
set_option maxRecDepth 100000
set_option maxHeartbeats 4000000
namespace Go.Proofs.YtojkihhnioeggaaGreatDoor.S
open Go Go.Bm
def lK (y1 : (Int × aN)) (j3 : List Int → List Int → Int → Option (ByteArray × aN)) : Nat → Int → List Int → Int → List Int → Option (ByteArray × aN)
 | 0, _, _, _, _ => none
 | n + 1, v7, v8, v9, v10 => (if (decide (v7 < y1.1)) = true then (cN n (aN.mk v8 v9) 4).bind fun (y11 : (Int × aN)) => (uQ v7 (List.length v10)).bind fun (k12 : Nat) => (v10[k12]?).bind fun (e13 : Int) => lK y1 j3 n (IntKind.wrap .i64 (v7 + 1)) y11.2.L y11.2.At (List.set v10 k12 (IntKind.wrap .u8 (IntKind.wrap .i64 (97 + y11.1)))) else j3 v10 v8 v9)
def tC  (n : Nat) (p0 : aN) (p1 : Int) : Option (ByteArray × aN) := (cN n p0 (IntKind.wrap .i64 (p1 + 1))).bind fun (y1 : (Int × aN)) => (mkO 1 y1.1).bind fun (k2 : Nat) => (aS (fun (v18 : List Int) (v19 : List Int) (v20 : Int) => some ((dG v18), (aN.mk v19 v20))) (fun (j3 : List Int → List Int → Int → Option (ByteArray × aN)) => lK y1 j3 n 0 y1.2.L y1.2.At (List.replicate k2 (0 : Int))))
theorem Cb  (n : Nat) (p0 : aN) (p1 : Int) (r : (ByteArray × aN)) (h : tC n p0 p1 = some r) : dI E 121 1 [A1 0 0, A6 p1] [E0 p0] (F1 r.1) [E0 r.2] := by
 refine gT Tryz.func121 rfl ?_
 unfold tC at h
 refine za [0, 1] ?_
 refine zx fun _ => ?_
 refine zk 3 ?_
 obtain ⟨y1, he, h⟩ := aB h
 refine zo [(0, 0)] cS (bG n _ _ y1 he) ?_
 clear he
 refine zk 1 ?_
 refine ze [0, 5] ?_
 refine zx fun _ => ?_
 refine zk 1 ?_
 obtain ⟨k2, he, h⟩ := aB h
 refine aAl (enc := Ul) (e := 5) (sz := 1) (bytes := 1) (nm := 8) (q := k2) (l := y1.1) (0 : Int) he (by kernel_rfl) (by kernel_rfl) (by kernel_rfl) rfl rfl rfl ?_
 clear he
 refine zk 1 ?_
 refine ze [0, 5, 6] ?_
 refine aX h (fun A j => ∀ v18 v19 v20, j v18 v19 v20 = some r → A (mk [(6, .c (.row 1))] [A2 v19 v20, (1, .vec 5 1 (List.map Ul v18))] 2)) (fun v18 v19 v20 h => ?_) (fun j3 Aj3 hj3 h => ?_)
 refine aL (wN 1 (T := 5) (sz := 1) (l := List.map Ul v18) (L2 := [(6, .c (.lit (List.map Ul v18)))]) (G2 := [A2 v19 v20]) (by kernel_rfl) (by kernel_rfl) (by kernel_rfl)) ?_
 refine zx fun _ => ?_
 refine zk 1 ?_
 refine zw (v := .c (Sx (dG v18))) [] (mG (ns := v18) (by kernel_rfl)) ?_
 refine zk 1 ?_
 refine ze [4] ?_
 cases h
 exact aI zr
 refine za [0, 5, 6, 7] ?_
 refine aK ?_
 refine bJ (fun n s => ∃ v7 v8 v9 v10, lK y1 j3 n v7 v8 v9 v10 = some r ∧ s = mk [H7, C6 5 y1.1, (6, .c (.row 1)), C6 7 v7] [A2 v8 v9, (1, .vec 5 1 (List.map Ul v10))] 2) n _ (zv [(0, 0), (8, 1)] [0, 5, 6, 7] 2) ⟨_, _, _, _, h, rfl⟩ (fun s ⟨v7, v8, v9, v10, h, _⟩ => nomatch h) ?_
 rintro n s ⟨v7, v8, v9, v10, h, rfl⟩
 rw [lK] at h
 refine aO ?_
 refine za [0, 5, 6, 7, 16] ?_
 refine zi h (fun h => ?_) fun h => ?_
 refine aC ?_
 refine aO ?_
 refine aK ?_
 refine zy fun _ => ?_
 refine zk 3 ?_
 obtain ⟨y11, he, h⟩ := aB h
 refine zo [(0, 0)] cS (bG n _ _ y11 he) ?_
 clear he
 refine zk 2 ?_
 obtain ⟨k12, he, h⟩ := aB h
 refine dT (v := .c (.ptr 1 (k12 * 1))) (foot := [1]) (rJ (enc := Ul) (l := v10) (n := 1) (sz := 1) (k := k12) (ix := v7) he (by kernel_rfl)) (by kernel_rfl) rfl rfl ?_
 have hb_k12 := oH he; clear he
 obtain ⟨e13, he, h⟩ := aB h
 refine wJ (enc := Ul) (n := 1) (q := k12) (f := 0) (sz := 1) (T0 := 5) (lp := [U8 (H5 y11.1)]) (l := v10) (e := e13) (e2 := (H5 y11.1)) he (by kernel_rfl) (by simp only [List.length_cons, List.length_nil]; omega) (by kernel_rfl) (by kernel_rfl) rfl rfl ?_
 clear he
 refine cF ?_
 refine bB ?_
 refine zb ?_
 exact eZ (zv [(0, 0), (1, 1)] [0, 5, 6, 7] 2) (⟨_, _, _, _, h, rfl⟩)
 exact aL (zv [(0, 0), (1, 1)] [6] 2) (bK (hj3 _ _ _ h))
def rK (p1 : aF) (self_Src_Like : aN → aF → Option (aF × aN)) (j4 : List aF → List Int → Int → Option (aF × aN)) : Nat → Int → List Int → Int → List aF → Option (aF × aN)
 | 0, _, _, _, _ => none
 | n + 1, v18, v19, v20, v21 => (if (decide (v18 < (List.length p1.L : Int))) = true then (aS (fun (v27 : List Int) (v28 : Int) (v29 : List aF) => rK p1 self_Src_Like j4 n (IntKind.wrap .i64 (v18 + 1)) v27 v28 v29) (fun (j22 : List Int → Int → List aF → Option (aF × aN)) => (cN n (aN.mk v19 v20) 3).bind fun (y23 : (Int × aN)) => (if (decide (y23.1 > 0)) = true then (idx p1.L v18).bind fun (e24 : aF) => (self_Src_Like y23.2 e24).bind fun (y25 : (aF × aN)) => (pD 56 v21 [y25.1]).bind fun (l26 : List aF) => j22 y25.2.L y25.2.At l26 else j22 y23.2.L y23.2.At v21))) else j4 v21 v19 v20)
def rQ (self_Src_Like : aN → aF → Option (aF × aN)) (n : Nat) (p0 : aN) (p1 : aF) : Option (aF × aN) := (if (p1.Kind == 1) = true then (nB n p0 (-3 : Int) 9).bind fun (y1 : (Int × aN)) => some ((aF.mk 1 y1.1 (⟨#[]⟩ : ByteArray) ([] : List aF)), y1.2) else (if (p1.Kind == 2) = true then (cN n p0 2).bind fun (y2 : (Int × aN)) => some ((aF.mk 2 y2.1 (⟨#[]⟩ : ByteArray) ([] : List aF)), y2.2) else (if (p1.Kind == 3) = true then (tC n p0 4).bind fun (y3 : (ByteArray × aN)) => some ((aF.mk 3 0 y3.1 ([] : List aF)), y3.2) else (aS (fun (v37 : List aF) (v38 : List Int) (v39 : Int) => some ((aF.mk 4 0 (⟨#[]⟩ : ByteArray) v37), (aN.mk v38 v39))) (fun (j4 : List aF → List Int → Int → Option (aF × aN)) => rK p1 self_Src_Like j4 n 0 p0.L p0.At ([] : List aF))))))
theorem zX (self_Src_Like : aN → aF → Option (aF × aN)) (ih_Src_Like : ∀ (p0 : aN) (p1 : aF) (r : (aF × aN)), self_Src_Like p0 p1 = some r → dI E 122 1 [A1 0 0, B5 p1] [E0 p0] (B5 r.1) [E0 r.2]) (n : Nat) (p0 : aN) (p1 : aF) (r : (aF × aN)) (h : rQ self_Src_Like n p0 p1 = some r) : dI E 122 1 [A1 0 0, B5 p1] [E0 p0] (B5 r.1) [E0 r.2] := by
 refine gT Tryz.func122 rfl ?_
 unfold rQ at h
 refine za [0, 3, 4] ?_
 refine aO ?_
 refine za [0, 3, 4, 8] ?_
 refine aK ?_
 refine za [0, 3, 4, 8, 9] ?_
 refine zi h (fun h => ?_) fun h => ?_
 refine zx fun _ => ?_
 refine zk 1 ?_
 obtain ⟨y1, he, h⟩ := aB h
 refine zo [(0, 0)] Se (pP n _ _ _ y1 he) ?_
 clear he
 refine zk 2 ?_
 refine ze [4] ?_
 cases h
 exact aI zr
 refine za [0, 3, 4, 8, 14] ?_
 refine zi h (fun h => ?_) fun h => ?_
 refine zx fun _ => ?_
 refine zk 1 ?_
 obtain ⟨y2, he, h⟩ := aB h
 refine zo [(0, 0)] cS (bG n _ _ y2 he) ?_
 clear he
 refine zk 2 ?_
 refine ze [4] ?_
 cases h
 exact aI zr
 refine za [0, 3, 4, 19] ?_
 refine zi h (fun h => ?_) fun h => ?_
 refine zx fun _ => ?_
 refine zk 1 ?_
 obtain ⟨y3, he, h⟩ := aB h
 refine zo [(0, 0)] Vz (Cb n _ _ y3 he) ?_
 clear he
 refine zk 2 ?_
 refine ze [4] ?_
 cases h
 exact aI zr
 refine aC ?_
 refine za [0, 3, 4, 5] ?_
 refine aX h (fun A j => ∀ v37 v38 v39, j v37 v38 v39 = some r → A (mk [I3, C0 5 2 0] [A2 v38 v39, (1, .blk 152 [I 0, I 0, Sx (⟨#[]⟩ : ByteArray), cQ]), (2, .blk 152 [I 4, I 0, Sx (⟨#[]⟩ : ByteArray), M0 3 v37]), B7 3 152 4 v37] 4)) (fun v37 v38 v39 h => ?_) (fun j4 Aj4 hj4 h => ?_)
 refine za [4] ?_
 cases h
 exact aI zr
 refine za [0, 3, 4, 5, 6] ?_
 refine aK ?_
 refine bJ (fun n s => ∃ v18 v19 v20 v21, rK p1 self_Src_Like j4 n v18 v19 v20 v21 = some r ∧ s = mk [H7, M9, C0 4 2 0, C0 5 3 0, C6 6 v18] [A2 v19 v20, (1, E1 p1), (2, .blk 152 [I 0, I 0, Sx (⟨#[]⟩ : ByteArray), cQ]), (3, .blk 152 [I 4, I 0, Sx (⟨#[]⟩ : ByteArray), M0 4 v21]), B7 4 152 4 v21] 5) n _ (eA.trans (lX (n := 12) (T0 := 152) (l := [I 4, I 0, Sx (⟨#[]⟩ : ByteArray), cQ]) (G2 := [E0 p0, (1, E1 p1), (2, .blk 152 [I 0, I 0, Sx (⟨#[]⟩ : ByteArray), cQ]), (12, .blk 152 [I 4, I 0, Sx (⟨#[]⟩ : ByteArray), .app 15 (List.map aQ ([] : List aF))]), (15, .tok 152 4 (List.length ([] : List aF)))]) (lim2 := 16) 3 152 4 (by kernel_rfl) (by kernel_rfl) (by kernel_rfl) (by kernel_rfl)) (zv [(0, 0), (1, 1), (2, 2), (12, 3), (15, 4)] [0, 3, 4, 5, 6] 5)) ⟨_, _, _, _, h, rfl⟩ (fun s ⟨v18, v19, v20, v21, h, _⟩ => nomatch h) ?_
 rintro n s ⟨v18, v19, v20, v21, h, rfl⟩
 rw [rK] at h
 refine aO ?_
 refine zx fun _ => ?_
 refine zk 3 ?_
 refine zl aQ p1.L ?_
 refine zk 1 ?_
 refine ze [0, 3, 4, 5, 6, 29] ?_
 refine zi h (fun h => ?_) fun h => ?_
 refine aC ?_
 refine aX h (fun A j => ∀ v27 v28 v29, j v27 v28 v29 = some r → A (mk [H7, M9, C0 4 2 0, C0 5 3 0, C6 6 v18] [A2 v27 v28, (1, E1 p1), (2, .blk 152 [I 0, I 0, Sx (⟨#[]⟩ : ByteArray), cQ]), (3, .blk 152 [I 4, I 0, Sx (⟨#[]⟩ : ByteArray), M0 4 v29]), B7 4 152 4 v29] 5)) (fun v27 v28 v29 h => ?_) (fun j22 Aj22 hj22 h => ?_)
 refine bB ?_
 refine zb ?_
 exact eZ (zv [(0, 0), (1, 1), (2, 2), (3, 3), (4, 4)] [0, 3, 4, 5, 6] 5) (⟨_, _, _, _, h, rfl⟩)
 refine aK ?_
 refine zx fun _ => ?_
 refine zk 1 ?_
 obtain ⟨y23, he, h⟩ := aB h
 refine zo [(0, 0)] cS (bG n _ _ y23 he) ?_
 clear he
 refine zk 1 ?_
 refine ze [0, 3, 4, 5, 6, 34] ?_
 refine zi h (fun h => ?_) fun h => ?_
 refine bB ?_
 refine Uo [[], [0], [], [], [3], [], [4, 5, 3], [6, 4, 5, 3], [2, 7, 6, 4, 5, 3], [8, 2, 7, 6, 4, 5, 3], [1, 9, 8, 0, 2, 7, 6, 4, 5, 3], [0, 1, 2, 3, 4, 5, 6, 7, 8, 9, 10], [11, 10, 0, 1, 2, 3, 4, 5, 6, 7, 8, 9]] fun _ => ?_
 refine zk 6 ?_
 obtain ⟨e24, he, h⟩ := aB h
 refine dT (v := .c (J2 e24)) (foot := []) (eK (enc := aQ) (sz := 4) (l := p1.L) (ix := v18) he (by kernel_rfl) (dR e24) (by kernel_rfl)) (by kernel_rfl) rfl rfl ?_
 clear he
 refine zk 1 ?_
 obtain ⟨y25, he, h⟩ := aB h
 refine zo [(0, 0)] Yl (ih_Src_Like _ _ y25 he) ?_
 clear he
 refine rG (e := 152) (sz := 4) (len := 1) (r := [I y25.1.Kind, I y25.1.N, Sx y25.1.S, C5 y25.1.L]) (l' := List.map aQ [y25.1]) (nm := 22) (by kernel_rfl) (by simp only [List.map_cons, List.map_nil, dR]; kernel_rfl) (by kernel_rfl) (by kernel_rfl) rfl rfl rfl ?_
 obtain ⟨l26, he, h⟩ := aB h
 refine cH (enc := aQ) (l := v21) (els := [y25.1]) (r := l26) (old := some 4) (e := 152) (sz := 4) (bytes := 56) (k := (H4 v21)) (nm := 23) he (by kernel_rfl) (by kernel_rfl) (fun x => by rw [dR]; rfl) (by kernel_rfl) (by kernel_rfl) rfl rfl rfl ?_
 clear he
 refine zk 2 ?_
 refine cF ?_
 exact eZ (zv [(0, 0), (1, 1), (2, 2), (3, 3), (23, 4)] [0, 3, 4, 5, 6] 5) (hj22 _ _ _ h)
 exact aL (zv [(0, 0), (1, 1), (2, 2), (3, 3), (4, 4)] [0, 3, 4, 5, 6] 5) (aC (hj22 _ _ _ h))
 exact aL (zv [(0, 0), (2, 1), (3, 2), (4, 3)] [4, 5] 4) (bK (hj4 _ _ _ h))
def vO : Nat → aN → aF → Option (aF × aN)
 | 0, _, _ => none
 | n + 1, p0, p1 => rQ (fun a0 a1 => vO n a0 a1) n p0 p1
theorem Og (n : Nat) : (∀ (p0 : aN) (p1 : aF) (r : (aF × aN)), vO n p0 p1 = some r → dI E 122 1 [A1 0 0, B5 p1] [E0 p0] (B5 r.1) [E0 r.2]) := by
 induction n with
 | zero => intro p0 p1 r h; rw [vO] at h; cases h
 | succ n ih => intro p0 p1 r h; rw [vO] at h; exact zX _ ih n _ _ r h
def pU (y8 : (Int × aN)) (y9 : (aF × aN)) (j7 : List aF → List Int → Int → Option (aF × aN)) : Nat → Int → List Int → Int → List aF → Option (aF × aN)
 | 0, _, _, _, _ => none
 | n + 1, v13, v14, v15, v16 => (if (decide (v13 < y8.1)) = true then (vO n (aN.mk v14 v15) y9.1).bind fun (y17 : (aF × aN)) => (pD 56 v16 [y17.1]).bind fun (l18 : List aF) => pU y8 y9 j7 n (IntKind.wrap .i64 (v13 + 1)) y17.2.L y17.2.At l18 else j7 v16 v14 v15)
def nM (self_Src_Value : aN → Int → Option (aF × aN)) (n : Nat) (p0 : aN) (p1 : Int) : Option (aF × aN) := (aS (fun (v26 : List Int) (v27 : Int) => (cN n (aN.mk v26 v27) (List.length [0, 1, 2, 3, (-1 : Int), 7, 10, 1099511627776, (-1099511627776 : Int), 1099511627775] : Int)).bind fun (y28 : (Int × aN)) => (idx [0, 1, 2, 3, (-1 : Int), 7, 10, 1099511627776, (-1099511627776 : Int), 1099511627775] y28.1).bind fun (e29 : Int) => some ((aF.mk 1 e29 (⟨#[]⟩ : ByteArray) ([] : List aF)), y28.2)) (fun (j1 : List Int → Int → Option (aF × aN)) => (cN n p0 5).bind fun (y2 : (Int × aN)) => (if (y2.1 == 0) = true then (cN n y2.2 2).bind fun (y3 : (Int × aN)) => some ((aF.mk 2 y3.1 (⟨#[]⟩ : ByteArray) ([] : List aF)), y3.2) else (aS (fun (v5 : Bool) => (if v5 = true then (tC n y2.2 4).bind fun (y6 : (ByteArray × aN)) => some ((aF.mk 3 0 y6.1 ([] : List aF)), y6.2) else (if (y2.1 == 3) = true then (if (decide (p1 > 0)) = true then (aS (fun (v23 : List aF) (v24 : List Int) (v25 : Int) => some ((aF.mk 4 0 (⟨#[]⟩ : ByteArray) v23), (aN.mk v24 v25))) (fun (j7 : List aF → List Int → Int → Option (aF × aN)) => (cN n y2.2 4).bind fun (y8 : (Int × aN)) => (if (decide (y8.1 > 0)) = true then (self_Src_Value y8.2 (IntKind.wrap .i64 (p1 - 1))).bind fun (y9 : (aF × aN)) => (pD 56 ([] : List aF) [y9.1]).bind fun (l10 : List aF) => pU y8 y9 j7 n 1 y9.2.L y9.2.At l10 else j7 ([] : List aF) y8.2.L y8.2.At))) else j1 y2.2.L y2.2.At) else j1 y2.2.L y2.2.At))) (fun (j4 : Bool → Option (aF × aN)) => (if (y2.1 == 1) = true then j4 (y2.1 == 1) else j4 (y2.1 == 2)))))))
theorem zR (self_Src_Value : aN → Int → Option (aF × aN)) (ih_Src_Value : ∀ (p0 : aN) (p1 : Int) (r : (aF × aN)), self_Src_Value p0 p1 = some r → dI E 97 1 [A1 0 0, A6 p1] [E0 p0] (B5 r.1) [E0 r.2]) (n : Nat) (p0 : aN) (p1 : Int) (r : (aF × aN)) (h : nM self_Src_Value n p0 p1 = some r) : dI E 97 1 [A1 0 0, A6 p1] [E0 p0] (B5 r.1) [E0 r.2] := by
 refine gT Tryz.func97 rfl ?_
 unfold nM at h
 refine za [0, 1, 4] ?_
 refine aX h (fun A j => ∀ v26 v27, j v26 v27 = some r → A (mk [H7, I3] [A2 v26 v27, (1, .blk 152 [I 0, I 0, Sx (⟨#[]⟩ : ByteArray), cQ])] 2)) (fun v26 v27 h => ?_) (fun j1 Aj1 hj1 h => ?_)
 refine za [0, 4, 9] ?_
 refine zx fun _ => ?_
 refine zk 3 ?_
 refine zl aH [0, 1, 2, 3, (-1 : Int), 7, 10, 1099511627776, (-1099511627776 : Int), 1099511627775] ?_
 obtain ⟨y28, he, h⟩ := aB h
 refine zo [(0, 0)] cS (bG n _ _ y28 he) ?_
 clear he
 obtain ⟨e29, he, h⟩ := aB h
 refine zd aH he ?_
 clear he
 refine zk 3 ?_
 refine ze [4] ?_
 cases h
 exact aI zr
 refine zx fun _ => ?_
 refine zk 1 ?_
 obtain ⟨y2, he, h⟩ := aB h
 refine zo [(0, 0)] cS (bG n _ _ y2 he) ?_
 clear he
 refine ze [0, 1, 4, 11] ?_
 refine aK ?_
 refine za [0, 1, 4, 11, 12] ?_
 refine zi h (fun h => ?_) fun h => ?_
 refine zx fun _ => ?_
 refine zk 1 ?_
 obtain ⟨y3, he, h⟩ := aB h
 refine zo [(0, 0)] cS (bG n _ _ y3 he) ?_
 clear he
 refine zk 2 ?_
 refine ze [4] ?_
 cases h
 exact aI zr
 refine aX h (fun A j => ∀ v5, j v5 = some r → A (mk [H7, C6 1 p1, I3, C6 11 y2.1, K2 17 v5] [E0 y2.2, (1, .blk 152 [I 0, I 0, Sx (⟨#[]⟩ : ByteArray), cQ])] 2)) (fun v5 h => ?_) (fun j4 Aj4 hj4 h => ?_)
 refine zi h (fun h => ?_) fun h => ?_
 refine zx fun _ => ?_
 refine zk 1 ?_
 obtain ⟨y6, he, h⟩ := aB h
 refine zo [(0, 0)] Vz (Cb n _ _ y6 he) ?_
 clear he
 refine zk 2 ?_
 refine ze [4] ?_
 cases h
 exact aI zr
 refine za [0, 1, 4, 23] ?_
 refine zi h (fun h => ?_) fun h => ?_
 refine za [0, 1, 4, 26] ?_
 refine zi h (fun h => ?_) fun h => ?_
 refine za [0, 1, 4, 5] ?_
 refine aX h (fun A j => ∀ v23 v24 v25, j v23 v24 v25 = some r → A (mk [I3, C0 5 2 0] [A2 v24 v25, (1, .blk 152 [I 0, I 0, Sx (⟨#[]⟩ : ByteArray), cQ]), (2, .blk 152 [I 4, I 0, Sx (⟨#[]⟩ : ByteArray), M0 3 v23]), B7 3 152 4 v23] 4)) (fun v23 v24 v25 h => ?_) (fun j7 Aj7 hj7 h => ?_)
 refine za [4] ?_
 cases h
 exact aI zr
 refine zx fun _ => ?_
 refine zk 1 ?_
 obtain ⟨y8, he, h⟩ := aB h
 refine zo [(0, 0)] cS (bG n _ _ y8 he) ?_
 clear he
 refine zk 1 ?_
 refine ze [0, 1, 4, 5, 6] ?_
 refine za [0, 1, 4, 5, 6, 31] ?_
 refine zi h (fun h => ?_) fun h => ?_
 refine zx fun _ => ?_
 refine zk 3 ?_
 obtain ⟨y9, he, h⟩ := aB h
 refine zo [(0, 0)] aBl (ih_Src_Value _ _ y9 he) ?_
 clear he
 refine zk 2 ?_
 refine mC [0, 4, 5, 6, 7] (L2 := [H7, I3, C0 5 7 0, C6 6 y8.1, C0 7 18 0]) (G2 := [E0 y9.2, (1, .blk 152 [I 0, I 0, Sx (⟨#[]⟩ : ByteArray), cQ]), (7, .blk 152 [I 4, I 0, Sx (⟨#[]⟩ : ByteArray), cQ]), (18, E1 y9.1)]) 20 ?_
 refine zx fun _ => ?_
 refine zk 3 ?_
 refine rG (e := 152) (sz := 4) (len := 1) (r := [I y9.1.Kind, I y9.1.N, Sx y9.1.S, C5 y9.1.L]) (l' := List.map aQ [y9.1]) (nm := 23) (by kernel_rfl) (by simp only [List.map_cons, List.map_nil, dR]; kernel_rfl) (by kernel_rfl) (by kernel_rfl) rfl rfl rfl ?_
 obtain ⟨l10, he, h⟩ := aB h
 refine cH (enc := aQ) (l := ([] : List aF)) (els := [y9.1]) (r := l10) (old := none) (e := 152) (sz := 4) (bytes := 56) (k := 0) (nm := 24) he (by kernel_rfl) (by kernel_rfl) (fun x => by rw [dR]; rfl) (by kernel_rfl) (by kernel_rfl) rfl rfl rfl ?_
 clear he
 refine zk 2 ?_
 refine ze [0, 4, 5, 6, 7] ?_
 refine za [0, 4, 5, 6, 7, 8] ?_
 refine aK ?_
 refine bJ (fun n s => ∃ v13 v14 v15 v16, pU y8 y9 j7 n v13 v14 v15 v16 = some r ∧ s = mk [H7, I3, C0 5 2 0, C6 6 y8.1, C0 7 3 0, C6 8 v13] [A2 v14 v15, (1, .blk 152 [I 0, I 0, Sx (⟨#[]⟩ : ByteArray), cQ]), (2, .blk 152 [I 4, I 0, Sx (⟨#[]⟩ : ByteArray), M0 4 v16]), (3, E1 y9.1), B7 4 152 4 v16] 5) n _ (zv [(0, 0), (1, 1), (7, 2), (18, 3), (24, 4)] [0, 4, 5, 6, 7, 8] 5) ⟨_, _, _, _, h, rfl⟩ (fun s ⟨v13, v14, v15, v16, h, _⟩ => nomatch h) ?_
 rintro n s ⟨v13, v14, v15, v16, h, rfl⟩
 rw [pU] at h
 refine aO ?_
 refine za [0, 4, 5, 6, 7, 8, 44] ?_
 refine zi h (fun h => ?_) fun h => ?_
 refine aC ?_
 refine aO ?_
 refine aK ?_
 refine Uo [[], [0], [], [], [2, 3], [4, 2, 3], [1, 5, 4, 0, 2, 3], [0, 1, 2, 3, 4, 5, 6], [7, 6, 0, 1, 2, 3, 4, 5]] fun _ => ?_
 refine zk 4 ?_
 obtain ⟨y17, he, h⟩ := aB h
 refine zo [(0, 0)] Yl (Og n _ _ y17 he) ?_
 clear he
 refine rG (e := 152) (sz := 4) (len := 1) (r := [I y17.1.Kind, I y17.1.N, Sx y17.1.S, C5 y17.1.L]) (l' := List.map aQ [y17.1]) (nm := 13) (by kernel_rfl) (by simp only [List.map_cons, List.map_nil, dR]; kernel_rfl) (by kernel_rfl) (by kernel_rfl) rfl rfl rfl ?_
 obtain ⟨l18, he, h⟩ := aB h
 refine cH (enc := aQ) (l := v16) (els := [y17.1]) (r := l18) (old := some 4) (e := 152) (sz := 4) (bytes := 56) (k := (H4 v16)) (nm := 14) he (by kernel_rfl) (by kernel_rfl) (fun x => by rw [dR]; rfl) (by kernel_rfl) (by kernel_rfl) rfl rfl rfl ?_
 clear he
 refine zk 2 ?_
 refine cF ?_
 refine bB ?_
 refine zb ?_
 exact eZ (zv [(0, 0), (1, 1), (2, 2), (3, 3), (14, 4)] [0, 4, 5, 6, 7, 8] 5) (⟨_, _, _, _, h, rfl⟩)
 exact aL (zv [(0, 0), (1, 1), (2, 2), (4, 3)] [4, 5] 4) (bK (hj7 _ _ _ h))
 exact aL (eA.trans (lX (n := 7) (T0 := 152) (l := [I 4, I 0, Sx (⟨#[]⟩ : ByteArray), cQ]) (G2 := [E0 y8.2, (1, .blk 152 [I 0, I 0, Sx (⟨#[]⟩ : ByteArray), cQ]), (7, .blk 152 [I 4, I 0, Sx (⟨#[]⟩ : ByteArray), .app 14 (List.map aQ ([] : List aF))]), (14, .tok 152 4 (List.length ([] : List aF)))]) (lim2 := 15) 3 152 4 (by kernel_rfl) (by kernel_rfl) (by kernel_rfl) (by kernel_rfl)) (zv [(0, 0), (1, 1), (7, 2), (14, 3)] [4, 5] 4)) (aC (hj7 _ _ _ h))
 exact aL (zv [(0, 0), (1, 1)] [0, 4] 2) (aC (hj1 _ _ h))
 exact aL (zv [(0, 0), (1, 1)] [0, 4] 2) (aC (hj1 _ _ h))
 refine za [0, 1, 4, 11, 17] ?_
 refine zi h (fun h => ?_) fun h => ?_
 exact aL (zv [(0, 0), (1, 1)] [0, 1, 4, 11, 17] 2) (aC (hj4 _ h))
 refine bB ?_
 refine zb ?_
 exact eZ (zv [(0, 0), (1, 1)] [0, 1, 4, 11, 17] 2) (hj4 _ h)
def oA : Nat → aN → Int → Option (aF × aN)
 | 0, _, _ => none
 | n + 1, p0, p1 => nM (fun a0 a1 => oA n a0 a1) n p0 p1
theorem Kw (n : Nat) : (∀ (p0 : aN) (p1 : Int) (r : (aF × aN)), oA n p0 p1 = some r → dI E 97 1 [A1 0 0, A6 p1] [E0 p0] (B5 r.1) [E0 r.2]) := by
 induction n with
 | zero => intro p0 p1 r h; rw [oA] at h; cases h
 | succ n ih => intro p0 p1 r h; rw [oA] at h; exact zR _ ih n _ _ r h
def lD (v45 : List aJ) (v53 : ByteArray) (j54 : Bool → Option (aJ × aN)) (p1 : Int) (y14 : (Int × aN)) (y15 : (Int × aN)) (v42 : Int) (v51 : List Int) (v52 : Int) (v4 : Int) (y5 : ((List bD) × aN)) (v13 : List cU) (y47 : (aJ × aN)) : Nat → Bool → Int → Option (aJ × aN)
 | 0, _, _ => none
 | n + 1, v56, v57 => (if (decide (v57 < (List.length v45 : Int))) = true then (gd [(!v56), (!(bV v53 (⟨#[]⟩ : ByteArray)))] (idx v45 v57)).bind fun (e58 : aJ) => lD v45 v53 j54 p1 y14 y15 v42 v51 v52 v4 y5 v13 y47 n (v56 || ((!(bV v53 (⟨#[]⟩ : ByteArray))) && (bV e58.Key v53))) (IntKind.wrap .i64 (v57 + 1)) else j54 v56)
def lI (y14 : (Int × aN)) (self_Src_view : aN → Int → Option (aJ × aN)) (p1 : Int) (y15 : (Int × aN)) (v4 : Int) (y5 : ((List bD) × aN)) (v13 : List cU) (j16 : List aJ → List Int → Int → Option (aJ × aN)) : Nat → Int → List Int → Int → List aJ → Option (aJ × aN)
 | 0, _, _, _, _ => none
 | n + 1, v42, v43, v44, v45 => (if (decide (v42 < y14.1)) = true then (aS (fun (v63 : List Int) (v64 : Int) (v65 : List aJ) => lI y14 self_Src_view p1 y15 v4 y5 v13 j16 n (IntKind.wrap .i64 (v42 + 1)) v63 v64 v65) (fun (j46 : List Int → Int → List aJ → Option (aJ × aN)) => (self_Src_view (aN.mk v43 v44) (IntKind.wrap .i64 (p1 - 1))).bind fun (y47 : (aJ × aN)) => (aS (fun (v51 : List Int) (v52 : Int) (v53 : ByteArray) => (aS (fun (v61 : Bool) => (if (!v61) = true then (pD 96 v45 [(aJ.mk y47.1.Kind v53 y47.1.Attrs y47.1.Actions y47.1.Kids)]).bind fun (l62 : List aJ) => j46 v51 v52 l62 else j46 v51 v52 v45)) (fun (j54 : Bool → Option (aJ × aN)) => lD v45 v53 j54 p1 y14 y15 v42 v51 v52 v4 y5 v13 y47 n false 0))) (fun (j48 : List Int → Int → ByteArray → Option (aJ × aN)) => (Zl [(!(y15.1 == 0))] (cN n y47.2 3) ((default : Int), y47.2)).bind fun (y49 : (Int × aN)) => (if ((y15.1 == 0) || (y49.1 == 0)) = true then (cN n y49.2 6).bind fun (y50 : (Int × aN)) => j48 y50.2.L y50.2.At (dG [107, (IntKind.wrap .u8 (IntKind.wrap .i64 (97 + y50.1)))]) else j48 y49.2.L y49.2.At y47.1.Key))))) else j16 v45 v43 v44)
def oM (self_Src_view : aN → Int → Option (aJ × aN)) (n : Nat) (p0 : aN) (p1 : Int) : Option (aJ × aN) := (cN n p0 (List.length [1, 1, 2, 3, 4, 5, 6, 7, 8, 9, 10, 11, 12, 13] : Int)).bind fun (y1 : (Int × aN)) => (idx [1, 1, 2, 3, 4, 5, 6, 7, 8, 9, 10, 11, 12, 13] y1.1).bind fun (e2 : Int) => (aS (fun (v4 : Int) => (rW n y1.2 v4).bind fun (y5 : ((List bD) × aN)) => (aS (fun (v11 : List Int) (v12 : Int) (v13 : List cU) => (if (decide (p1 ≤ 0)) = true then some ((aJ.mk v4 (⟨#[]⟩ : ByteArray) y5.1 v13 ([] : List aJ)), (aN.mk v11 v12)) else (cN n (aN.mk v11 v12) 5).bind fun (y14 : (Int × aN)) => (cN n y14.2 2).bind fun (y15 : (Int × aN)) => (aS (fun (v73 : List aJ) (v74 : List Int) (v75 : Int) => some ((aJ.mk v4 (⟨#[]⟩ : ByteArray) y5.1 v13 v73), (aN.mk v74 v75))) (fun (j16 : List aJ → List Int → Int → Option (aJ × aN)) => lI y14 self_Src_view p1 y15 v4 y5 v13 j16 n 0 y15.2.L y15.2.At ([] : List aJ))))) (fun (j6 : List Int → Int → List cU → Option (aJ × aN)) => (cN n y5.2 3).bind fun (y7 : (Int × aN)) => (if (y7.1 == 0) = true then (oA n y7.2 0).bind fun (y8 : (aF × aN)) => j6 y8.2.L y8.2.At [(cU.mk (⟨#[112, 114, 101, 115, 115]⟩ : ByteArray) (⟨#[47]⟩ : ByteArray) (⟨#[103, 111]⟩ : ByteArray) [y8.1])] else j6 y7.2.L y7.2.At ([] : List cU))))) (fun (j3 : Int → Option (aJ × aN)) => (if (decide (p1 > 2)) = true then j3 1 else j3 e2)))
theorem Ae (self_Src_view : aN → Int → Option (aJ × aN)) (ih_Src_view : ∀ (p0 : aN) (p1 : Int) (r : (aJ × aN)), self_Src_view p0 p1 = some r → dI E 58 1 [A1 0 0, A6 p1] [E0 p0] (B0 r.1) [E0 r.2]) (n : Nat) (p0 : aN) (p1 : Int) (r : (aJ × aN)) (h : oM self_Src_view n p0 p1 = some r) : dI E 58 1 [A1 0 0, A6 p1] [E0 p0] (B0 r.1) [E0 r.2] := by
 refine gT Tryz.func58 rfl ?_
 unfold oM at h
 refine za [0, 1, 4] ?_
 refine za [0, 1, 4, 5] ?_
 refine zx fun _ => ?_
 refine zk 3 ?_
 refine zl aH [1, 1, 2, 3, 4, 5, 6, 7, 8, 9, 10, 11, 12, 13] ?_
 obtain ⟨y1, he, h⟩ := aB h
 refine zo [(0, 0)] cS (bG n _ _ y1 he) ?_
 clear he
 obtain ⟨e2, he, h⟩ := aB h
 refine zd aH he ?_
 clear he
 refine zk 4 ?_
 refine ze [0, 1, 4, 6] ?_
 refine aX h (fun A j => ∀ v4, j v4 = some r → A (mk [H7, C6 1 p1, I3, C0 6 2 0] [E0 y1.2, (1, .blk 70 [I 0, Sx (⟨#[]⟩ : ByteArray), cQ, cQ, cQ]), (2, .blk 70 [I v4, Sx (⟨#[]⟩ : ByteArray), cQ, cQ, cQ])] 3)) (fun v4 h => ?_) (fun j3 Aj3 hj3 h => ?_)
 refine zx fun _ => ?_
 refine zk 3 ?_
 obtain ⟨y5, he, h⟩ := aB h
 refine zo [(0, 0)] fok96 (Jv n _ _ y5 he) ?_
 clear he
 refine zk 2 ?_
 refine ze [0, 1, 4, 6] ?_
 refine aX h (fun A j => ∀ v11 v12 v13, j v11 v12 v13 = some r → A (mk [H7, C6 1 p1, I3, C0 6 2 0] [A2 v11 v12, (1, .blk 70 [I 0, Sx (⟨#[]⟩ : ByteArray), cQ, cQ, cQ]), (2, .blk 70 [I v4, Sx (⟨#[]⟩ : ByteArray), C7 y5.1, M1 3 v13, cQ]), B7 3 159 4 v13] 4)) (fun v11 v12 v13 h => ?_) (fun j6 Aj6 hj6 h => ?_)
 refine aO ?_
 refine za [0, 1, 4, 6, 40] ?_
 refine zi h (fun h => ?_) fun h => ?_
 refine za [4] ?_
 cases h
 exact aI zr
 refine aC ?_
 refine zx fun _ => ?_
 refine zk 1 ?_
 obtain ⟨y14, he, h⟩ := aB h
 refine zo [(0, 0)] cS (bG n _ _ y14 he) ?_
 clear he
 refine zk 1 ?_
 refine ze [0, 1, 4, 6, 7] ?_
 refine zx fun _ => ?_
 refine zk 1 ?_
 obtain ⟨y15, he, h⟩ := aB h
 refine zo [(0, 0)] cS (bG n _ _ y15 he) ?_
 clear he
 refine zk 2 ?_
 refine ze [0, 1, 4, 6, 7, 8] ?_
 refine aX h (fun A j => ∀ v73 v74 v75, j v73 v74 v75 = some r → A (mk [I3, C0 6 2 0] [A2 v74 v75, (1, .blk 70 [I 0, Sx (⟨#[]⟩ : ByteArray), cQ, cQ, cQ]), (2, .blk 70 [I v4, Sx (⟨#[]⟩ : ByteArray), C7 y5.1, M1 3 v13, K3 4 v73]), B7 3 159 4 v13, B7 4 70 5 v73] 5)) (fun v73 v74 v75 h => ?_) (fun j16 Aj16 hj16 h => ?_)
 refine za [4] ?_
 cases h
 exact aI zr
 refine za [0, 1, 4, 6, 7, 8, 9] ?_
 refine aK ?_
 refine bJ (fun n s => ∃ v42 v43 v44 v45, lI y14 self_Src_view p1 y15 v4 y5 v13 j16 n v42 v43 v44 v45 = some r ∧ s = mk [H7, C6 1 p1, I3, C0 6 2 0, C6 7 y14.1, (8, B2 (y15.1 == 0)), C6 9 v42] [A2 v43 v44, (1, .blk 70 [I 0, Sx (⟨#[]⟩ : ByteArray), cQ, cQ, cQ]), (2, .blk 70 [I v4, Sx (⟨#[]⟩ : ByteArray), C7 y5.1, M1 3 v13, K3 4 v45]), B7 3 159 4 v13, B7 4 70 5 v45] 5) n _ (eA.trans (lX (n := 2) (T0 := 70) (l := [I v4, Sx (⟨#[]⟩ : ByteArray), C7 y5.1, M1 3 v13, cQ]) (G2 := [E0 y15.2, (1, .blk 70 [I 0, Sx (⟨#[]⟩ : ByteArray), cQ, cQ, cQ]), (2, .blk 70 [I v4, Sx (⟨#[]⟩ : ByteArray), C7 y5.1, M1 3 v13, .app 14 (List.map bE ([] : List aJ))]), B7 3 159 4 v13, (14, .tok 70 5 (List.length ([] : List aJ)))]) (lim2 := 15) 4 70 5 (by kernel_rfl) (by kernel_rfl) (by kernel_rfl) (by kernel_rfl)) (zv [(0, 0), (1, 1), (2, 2), (3, 3), (14, 4)] [0, 1, 4, 6, 7, 8, 9] 5)) ⟨_, _, _, _, h, rfl⟩ (fun s ⟨v42, v43, v44, v45, h, _⟩ => nomatch h) ?_
 rintro n s ⟨v42, v43, v44, v45, h, rfl⟩
 rw [lI] at h
 refine aO ?_
 refine za [0, 1, 4, 6, 7, 8, 9, 49] ?_
 refine zi h (fun h => ?_) fun h => ?_
 refine aC ?_
 refine aX h (fun A j => ∀ v63 v64 v65, j v63 v64 v65 = some r → A (mk [H7, C6 1 p1, I3, C0 6 2 0, C6 7 y14.1, (8, B2 (y15.1 == 0)), C6 9 v42] [A2 v63 v64, (1, .blk 70 [I 0, Sx (⟨#[]⟩ : ByteArray), cQ, cQ, cQ]), (2, .blk 70 [I v4, Sx (⟨#[]⟩ : ByteArray), C7 y5.1, M1 3 v13, K3 4 v65]), B7 3 159 4 v13, B7 4 70 5 v65] 5)) (fun v63 v64 v65 h => ?_) (fun j46 Aj46 hj46 h => ?_)
 refine bB ?_
 refine zb ?_
 exact eZ (zv [(0, 0), (1, 1), (2, 2), (3, 3), (4, 4)] [0, 1, 4, 6, 7, 8, 9] 5) (⟨_, _, _, _, h, rfl⟩)
 refine aK ?_
 refine zx fun _ => ?_
 refine zk 3 ?_
 obtain ⟨y47, he, h⟩ := aB h
 refine zo [(0, 0)] fok58 (ih_Src_view _ _ y47 he) ?_
 clear he
 refine zk 2 ?_
 refine ze [0, 1, 4, 6, 7, 8, 9, 10] ?_
 refine aX h (fun A j => ∀ v51 v52 v53, j v51 v52 v53 = some r → A (mk [H7, C6 1 p1, I3, C0 6 2 0, C6 7 y14.1, (8, B2 (y15.1 == 0)), C6 9 v42, C0 10 3 0] [A2 v51 v52, (1, .blk 70 [I 0, Sx (⟨#[]⟩ : ByteArray), cQ, cQ, cQ]), (2, .blk 70 [I v4, Sx (⟨#[]⟩ : ByteArray), C7 y5.1, M1 4 v13, K3 5 v45]), (3, .blk 70 [I y47.1.Kind, Sx v53, C7 y47.1.Attrs, C9 y47.1.Actions, G8 y47.1.Kids]), B7 4 159 4 v13, B7 5 70 5 v45] 6)) (fun v51 v52 v53 h => ?_) (fun j48 Aj48 hj48 h => ?_)
 refine za [0, 1, 4, 6, 7, 8, 9, 10, 11] ?_
 refine aX h (fun A j => ∀ v61, j v61 = some r → A (mk [H7, C6 1 p1, I3, C0 6 2 0, C6 7 y14.1, (8, B2 (y15.1 == 0)), C6 9 v42, C0 10 3 0, K2 11 v61] [A2 v51 v52, (1, .blk 70 [I 0, Sx (⟨#[]⟩ : ByteArray), cQ, cQ, cQ]), (2, .blk 70 [I v4, Sx (⟨#[]⟩ : ByteArray), C7 y5.1, M1 4 v13, K3 5 v45]), (3, .blk 70 [I y47.1.Kind, Sx v53, C7 y47.1.Attrs, C9 y47.1.Actions, G8 y47.1.Kids]), B7 4 159 4 v13, B7 5 70 5 v45] 6)) (fun v61 h => ?_) (fun j54 Aj54 hj54 h => ?_)
 refine za [0, 1, 4, 6, 7, 8, 9, 10, 94] ?_
 refine zi h (fun h => ?_) fun h => ?_
 refine bB ?_
 refine zy fun _ => ?_
 refine zk 3 ?_
 refine rG (e := 70) (sz := 5) (len := 1) (r := [I y47.1.Kind, Sx v53, C7 y47.1.Attrs, C9 y47.1.Actions, G8 y47.1.Kids]) (l' := List.map bE [aJ.mk y47.1.Kind v53 y47.1.Attrs y47.1.Actions y47.1.Kids]) (nm := 11) (by kernel_rfl) (by simp only [List.map_cons, List.map_nil, iA]; kernel_rfl) (by kernel_rfl) (by kernel_rfl) rfl rfl rfl ?_
 obtain ⟨l62, he, h⟩ := aB h
 refine cH (enc := bE) (l := v45) (els := [aJ.mk y47.1.Kind v53 y47.1.Attrs y47.1.Actions y47.1.Kids]) (r := l62) (old := some 5) (e := 70) (sz := 5) (bytes := 96) (k := (H4 v45)) (nm := 12) he (by kernel_rfl) (by kernel_rfl) (fun x => by rw [iA]; rfl) (by kernel_rfl) (by kernel_rfl) rfl rfl rfl ?_
 clear he
 refine zk 2 ?_
 refine cF ?_
 exact eZ (zv [(0, 0), (1, 1), (2, 2), (4, 3), (12, 4)] [0, 1, 4, 6, 7, 8, 9] 5) (hj46 _ _ _ h)
 exact aL (zv [(0, 0), (1, 1), (2, 2), (4, 3), (5, 4)] [0, 1, 4, 6, 7, 8, 9] 5) (aC (hj46 _ _ _ h))
 refine za [0, 1, 4, 6, 7, 8, 9, 10, 11, 12] ?_
 refine aK ?_
 refine bJ (fun n s => ∃ v56 v57, lD v45 v53 j54 p1 y14 y15 v42 v51 v52 v4 y5 v13 y47 n v56 v57 = some r ∧ s = mk [H7, C6 1 p1, I3, C0 6 2 0, C6 7 y14.1, (8, B2 (y15.1 == 0)), C6 9 v42, C0 10 3 0, K2 11 v56, C6 12 v57] [A2 v51 v52, (1, .blk 70 [I 0, Sx (⟨#[]⟩ : ByteArray), cQ, cQ, cQ]), (2, .blk 70 [I v4, Sx (⟨#[]⟩ : ByteArray), C7 y5.1, M1 4 v13, K3 5 v45]), (3, .blk 70 [I y47.1.Kind, Sx v53, C7 y47.1.Attrs, C9 y47.1.Actions, G8 y47.1.Kids]), B7 4 159 4 v13, B7 5 70 5 v45] 6) n _ (zv [(0, 0), (1, 1), (2, 2), (3, 3), (4, 4), (5, 5)] [0, 1, 4, 6, 7, 8, 9, 10, 11, 12] 6) ⟨_, _, h, rfl⟩ (fun s ⟨v56, v57, h, _⟩ => nomatch h) ?_
 rintro n s ⟨v56, v57, h, rfl⟩
 rw [lD] at h
 refine aO ?_
 refine zx fun _ => ?_
 refine zk 3 ?_
 refine zl bE v45 ?_
 refine zk 1 ?_
 refine ze [0, 1, 4, 6, 7, 8, 9, 10, 11, 12, 73] ?_
 refine zi h (fun h => ?_) fun h => ?_
 refine aC ?_
 refine aO ?_
 refine aK ?_
 refine Uo [[], [0], [1, 0], [2, 1, 0], [3, 1, 2, 0], [4, 1, 3, 2, 0], [5, 4, 1, 3, 2, 0], [6, 5, 4, 1, 3, 2, 0], [5, 4, 1, 3, 2, 0], [7, 8, 5, 6, 4, 1, 3, 2, 0], [9, 5, 7, 8, 6, 4, 1, 3, 2, 0], [10, 5, 9, 7, 8, 6, 4, 1, 3, 2, 0], [5, 4, 1, 3, 2, 0], [12, 5, 4, 1, 3, 2, 0], [11, 13, 5, 10, 9, 7, 8, 6, 4, 1, 3, 2, 0, 12], [5, 14, 1, 4, 3, 2, 0, 11, 13, 10, 9, 7, 8, 6, 12], [1, 15, 0, 5, 14, 4, 3, 2, 11, 13, 10, 9, 7, 8, 6, 12], [16, 5, 0, 1, 2, 3, 4, 6, 7, 8, 9, 10, 11, 12, 13, 14, 15]] fun _ => ?_
 refine zk 2 ?_
 refine zE (A1 3 1) ?_
 refine zE (F1 v53) ?_
 refine zE (.c (Bo (!(bV v53 (⟨#[]⟩ : ByteArray))))) ?_
 refine zF [!v56] (.c (Bo (!(bV v53 (⟨#[]⟩ : ByteArray))))) ?_
 refine zE (A1 2 4) ?_
 refine zE (.c (K3 5 v45)) ?_
 refine zE (A6 v57) ?_
 obtain ⟨e58, he, h⟩ := aB h
 refine lM (e := [!v56, (!(bV v53 (⟨#[]⟩ : ByteArray)))]) [(83, .c (K3 5 v45), some 2), (84, A6 v57, some 2)] (v := .c (E5 e58)) (foot := []) (by kernel_rfl) (by kernel_rfl) (by kernel_rfl) (fun hg => eK (enc := bE) (sz := 5) (l := v45) (ix := v57) (cD he hg) (by kernel_rfl) (iA e58) (by kernel_rfl)) rfl rfl ?_
 clear he
 refine zE (.c (.imm [Sx e58.Key, C7 e58.Attrs, C9 e58.Actions, G8 e58.Kids])) ?_
 refine zE (F1 e58.Key) ?_
 refine zE (A1 3 1) ?_
 refine zE (F1 v53) ?_
 refine zE (B2 (bV e58.Key v53)) ?_
 refine zP (.bool ((!(bV v53 (⟨#[]⟩ : ByteArray))) && (bV e58.Key v53))) ?_
 refine zP (.bool (v56 || ((!(bV v53 (⟨#[]⟩ : ByteArray))) && (bV e58.Key v53)))) ?_
 refine zk 1 ?_
 refine cF ?_
 refine bB ?_
 refine zb ?_
 exact eZ (zv [(0, 0), (1, 1), (2, 2), (3, 3), (4, 4), (5, 5)] [0, 1, 4, 6, 7, 8, 9, 10, 11, 12] 6) (⟨_, _, h, rfl⟩)
 exact aL (zv [(0, 0), (1, 1), (2, 2), (3, 3), (4, 4), (5, 5)] [0, 1, 4, 6, 7, 8, 9, 10, 11] 6) (bK (hj54 _ h))
 refine zx fun _ => ?_
 refine zk 2 ?_
 refine zE (A1 0 0) ?_
 obtain ⟨y49, he, h⟩ := aB h
 refine Bf (e := [!(y15.1 == 0)]) [(58, A1 0 0, some 1)] (F := 15) (As := [A1 0 0, .c (I 3)]) (Bs := [A1 0 0, .c (I 3)]) (σ := [(0, 0)]) (k := 1) (Gc := [E0 y47.2]) (Gf := [E0 y49.2]) (r := .c (I y49.1)) (v := .c (I y49.1)) (by kernel_rfl) (by kernel_rfl) (by kernel_rfl) (by kernel_rfl) (by kernel_rfl) (by kernel_rfl) cS ⟨.inr ⟨(by kernel_rfl), (by kernel_rfl)⟩, ⟨.inl (by kernel_rfl), trivial⟩⟩ (fun hg => bG n _ _ y49 (Xk he hg)) (by kernel_rfl) (by kernel_rfl) (by kernel_rfl) (fun hg => by rw [Vy he hg]; kernel_rfl) (by kernel_rfl) rfl rfl rfl ?_
 clear he
 refine zE (B2 (y49.1 == 0)) ?_
 refine zP (.bool ((y15.1 == 0) || (y49.1 == 0))) ?_
 refine ze [0, 1, 4, 6, 7, 8, 9, 10, 61] ?_
 refine zi h (fun h => ?_) fun h => ?_
 refine bB ?_
 refine zy fun _ => ?_
 refine zk 1 ?_
 obtain ⟨y50, he, h⟩ := aB h
 refine zo [(0, 0)] cS (bG n _ _ y50 he) ?_
 clear he
 refine zk 3 ?_
 refine zw (v := .c (Sx (dG [107, H5 y50.1]))) [] (mG (ns := [107, H5 y50.1]) (by kernel_rfl)) ?_
 refine zk 2 ?_
 refine cF ?_
 exact eZ (zv [(0, 0), (1, 1), (2, 2), (12, 3), (3, 4), (4, 5)] [0, 1, 4, 6, 7, 8, 9, 10] 6) (hj48 _ _ _ h)
 exact aL (zv [(0, 0), (1, 1), (2, 2), (12, 3), (3, 4), (4, 5)] [0, 1, 4, 6, 7, 8, 9, 10] 6) (aC (hj48 _ _ _ h))
 exact aL (zv [(0, 0), (1, 1), (2, 2), (3, 3), (4, 4)] [4, 6] 5) (bK (hj16 _ _ _ h))
 refine zx fun _ => ?_
 refine zk 1 ?_
 obtain ⟨y7, he, h⟩ := aB h
 refine zo [(0, 0)] cS (bG n _ _ y7 he) ?_
 clear he
 refine zk 1 ?_
 refine ze [0, 1, 4, 6, 32] ?_
 refine zi h (fun h => ?_) fun h => ?_
 refine bB ?_
 refine zy fun _ => ?_
 refine zk 1 ?_
 obtain ⟨y8, he, h⟩ := aB h
 refine zo [(0, 0)] aBl (Kw n _ _ y8 he) ?_
 clear he
 refine rG (e := 152) (sz := 4) (len := 1) (r := [I y8.1.Kind, I y8.1.N, Sx y8.1.S, C5 y8.1.L]) (l' := List.map aQ [y8.1]) (nm := 14) (by kernel_rfl) (by simp only [List.map_cons, List.map_nil, dR]; kernel_rfl) (by kernel_rfl) (by kernel_rfl) rfl rfl rfl ?_
 refine zk 4 ?_
 refine cF ?_
 exact eZ (zv [(0, 0), (1, 1), (2, 2), (16, 3)] [0, 1, 4, 6] 4) (hj6 _ _ _ h)
 exact aL (eA.trans (lX (n := 2) (T0 := 70) (l := [I v4, Sx (⟨#[]⟩ : ByteArray), C7 y5.1, cQ, cQ]) (G2 := [E0 y7.2, (1, .blk 70 [I 0, Sx (⟨#[]⟩ : ByteArray), cQ, cQ, cQ]), (2, .blk 70 [I v4, Sx (⟨#[]⟩ : ByteArray), C7 y5.1, .app 12 (List.map aD ([] : List cU)), cQ]), (12, .tok 159 4 (List.length ([] : List cU)))]) (lim2 := 13) 3 159 4 (by kernel_rfl) (by kernel_rfl) (by kernel_rfl) (by kernel_rfl)) (zv [(0, 0), (1, 1), (2, 2), (12, 3)] [0, 1, 4, 6] 4)) (aC (hj6 _ _ _ h))
 refine za [0, 1, 4, 6, 23] ?_
 refine zi h (fun h => ?_) fun h => ?_
 refine bB ?_
 refine zb ?_
 exact eZ (zv [(0, 0), (1, 1), (12, 2)] [0, 1, 4, 6] 3) (hj3 _ h)
 exact aL (zv [(0, 0), (1, 1), (12, 2)] [0, 1, 4, 6] 3) (aC (hj3 _ h))
def pA : Nat → aN → Int → Option (aJ × aN)
 | 0, _, _ => none
 | n + 1, p0, p1 => oM (fun a0 a1 => pA n a0 a1) n p0 p1
theorem Mj (n : Nat) : (∀ (p0 : aN) (p1 : Int) (r : (aJ × aN)), pA n p0 p1 = some r → dI E 58 1 [A1 0 0, A6 p1] [E0 p0] (B0 r.1) [E0 r.2]) := by
 induction n with
 | zero => intro p0 p1 r h; rw [pA] at h; cases h
 | succ n ih => intro p0 p1 r h; rw [pA] at h; exact Ae _ ih n _ _ r h
def pX (p0 : ByteArray) (j1 : Unit → Option Bool) : Nat → Int → Option Bool
 | 0, _ => none
 | n + 1, v3 => (if (decide (v3 < (ByteArray.size p0 : Int))) = true then (xW p0 v3).bind fun (u4 : Int) => (if ((((((decide (u4 < 97)) || (decide (u4 > 122))) && ((decide (u4 < 65)) || (decide (u4 > 90)))) && ((decide (u4 < 48)) || (decide (u4 > 57)))) && (u4 != 45)) && (u4 != 95)) = true then some false else pX p0 j1 n (IntKind.wrap .i64 (v3 + 1))) else j1 ())
def zZ  (n : Nat) (p0 : ByteArray) : Option Bool := (aS (fun (_ : Unit) => some (decide ((ByteArray.size p0 : Int) ≤ 24))) (fun (j1 : Unit → Option Bool) => pX p0 j1 n 0))
theorem Kv  (n : Nat) (p0 : ByteArray) (r : Bool) (h : zZ n p0 = some r) : dI E 134 0 [F1 p0] [] (B2 r) [] := by
 refine gT Tryz.func134 rfl ?_
 unfold zZ at h
 refine za [0] ?_
 refine aX h (fun A j => ∀ u, j u = some r → A (mk [(0, F1 p0)] [] 0)) (fun u h => ?_) (fun j1 Aj1 hj1 h => ?_)
 refine za [2] ?_
 cases h
 exact aI zr
 refine za [0, 3] ?_
 refine aK ?_
 refine bJ (fun n s => ∃ v3, pX p0 j1 n v3 = some r ∧ s = mk [(0, F1 p0), C6 3 v3] [] 0) n _ (zv [] [0, 3] 0) ⟨_, h, rfl⟩ (fun s ⟨v3, h, _⟩ => nomatch h) ?_
 rintro n s ⟨v3, h, rfl⟩
 rw [pX] at h
 refine aO ?_
 refine za [0, 3, 8] ?_
 refine zi h (fun h => ?_) fun h => ?_
 refine aC ?_
 refine aO ?_
 refine aK ?_
 refine zx fun _ => ?_
 refine zk 2 ?_
 obtain ⟨u4, he, h⟩ := aB h
 refine zs he ?_
 clear he
 refine zk 1 ?_
 refine ze [0, 3, 4] ?_
 refine zx fun _ => ?_
 refine zk 3 ?_
 refine zE (I5 u4) ?_
 refine zE (L3 u4 122) ?_
 refine zP (.bool (G0 u4)) ?_
 refine zk 1 ?_
 refine zE (I5 u4) ?_
 refine zE (J5 u4 65) ?_
 refine zF [G0 u4] (J5 u4 65) ?_
 refine zE (I5 u4) ?_
 refine zE (L3 u4 90) ?_
 refine zP (.bool (J0 u4)) ?_
 refine zP (.bool ((G0 u4) && (J0 u4))) ?_
 refine zk 1 ?_
 refine zE (I5 u4) ?_
 refine zE (J5 u4 48) ?_
 refine zF [(G0 u4) && (J0 u4)] (J5 u4 48) ?_
 refine zE (I5 u4) ?_
 refine zE (L3 u4 57) ?_
 refine zP (.bool (L7 u4)) ?_
 refine zP (.bool (((G0 u4) && (J0 u4)) && (L7 u4))) ?_
 refine Zd 1 (L' := [(0, F1 p0), C6 3 v3, (4, I5 u4), (14, I5 u4), (15, J5 u4 97), (16, J5 u4 97), (17, .cnd [!(D9 u4 97)] (I5 u4)), (18, .cnd [!(D9 u4 97)] (L3 u4 122)), (19, B2 (G0 u4)), (20, B2 (G0 u4)), (21, .cnd [G0 u4] (I5 u4)), (22, .cnd [G0 u4] (J5 u4 65)), (23, .cnd [G0 u4] (J5 u4 65)), (24, .cnd [G0 u4, !(D9 u4 65)] (I5 u4)), (25, .cnd [G0 u4, !(D9 u4 65)] (L3 u4 90)), (26, .cnd [G0 u4] (B2 (J0 u4))), (27, B2 ((G0 u4) && (J0 u4))), (28, B2 ((G0 u4) && (J0 u4))), (29, .cnd [(G0 u4) && (J0 u4)] (I5 u4)), (30, .cnd [(G0 u4) && (J0 u4)] (J5 u4 48)), (31, .cnd [(G0 u4) && (J0 u4)] (J5 u4 48)), (32, .cnd [(G0 u4) && (J0 u4), !(D9 u4 48)] (I5 u4)), (33, .cnd [(G0 u4) && (J0 u4), !(D9 u4 48)] (L3 u4 57)), (34, .cnd [(G0 u4) && (J0 u4)] (B2 (L7 u4))), (35, B2 (((G0 u4) && (J0 u4)) && (L7 u4))), (36, B2 (((G0 u4) && (J0 u4)) && (L7 u4)))]) (G' := []) (X' := []) ?_
 refine zE (I5 u4) ?_
 refine zE (B2 (u4 != 45)) ?_
 refine zP (.bool ((((G0 u4) && (J0 u4)) && (L7 u4)) && (u4 != 45))) ?_
 refine zk 1 ?_
 refine zE (I5 u4) ?_
 refine zE (B2 (u4 != 95)) ?_
 refine zP (.bool (((((G0 u4) && (J0 u4)) && (L7 u4)) && (u4 != 45)) && (u4 != 95))) ?_
 refine ze [0, 3, 43] ?_
 refine zi h (fun h => ?_) fun h => ?_
 refine za [2] ?_
 cases h
 exact aI zr
 refine aC ?_
 refine bB ?_
 refine zb ?_
 exact eZ (zv [] [0, 3] 0) (⟨_, h, rfl⟩)
 exact aL (zv [] [0] 0) (bK (hj1 _ h))
def wS  (n : Nat) (p0 : ByteArray) : Option Bool := (zZ n p0).bind fun (y1 : Bool) => some y1
theorem Kk  (n : Nat) (p0 : ByteArray) (r : Bool) (h : wS n p0 = some r) : dI E 123 0 [F1 p0] [] (B2 r) [] := by
 refine gT Tryz.func123 rfl ?_
 unfold wS at h
 refine za [0] ?_
 refine zx fun _ => ?_
 refine zk 1 ?_
 obtain ⟨y1, he, h⟩ := aB h
 refine zc fok134 (Kv n _ y1 he) ?_
 clear he
 refine zk 1 ?_
 refine ze [2] ?_
 cases h
 exact aI zr
def lW  (n : Nat) (p0 : Int) : Option Bool := some (((decide (p0 ≥ 97)) && (decide (p0 ≤ 122))) || ((decide (p0 ≥ 65)) && (decide (p0 ≤ 90))))
theorem uG  (n : Nat) (p0 : Int) (r : Bool) (h : lW n p0 = some r) : dI E 127 0 [I5 p0] [] (B2 r) [] := by
 refine gT Tryz.func127 rfl ?_
 unfold lW at h
 refine za [0] ?_
 refine zx fun _ => ?_
 refine zk 3 ?_
 refine zE (I5 p0) ?_
 refine zE (B2 (I7 p0 122)) ?_
 refine zP (.bool (D7 p0 97 122)) ?_
 refine zk 1 ?_
 refine zE (I5 p0) ?_
 refine zE (B2 (I8 p0 65)) ?_
 refine zF [!(D7 p0 97 122)] (B2 (I8 p0 65)) ?_
 refine zE (I5 p0) ?_
 refine zE (B2 (I7 p0 90)) ?_
 refine zP (.bool (D7 p0 65 90)) ?_
 refine zP (.bool ((D7 p0 97 122) || (D7 p0 65 90))) ?_
 refine zk 1 ?_
 refine mC [2] (L2 := [(2, B2 ((D7 p0 97 122) || (D7 p0 65 90)))]) (G2 := []) 16 ?_
 cases h
 exact aI zr
def gI (p0 : ByteArray) (j3 : Unit → Option Bool) : Nat → Int → Option Bool
 | 0, _ => none
 | n + 1, v10 => (if (decide (v10 < (ByteArray.size p0 : Int))) = true then (xW p0 v10).bind fun (u11 : Int) => (lW n u11).bind fun (y12 : Bool) => (gd [(!y12)] (xW p0 v10)).bind fun (u13 : Int) => (gd [(!y12), (!(decide (u13 < 48)))] (xW p0 v10)).bind fun (u14 : Int) => (gd [((!y12) && ((decide (u13 < 48)) || (decide (u14 > 57))))] (xW p0 v10)).bind fun (u15 : Int) => (gd [(((!y12) && ((decide (u13 < 48)) || (decide (u14 > 57)))) && (u15 != 45))] (xW p0 v10)).bind fun (u16 : Int) => (if ((((!y12) && ((decide (u13 < 48)) || (decide (u14 > 57)))) && (u15 != 45)) && (u16 != 95)) = true then some false else gI p0 j3 n (IntKind.wrap .i64 (v10 + 1))) else j3 ())
def dQ  (n : Nat) (p0 : ByteArray) : Option Bool := (gd [(!((decide ((ByteArray.size p0 : Int) < 1)) || (decide ((ByteArray.size p0 : Int) > 24))))] (xW p0 0)).bind fun (u1 : Int) => (gd [(!((decide ((ByteArray.size p0 : Int) < 1)) || (decide ((ByteArray.size p0 : Int) > 24))))] (lW n u1)).bind fun (y2 : Bool) => (if (((decide ((ByteArray.size p0 : Int) < 1)) || (decide ((ByteArray.size p0 : Int) > 24))) || (!y2)) = true then some false else (aS (fun (_ : Unit) => some true) (fun (j3 : Unit → Option Bool) => gI p0 j3 n 1)))
theorem rU  (n : Nat) (p0 : ByteArray) (r : Bool) (h : dQ n p0 = some r) : dI E 108 0 [F1 p0] [] (B2 r) [] := by
 refine gT Tryz.func108 rfl ?_
 unfold dQ at h
 refine za [0] ?_
 refine aO ?_
 refine zx fun _ => ?_
 refine zk 4 ?_
 refine zE (F1 p0) ?_
 refine zE (.c (I (ByteArray.size p0 : Int))) ?_
 refine zE (.c (Bo (decide ((ByteArray.size p0 : Int) > 24)))) ?_
 refine zP (.bool ((decide ((ByteArray.size p0 : Int) < 1)) || (decide ((ByteArray.size p0 : Int) > 24)))) ?_
 refine zk 1 ?_
 refine zE (F1 p0) ?_
 obtain ⟨u1, he, h⟩ := aB h
 refine lM (e := [(!((decide ((ByteArray.size p0 : Int) < 1)) || (decide ((ByteArray.size p0 : Int) > 24))))]) [(13, F1 p0, some 1)] (v := .c (U8 u1)) (foot := []) (by kernel_rfl) (by kernel_rfl) (by kernel_rfl) (fun hg => wO (s := p0) (ix := 0) (cD he hg) (by kernel_rfl)) rfl rfl ?_
 clear he
 obtain ⟨y2, he, h⟩ := aB h
 refine Om [(!((decide ((ByteArray.size p0 : Int) < 1)) || (decide ((ByteArray.size p0 : Int) > 24))))] Vl (fun hg => uG n _ y2 (cD he hg)) ?_
 clear he
 refine zE (B2 (!y2)) ?_
 refine zP (.bool (((decide ((ByteArray.size p0 : Int) < 1)) || (decide ((ByteArray.size p0 : Int) > 24))) || (!y2))) ?_
 refine mC [0, 17] (L2 := [(0, F1 p0), (17, .c (Bo (((decide ((ByteArray.size p0 : Int) < 1)) || (decide ((ByteArray.size p0 : Int) > 24))) || (!y2))))]) (G2 := []) 15 ?_
 refine zi h (fun h => ?_) fun h => ?_
 refine za [2] ?_
 cases h
 exact aI zr
 refine aC ?_
 refine aX h (fun A j => ∀ u, j u = some r → A (mk [] [] 0)) (fun u h => ?_) (fun j3 Aj3 hj3 h => ?_)
 refine za [2] ?_
 cases h
 exact aI zr
 refine za [0, 3] ?_
 refine aK ?_
 refine bJ (fun n s => ∃ v10, gI p0 j3 n v10 = some r ∧ s = mk [(0, F1 p0), C6 3 v10] [] 0) n _ (zv [] [0, 3] 0) ⟨_, h, rfl⟩ (fun s ⟨v10, h, _⟩ => nomatch h) ?_
 rintro n s ⟨v10, h, rfl⟩
 rw [gI] at h
 refine aO ?_
 refine za [0, 3, 21] ?_
 refine zi h (fun h => ?_) fun h => ?_
 refine aC ?_
 refine aO ?_
 refine aK ?_
 refine zx fun _ => ?_
 refine zk 2 ?_
 obtain ⟨u11, he, h⟩ := aB h
 refine zs he ?_
 clear he
 obtain ⟨y12, he, h⟩ := aB h
 refine zc Vl (uG n _ y12 he) ?_
 clear he
 refine zk 2 ?_
 refine zE (F1 p0) ?_
 refine zE (A6 v10) ?_
 obtain ⟨u13, he, h⟩ := aB h
 refine lM (e := [!y12]) [(30, F1 p0, some 1), (31, A6 v10, some 1)] (v := .c (U8 u13)) (foot := []) (by kernel_rfl) (by kernel_rfl) (by kernel_rfl) (fun hg => wO (s := p0) (ix := v10) (cD he hg) (by kernel_rfl)) rfl rfl ?_
 clear he
 refine zE (J5 u13 48) ?_
 refine zF [!y12] (J5 u13 48) ?_
 refine zE (F1 p0) ?_
 refine zE (A6 v10) ?_
 obtain ⟨u14, he, h⟩ := aB h
 refine lM (e := [!y12, !(D9 u13 48)]) [(35, F1 p0, some 2), (36, A6 v10, some 2)] (v := .c (U8 u14)) (foot := []) (by kernel_rfl) (by kernel_rfl) (by kernel_rfl) (fun hg => wO (s := p0) (ix := v10) (cD he hg) (by kernel_rfl)) rfl rfl ?_
 clear he
 refine zE (L3 u14 57) ?_
 refine zP (.bool ((D9 u13 48) || (E2 u14 57))) ?_
 refine zP (.bool ((!y12) && ((D9 u13 48) || (E2 u14 57)))) ?_
 refine zk 1 ?_
 refine zE (F1 p0) ?_
 refine zE (A6 v10) ?_
 obtain ⟨u15, he, h⟩ := aB h
 refine lM (e := [(!y12) && ((D9 u13 48) || (E2 u14 57))]) [(42, F1 p0, some 1), (43, A6 v10, some 1)] (v := .c (U8 u15)) (foot := []) (by kernel_rfl) (by kernel_rfl) (by kernel_rfl) (fun hg => wO (s := p0) (ix := v10) (cD he hg) (by kernel_rfl)) rfl rfl ?_
 clear he
 refine zE (B2 (u15 != 45)) ?_
 refine zP (.bool (((!y12) && ((D9 u13 48) || (E2 u14 57))) && (u15 != 45))) ?_
 refine Zd 1 (L' := [(0, F1 p0), C6 3 v10, (21, .c (Bo (decide (v10 < (ByteArray.size p0 : Int))))), (24, F1 p0), C6 25 v10, (26, I5 u11), K2 27 y12, (28, B2 (!y12)), (29, B2 (!y12)), (30, .cnd [!y12] (F1 p0)), (31, .cnd [!y12] (A6 v10)), (32, .cnd [!y12] (I5 u13)), (33, .cnd [!y12] (J5 u13 48)), (34, .cnd [!y12] (J5 u13 48)), (35, .cnd [!y12, !(D9 u13 48)] (F1 p0)), (36, .cnd [!y12, !(D9 u13 48)] (A6 v10)), (37, .cnd [!y12, !(D9 u13 48)] (I5 u14)), (38, .cnd [!y12, !(D9 u13 48)] (L3 u14 57)), (39, .cnd [!y12] (B2 ((D9 u13 48) || (E2 u14 57)))), (40, B2 ((!y12) && ((D9 u13 48) || (E2 u14 57)))), (41, B2 ((!y12) && ((D9 u13 48) || (E2 u14 57)))), (42, .cnd [(!y12) && ((D9 u13 48) || (E2 u14 57))] (F1 p0)), (43, .cnd [(!y12) && ((D9 u13 48) || (E2 u14 57))] (A6 v10)), (44, .cnd [(!y12) && ((D9 u13 48) || (E2 u14 57))] (I5 u15)), (45, .cnd [(!y12) && ((D9 u13 48) || (E2 u14 57))] (B2 (u15 != 45))), (46, B2 (((!y12) && ((D9 u13 48) || (E2 u14 57))) && (u15 != 45))), (47, B2 (((!y12) && ((D9 u13 48) || (E2 u14 57))) && (u15 != 45)))]) (G' := []) (X' := []) ?_
 refine zE (F1 p0) ?_
 refine zE (A6 v10) ?_
 obtain ⟨u16, he, h⟩ := aB h
 refine lM (e := [((!y12) && ((D9 u13 48) || (E2 u14 57))) && (u15 != 45)]) [(48, F1 p0, some 1), (49, A6 v10, some 1)] (v := .c (U8 u16)) (foot := []) (by kernel_rfl) (by kernel_rfl) (by kernel_rfl) (fun hg => wO (s := p0) (ix := v10) (cD he hg) (by kernel_rfl)) rfl rfl ?_
 clear he
 refine zE (B2 (u16 != 95)) ?_
 refine zP (.bool ((((!y12) && ((D9 u13 48) || (E2 u14 57))) && (u15 != 45)) && (u16 != 95))) ?_
 refine ze [0, 3, 52] ?_
 refine zi h (fun h => ?_) fun h => ?_
 refine za [2] ?_
 cases h
 exact aI zr
 refine aC ?_
 refine bB ?_
 refine zb ?_
 exact eZ (zv [] [0, 3] 0) (⟨_, h, rfl⟩)
 exact aL (zv [] [] 0) (bK (hj3 _ h))
def qF  (n : Nat) (p0 : ByteArray) : Option Bool := (Ac p0).bind fun (l1 : List Int) => some (bV (runesBytes l1) p0)
theorem Ha  (n : Nat) (p0 : ByteArray) (r : Bool) (h : qF n p0 = some r) : dI E 145 0 [F1 p0] [] (B2 r) [] := by
 refine gT Tryz.func145 rfl ?_
 unfold qF at h
 refine za [0] ?_
 refine zx fun _ => ?_
 refine zk 1 ?_
 obtain ⟨l1, he, h⟩ := aB h
 refine rx_O (v := .c (.lit (List.map nW l1))) (foot := []) (Ja (s := p0) he (by kernel_rfl)) (by kernel_rfl) rfl rfl ?_
 clear he
 refine zw (v := .c (Sx (runesBytes l1))) [] (rT (ns := l1) (by kernel_rfl)) ?_
 refine zk 3 ?_
 refine ze [2] ?_
 cases h
 exact aI zr
end Go.Proofs.YtojkihhnioeggaaGreatDoor.S
