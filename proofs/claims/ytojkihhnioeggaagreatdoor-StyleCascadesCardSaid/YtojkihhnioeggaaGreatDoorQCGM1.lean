import Derived.Test.YtojkihhnioeggaaGreatDoorQCGM0
set_option linter.unusedVariables false
set_option linter.unusedSimpArgs false
set_option maxRecDepth 100000
set_option maxHeartbeats 4000000
namespace Go.Proofs.YtojkihhnioeggaaGreatDoor.S
open Go Go.Bm
def lX (y1 : (Int × aO)) (j3 : List Int → List Int → Int → Option (ByteArray × aO)) : Nat → Int → List Int → Int → List Int → Option (ByteArray × aO)
 | 0, _, _, _, _ => none
 | n + 1, v7, v8, v9, v10 => (if (decide (v7 < y1.1)) = true then (cK n (aO.mk v8 v9) 4).bind fun (y11 : (Int × aO)) => (uU v7 (List.length v10)).bind fun (k12 : Nat) => (v10[k12]?).bind fun (e13 : Int) => lX y1 j3 n (IntKind.wrap .i64 (v7 + 1)) y11.2.L y11.2.At (List.set v10 k12 (IntKind.wrap .u8 (IntKind.wrap .i64 (97 + y11.1)))) else j3 v10 v8 v9)
def tI  (n : Nat) (p0 : aO) (p1 : Int) : Option (ByteArray × aO) := (cK n p0 (IntKind.wrap .i64 (p1 + 1))).bind fun (y1 : (Int × aO)) => (mkO 1 y1.1).bind fun (k2 : Nat) => (aS (fun (v18 : List Int) (v19 : List Int) (v20 : Int) => some ((dG v18), (aO.mk v19 v20))) (fun (j3 : List Int → List Int → Int → Option (ByteArray × aO)) => lX y1 j3 n 0 y1.2.L y1.2.At (List.replicate k2 (0 : Int))))
theorem Cn  (n : Nat) (p0 : aO) (p1 : Int) (r : (ByteArray × aO)) (h : tI n p0 p1 = some r) : cW E 121 1 [B9 0 0, B7 p1] [E4 p0] (F0 r.1) [E4 r.2] := by
 refine eV Tryz.func121 rfl ?_
 unfold tI at h
 refine za [0, 1] ?_
 refine zx fun _ => ?_
 refine zk 3 ?_
 obtain ⟨y1, he, h⟩ := aC h
 refine zo [(0, 0)] cP (bJ n _ _ y1 he) ?_
 clear he
 refine zk 1 ?_
 refine ze [0, 5] ?_
 refine zx fun _ => ?_
 refine zk 1 ?_
 obtain ⟨k2, he, h⟩ := aC h
 refine rx_make (enc := Ux) (e := 5) (sz := 1) (bytes := 1) (nm := 8) (q := k2) (l := y1.1) (0 : Int) he (by kernel_rfl) (by kernel_rfl) (by kernel_rfl) rfl rfl rfl ?_
 clear he
 refine zk 1 ?_
 refine ze [0, 5, 6] ?_
 refine aQ h (fun A j => ∀ v18 v19 v20, j v18 v19 v20 = some r → A (mk [(6, J2 1)] [A5 v19 v20, (1, .vec 5 1 (List.map Ux v18))] 2)) (fun v18 v19 v20 h => ?_) (fun j3 Aj3 hj3 h => ?_)
 refine aH (sW 1 (T := 5) (sz := 1) (l := List.map Ux v18) (L2 := [(6, .c (.lit (List.map Ux v18)))]) (G2 := [A5 v19 v20]) (by kernel_rfl) (by kernel_rfl) (by kernel_rfl)) ?_
 refine zx fun _ => ?_
 refine zk 1 ?_
 refine zw (v := .c (Sx (dG v18))) [] (mW (ns := v18) (by kernel_rfl)) ?_
 refine zk 1 ?_
 refine ze [4] ?_
 cases h
 exact aD zr
 refine za [0, 5, 6, 7] ?_
 refine aG ?_
 refine bA (fun n s => ∃ v7 v8 v9 v10, lX y1 j3 n v7 v8 v9 v10 = some r ∧ s = mk [I3, A6 5 y1.1, (6, J2 1), A6 7 v7] [A5 v8 v9, (1, .vec 5 1 (List.map Ux v10))] 2) n _ (zv [(0, 0), (8, 1)] [0, 5, 6, 7] 2) ⟨_, _, _, _, h, rfl⟩ (fun s ⟨v7, v8, v9, v10, h, _⟩ => nomatch h) ?_
 rintro n s ⟨v7, v8, v9, v10, h, rfl⟩
 rw [lX] at h
 refine aI ?_
 refine za [0, 5, 6, 7, 16] ?_
 refine zi h (fun h => ?_) fun h => ?_
 refine aB ?_
 refine aI ?_
 refine aG ?_
 refine zy fun _ => ?_
 refine zk 3 ?_
 obtain ⟨y11, he, h⟩ := aC h
 refine zo [(0, 0)] cP (bJ n _ _ y11 he) ?_
 clear he
 refine zk 2 ?_
 obtain ⟨k12, he, h⟩ := aC h
 refine cZ (v := .c (.ptr 1 (k12 * 1))) (foot := [1]) (rO (enc := Ux) (l := v10) (n := 1) (sz := 1) (k := k12) (ix := v7) he (by kernel_rfl)) (by kernel_rfl) rfl rfl ?_
 have hb_k12 := mR he; clear he
 obtain ⟨e13, he, h⟩ := aC h
 refine wS (enc := Ux) (n := 1) (q := k12) (f := 0) (sz := 1) (T0 := 5) (lp := [U8 (H7 y11.1)]) (l := v10) (e := e13) (e2 := (H7 y11.1)) he (by kernel_rfl) (by simp only [List.length_cons, List.length_nil]; omega) (by kernel_rfl) (by kernel_rfl) rfl rfl ?_
 clear he
 refine bV ?_
 refine aW ?_
 refine zb ?_
 exact dF (zv [(0, 0), (1, 1)] [0, 5, 6, 7] 2) (⟨_, _, _, _, h, rfl⟩)
 exact aH (zv [(0, 0), (1, 1)] [6] 2) (bG (hj3 _ _ _ h))
def rP (p1 : aJ) (self_Src_Like : aO → aJ → Option (aJ × aO)) (j4 : List aJ → List Int → Int → Option (aJ × aO)) : Nat → Int → List Int → Int → List aJ → Option (aJ × aO)
 | 0, _, _, _, _ => none
 | n + 1, v18, v19, v20, v21 => (if (decide (v18 < (List.length p1.L : Int))) = true then (aS (fun (v27 : List Int) (v28 : Int) (v29 : List aJ) => rP p1 self_Src_Like j4 n (IntKind.wrap .i64 (v18 + 1)) v27 v28 v29) (fun (j22 : List Int → Int → List aJ → Option (aJ × aO)) => (cK n (aO.mk v19 v20) 3).bind fun (y23 : (Int × aO)) => (if (decide (y23.1 > 0)) = true then (idx p1.L v18).bind fun (e24 : aJ) => (self_Src_Like y23.2 e24).bind fun (y25 : (aJ × aO)) => (pV 56 v21 [y25.1]).bind fun (l26 : List aJ) => j22 y25.2.L y25.2.At l26 else j22 y23.2.L y23.2.At v21))) else j4 v21 v19 v20)
def rW (self_Src_Like : aO → aJ → Option (aJ × aO)) (n : Nat) (p0 : aO) (p1 : aJ) : Option (aJ × aO) := (if (p1.Kind == 1) = true then (mM n p0 (-3 : Int) 9).bind fun (y1 : (Int × aO)) => some ((aJ.mk 1 y1.1 (⟨#[]⟩ : ByteArray) ([] : List aJ)), y1.2) else (if (p1.Kind == 2) = true then (cK n p0 2).bind fun (y2 : (Int × aO)) => some ((aJ.mk 2 y2.1 (⟨#[]⟩ : ByteArray) ([] : List aJ)), y2.2) else (if (p1.Kind == 3) = true then (tI n p0 4).bind fun (y3 : (ByteArray × aO)) => some ((aJ.mk 3 0 y3.1 ([] : List aJ)), y3.2) else (aS (fun (v37 : List aJ) (v38 : List Int) (v39 : Int) => some ((aJ.mk 4 0 (⟨#[]⟩ : ByteArray) v37), (aO.mk v38 v39))) (fun (j4 : List aJ → List Int → Int → Option (aJ × aO)) => rP p1 self_Src_Like j4 n 0 p0.L p0.At ([] : List aJ))))))
theorem Ag (self_Src_Like : aO → aJ → Option (aJ × aO)) (ih_Src_Like : ∀ (p0 : aO) (p1 : aJ) (r : (aJ × aO)), self_Src_Like p0 p1 = some r → cW E 122 1 [B9 0 0, B8 p1] [E4 p0] (B8 r.1) [E4 r.2]) (n : Nat) (p0 : aO) (p1 : aJ) (r : (aJ × aO)) (h : rW self_Src_Like n p0 p1 = some r) : cW E 122 1 [B9 0 0, B8 p1] [E4 p0] (B8 r.1) [E4 r.2] := by
 refine eV Tryz.func122 rfl ?_
 unfold rW at h
 refine za [0, 3, 4] ?_
 refine aI ?_
 refine za [0, 3, 4, 8] ?_
 refine aG ?_
 refine za [0, 3, 4, 8, 9] ?_
 refine zi h (fun h => ?_) fun h => ?_
 refine zx fun _ => ?_
 refine zk 1 ?_
 obtain ⟨y1, he, h⟩ := aC h
 refine zo [(0, 0)] Ol (nU n _ _ _ y1 he) ?_
 clear he
 refine zk 2 ?_
 refine ze [4] ?_
 cases h
 exact aD zr
 refine za [0, 3, 4, 8, 14] ?_
 refine zi h (fun h => ?_) fun h => ?_
 refine zx fun _ => ?_
 refine zk 1 ?_
 obtain ⟨y2, he, h⟩ := aC h
 refine zo [(0, 0)] cP (bJ n _ _ y2 he) ?_
 clear he
 refine zk 2 ?_
 refine ze [4] ?_
 cases h
 exact aD zr
 refine za [0, 3, 4, 19] ?_
 refine zi h (fun h => ?_) fun h => ?_
 refine zx fun _ => ?_
 refine zk 1 ?_
 obtain ⟨y3, he, h⟩ := aC h
 refine zo [(0, 0)] Wl (Cn n _ _ y3 he) ?_
 clear he
 refine zk 2 ?_
 refine ze [4] ?_
 cases h
 exact aD zr
 refine aB ?_
 refine za [0, 3, 4, 5] ?_
 refine aQ h (fun A j => ∀ v37 v38 v39, j v37 v38 v39 = some r → A (mk [H8, A1 5 2 0] [A5 v38 v39, (1, .blk 152 [I 0, I 0, Sx (⟨#[]⟩ : ByteArray), cE]), (2, .blk 152 [I 4, I 0, Sx (⟨#[]⟩ : ByteArray), N4 3 v37]), C4 3 152 4 v37] 4)) (fun v37 v38 v39 h => ?_) (fun j4 Aj4 hj4 h => ?_)
 refine za [4] ?_
 cases h
 exact aD zr
 refine za [0, 3, 4, 5, 6] ?_
 refine aG ?_
 refine bA (fun n s => ∃ v18 v19 v20 v21, rP p1 self_Src_Like j4 n v18 v19 v20 v21 = some r ∧ s = mk [I3, N5, A1 4 2 0, A1 5 3 0, A6 6 v18] [A5 v19 v20, (1, E5 p1), (2, .blk 152 [I 0, I 0, Sx (⟨#[]⟩ : ByteArray), cE]), (3, .blk 152 [I 4, I 0, Sx (⟨#[]⟩ : ByteArray), N4 4 v21]), C4 4 152 4 v21] 5) n _ (dT.trans (lF (n := 12) (T0 := 152) (l := [I 4, I 0, Sx (⟨#[]⟩ : ByteArray), cE]) (G2 := [E4 p0, (1, E5 p1), (2, .blk 152 [I 0, I 0, Sx (⟨#[]⟩ : ByteArray), cE]), (12, .blk 152 [I 4, I 0, Sx (⟨#[]⟩ : ByteArray), .app 15 (List.map aP ([] : List aJ))]), (15, .tok 152 4 (List.length ([] : List aJ)))]) (lim2 := 16) 3 152 4 (by kernel_rfl) (by kernel_rfl) (by kernel_rfl) (by kernel_rfl)) (zv [(0, 0), (1, 1), (2, 2), (12, 3), (15, 4)] [0, 3, 4, 5, 6] 5)) ⟨_, _, _, _, h, rfl⟩ (fun s ⟨v18, v19, v20, v21, h, _⟩ => nomatch h) ?_
 rintro n s ⟨v18, v19, v20, v21, h, rfl⟩
 rw [rP] at h
 refine aI ?_
 refine zx fun _ => ?_
 refine zk 3 ?_
 refine zl aP p1.L ?_
 refine zk 1 ?_
 refine ze [0, 3, 4, 5, 6, 29] ?_
 refine zi h (fun h => ?_) fun h => ?_
 refine aB ?_
 refine aQ h (fun A j => ∀ v27 v28 v29, j v27 v28 v29 = some r → A (mk [I3, N5, A1 4 2 0, A1 5 3 0, A6 6 v18] [A5 v27 v28, (1, E5 p1), (2, .blk 152 [I 0, I 0, Sx (⟨#[]⟩ : ByteArray), cE]), (3, .blk 152 [I 4, I 0, Sx (⟨#[]⟩ : ByteArray), N4 4 v29]), C4 4 152 4 v29] 5)) (fun v27 v28 v29 h => ?_) (fun j22 Aj22 hj22 h => ?_)
 refine aW ?_
 refine zb ?_
 exact dF (zv [(0, 0), (1, 1), (2, 2), (3, 3), (4, 4)] [0, 3, 4, 5, 6] 5) (⟨_, _, _, _, h, rfl⟩)
 refine aG ?_
 refine zx fun _ => ?_
 refine zk 1 ?_
 obtain ⟨y23, he, h⟩ := aC h
 refine zo [(0, 0)] cP (bJ n _ _ y23 he) ?_
 clear he
 refine zk 1 ?_
 refine ze [0, 3, 4, 5, 6, 34] ?_
 refine zi h (fun h => ?_) fun h => ?_
 refine aW ?_
 refine Rg [[], [0], [], [], [3], [], [4, 5, 3], [6, 4, 5, 3], [2, 7, 6, 4, 5, 3], [8, 2, 7, 6, 4, 5, 3], [1, 9, 8, 0, 2, 7, 6, 4, 5, 3], [0, 1, 2, 3, 4, 5, 6, 7, 8, 9, 10], [11, 10, 0, 1, 2, 3, 4, 5, 6, 7, 8, 9]] fun _ => ?_
 refine zk 6 ?_
 obtain ⟨e24, he, h⟩ := aC h
 refine cZ (v := .c (J7 e24)) (foot := []) (dN (enc := aP) (sz := 4) (l := p1.L) (ix := v18) he (by kernel_rfl) (dR e24) (by kernel_rfl)) (by kernel_rfl) rfl rfl ?_
 clear he
 refine zk 1 ?_
 obtain ⟨y25, he, h⟩ := aC h
 refine zo [(0, 0)] Yw (ih_Src_Like _ _ y25 he) ?_
 clear he
 refine qR (e := 152) (sz := 4) (len := 1) (r := [I y25.1.Kind, I y25.1.N, Sx y25.1.S, D2 y25.1.L]) (l' := List.map aP [y25.1]) (nm := 22) (by kernel_rfl) (by simp only [List.map_cons, List.map_nil, dR]; kernel_rfl) (by kernel_rfl) (by kernel_rfl) rfl rfl rfl ?_
 obtain ⟨l26, he, h⟩ := aC h
 refine cH (enc := aP) (l := v21) (els := [y25.1]) (r := l26) (old := some 4) (e := 152) (sz := 4) (bytes := 56) (k := (H1 v21)) (nm := 23) he (by kernel_rfl) (by kernel_rfl) (fun x => by rw [dR]; rfl) (by kernel_rfl) (by kernel_rfl) rfl rfl rfl ?_
 clear he
 refine zk 2 ?_
 refine bV ?_
 exact dF (zv [(0, 0), (1, 1), (2, 2), (3, 3), (23, 4)] [0, 3, 4, 5, 6] 5) (hj22 _ _ _ h)
 exact aH (zv [(0, 0), (1, 1), (2, 2), (3, 3), (4, 4)] [0, 3, 4, 5, 6] 5) (aB (hj22 _ _ _ h))
 exact aH (zv [(0, 0), (2, 1), (3, 2), (4, 3)] [4, 5] 4) (bG (hj4 _ _ _ h))
def vT : Nat → aO → aJ → Option (aJ × aO)
 | 0, _, _ => none
 | n + 1, p0, p1 => rW (fun a0 a1 => vT n a0 a1) n p0 p1
theorem Pc (n : Nat) : (∀ (p0 : aO) (p1 : aJ) (r : (aJ × aO)), vT n p0 p1 = some r → cW E 122 1 [B9 0 0, B8 p1] [E4 p0] (B8 r.1) [E4 r.2]) := by
 induction n with
 | zero => intro p0 p1 r h; rw [vT] at h; cases h
 | succ n ih => intro p0 p1 r h; rw [vT] at h; exact Ag _ ih n _ _ r h
def qE (y8 : (Int × aO)) (y9 : (aJ × aO)) (j7 : List aJ → List Int → Int → Option (aJ × aO)) : Nat → Int → List Int → Int → List aJ → Option (aJ × aO)
 | 0, _, _, _, _ => none
 | n + 1, v13, v14, v15, v16 => (if (decide (v13 < y8.1)) = true then (vT n (aO.mk v14 v15) y9.1).bind fun (y17 : (aJ × aO)) => (pV 56 v16 [y17.1]).bind fun (l18 : List aJ) => qE y8 y9 j7 n (IntKind.wrap .i64 (v13 + 1)) y17.2.L y17.2.At l18 else j7 v16 v14 v15)
def nY (self_Src_Value : aO → Int → Option (aJ × aO)) (n : Nat) (p0 : aO) (p1 : Int) : Option (aJ × aO) := (aS (fun (v26 : List Int) (v27 : Int) => (cK n (aO.mk v26 v27) (List.length [0, 1, 2, 3, (-1 : Int), 7, 10, 1099511627776, (-1099511627776 : Int), 1099511627775] : Int)).bind fun (y28 : (Int × aO)) => (idx [0, 1, 2, 3, (-1 : Int), 7, 10, 1099511627776, (-1099511627776 : Int), 1099511627775] y28.1).bind fun (e29 : Int) => some ((aJ.mk 1 e29 (⟨#[]⟩ : ByteArray) ([] : List aJ)), y28.2)) (fun (j1 : List Int → Int → Option (aJ × aO)) => (cK n p0 5).bind fun (y2 : (Int × aO)) => (if (y2.1 == 0) = true then (cK n y2.2 2).bind fun (y3 : (Int × aO)) => some ((aJ.mk 2 y3.1 (⟨#[]⟩ : ByteArray) ([] : List aJ)), y3.2) else (aS (fun (v5 : Bool) => (if v5 = true then (tI n y2.2 4).bind fun (y6 : (ByteArray × aO)) => some ((aJ.mk 3 0 y6.1 ([] : List aJ)), y6.2) else (if (y2.1 == 3) = true then (if (decide (p1 > 0)) = true then (aS (fun (v23 : List aJ) (v24 : List Int) (v25 : Int) => some ((aJ.mk 4 0 (⟨#[]⟩ : ByteArray) v23), (aO.mk v24 v25))) (fun (j7 : List aJ → List Int → Int → Option (aJ × aO)) => (cK n y2.2 4).bind fun (y8 : (Int × aO)) => (if (decide (y8.1 > 0)) = true then (self_Src_Value y8.2 (IntKind.wrap .i64 (p1 - 1))).bind fun (y9 : (aJ × aO)) => (pV 56 ([] : List aJ) [y9.1]).bind fun (l10 : List aJ) => qE y8 y9 j7 n 1 y9.2.L y9.2.At l10 else j7 ([] : List aJ) y8.2.L y8.2.At))) else j1 y2.2.L y2.2.At) else j1 y2.2.L y2.2.At))) (fun (j4 : Bool → Option (aJ × aO)) => (if (y2.1 == 1) = true then j4 (y2.1 == 1) else j4 (y2.1 == 2)))))))
theorem zZ (self_Src_Value : aO → Int → Option (aJ × aO)) (ih_Src_Value : ∀ (p0 : aO) (p1 : Int) (r : (aJ × aO)), self_Src_Value p0 p1 = some r → cW E 97 1 [B9 0 0, B7 p1] [E4 p0] (B8 r.1) [E4 r.2]) (n : Nat) (p0 : aO) (p1 : Int) (r : (aJ × aO)) (h : nY self_Src_Value n p0 p1 = some r) : cW E 97 1 [B9 0 0, B7 p1] [E4 p0] (B8 r.1) [E4 r.2] := by
 refine eV Tryz.func97 rfl ?_
 unfold nY at h
 refine za [0, 1, 4] ?_
 refine aQ h (fun A j => ∀ v26 v27, j v26 v27 = some r → A (mk [I3, H8] [A5 v26 v27, (1, .blk 152 [I 0, I 0, Sx (⟨#[]⟩ : ByteArray), cE])] 2)) (fun v26 v27 h => ?_) (fun j1 Aj1 hj1 h => ?_)
 refine za [0, 4, 9] ?_
 refine zx fun _ => ?_
 refine zk 3 ?_
 refine zl aN [0, 1, 2, 3, (-1 : Int), 7, 10, 1099511627776, (-1099511627776 : Int), 1099511627775] ?_
 obtain ⟨y28, he, h⟩ := aC h
 refine zo [(0, 0)] cP (bJ n _ _ y28 he) ?_
 clear he
 obtain ⟨e29, he, h⟩ := aC h
 refine zd aN he ?_
 clear he
 refine zk 3 ?_
 refine ze [4] ?_
 cases h
 exact aD zr
 refine zx fun _ => ?_
 refine zk 1 ?_
 obtain ⟨y2, he, h⟩ := aC h
 refine zo [(0, 0)] cP (bJ n _ _ y2 he) ?_
 clear he
 refine ze [0, 1, 4, 11] ?_
 refine aG ?_
 refine za [0, 1, 4, 11, 12] ?_
 refine zi h (fun h => ?_) fun h => ?_
 refine zx fun _ => ?_
 refine zk 1 ?_
 obtain ⟨y3, he, h⟩ := aC h
 refine zo [(0, 0)] cP (bJ n _ _ y3 he) ?_
 clear he
 refine zk 2 ?_
 refine ze [4] ?_
 cases h
 exact aD zr
 refine aQ h (fun A j => ∀ v5, j v5 = some r → A (mk [I3, A6 1 p1, H8, A6 11 y2.1, J3 17 v5] [E4 y2.2, (1, .blk 152 [I 0, I 0, Sx (⟨#[]⟩ : ByteArray), cE])] 2)) (fun v5 h => ?_) (fun j4 Aj4 hj4 h => ?_)
 refine zi h (fun h => ?_) fun h => ?_
 refine zx fun _ => ?_
 refine zk 1 ?_
 obtain ⟨y6, he, h⟩ := aC h
 refine zo [(0, 0)] Wl (Cn n _ _ y6 he) ?_
 clear he
 refine zk 2 ?_
 refine ze [4] ?_
 cases h
 exact aD zr
 refine za [0, 1, 4, 23] ?_
 refine zi h (fun h => ?_) fun h => ?_
 refine za [0, 1, 4, 26] ?_
 refine zi h (fun h => ?_) fun h => ?_
 refine za [0, 1, 4, 5] ?_
 refine aQ h (fun A j => ∀ v23 v24 v25, j v23 v24 v25 = some r → A (mk [H8, A1 5 2 0] [A5 v24 v25, (1, .blk 152 [I 0, I 0, Sx (⟨#[]⟩ : ByteArray), cE]), (2, .blk 152 [I 4, I 0, Sx (⟨#[]⟩ : ByteArray), N4 3 v23]), C4 3 152 4 v23] 4)) (fun v23 v24 v25 h => ?_) (fun j7 Aj7 hj7 h => ?_)
 refine za [4] ?_
 cases h
 exact aD zr
 refine zx fun _ => ?_
 refine zk 1 ?_
 obtain ⟨y8, he, h⟩ := aC h
 refine zo [(0, 0)] cP (bJ n _ _ y8 he) ?_
 clear he
 refine zk 1 ?_
 refine ze [0, 1, 4, 5, 6] ?_
 refine za [0, 1, 4, 5, 6, 31] ?_
 refine zi h (fun h => ?_) fun h => ?_
 refine zx fun _ => ?_
 refine zk 3 ?_
 obtain ⟨y9, he, h⟩ := aC h
 refine zo [(0, 0)] fok97 (ih_Src_Value _ _ y9 he) ?_
 clear he
 refine zk 2 ?_
 refine jY [0, 4, 5, 6, 7] (L2 := [I3, H8, A1 5 7 0, A6 6 y8.1, A1 7 18 0]) (G2 := [E4 y9.2, (1, .blk 152 [I 0, I 0, Sx (⟨#[]⟩ : ByteArray), cE]), (7, .blk 152 [I 4, I 0, Sx (⟨#[]⟩ : ByteArray), cE]), (18, E5 y9.1)]) 20 ?_
 refine zx fun _ => ?_
 refine zk 3 ?_
 refine qR (e := 152) (sz := 4) (len := 1) (r := [I y9.1.Kind, I y9.1.N, Sx y9.1.S, D2 y9.1.L]) (l' := List.map aP [y9.1]) (nm := 23) (by kernel_rfl) (by simp only [List.map_cons, List.map_nil, dR]; kernel_rfl) (by kernel_rfl) (by kernel_rfl) rfl rfl rfl ?_
 obtain ⟨l10, he, h⟩ := aC h
 refine cH (enc := aP) (l := ([] : List aJ)) (els := [y9.1]) (r := l10) (old := none) (e := 152) (sz := 4) (bytes := 56) (k := 0) (nm := 24) he (by kernel_rfl) (by kernel_rfl) (fun x => by rw [dR]; rfl) (by kernel_rfl) (by kernel_rfl) rfl rfl rfl ?_
 clear he
 refine zk 2 ?_
 refine ze [0, 4, 5, 6, 7] ?_
 refine za [0, 4, 5, 6, 7, 8] ?_
 refine aG ?_
 refine bA (fun n s => ∃ v13 v14 v15 v16, qE y8 y9 j7 n v13 v14 v15 v16 = some r ∧ s = mk [I3, H8, A1 5 2 0, A6 6 y8.1, A1 7 3 0, A6 8 v13] [A5 v14 v15, (1, .blk 152 [I 0, I 0, Sx (⟨#[]⟩ : ByteArray), cE]), (2, .blk 152 [I 4, I 0, Sx (⟨#[]⟩ : ByteArray), N4 4 v16]), (3, E5 y9.1), C4 4 152 4 v16] 5) n _ (zv [(0, 0), (1, 1), (7, 2), (18, 3), (24, 4)] [0, 4, 5, 6, 7, 8] 5) ⟨_, _, _, _, h, rfl⟩ (fun s ⟨v13, v14, v15, v16, h, _⟩ => nomatch h) ?_
 rintro n s ⟨v13, v14, v15, v16, h, rfl⟩
 rw [qE] at h
 refine aI ?_
 refine za [0, 4, 5, 6, 7, 8, 44] ?_
 refine zi h (fun h => ?_) fun h => ?_
 refine aB ?_
 refine aI ?_
 refine aG ?_
 refine Rg [[], [0], [], [], [2, 3], [4, 2, 3], [1, 5, 4, 0, 2, 3], [0, 1, 2, 3, 4, 5, 6], [7, 6, 0, 1, 2, 3, 4, 5]] fun _ => ?_
 refine zk 4 ?_
 obtain ⟨y17, he, h⟩ := aC h
 refine zo [(0, 0)] Yw (Pc n _ _ y17 he) ?_
 clear he
 refine qR (e := 152) (sz := 4) (len := 1) (r := [I y17.1.Kind, I y17.1.N, Sx y17.1.S, D2 y17.1.L]) (l' := List.map aP [y17.1]) (nm := 13) (by kernel_rfl) (by simp only [List.map_cons, List.map_nil, dR]; kernel_rfl) (by kernel_rfl) (by kernel_rfl) rfl rfl rfl ?_
 obtain ⟨l18, he, h⟩ := aC h
 refine cH (enc := aP) (l := v16) (els := [y17.1]) (r := l18) (old := some 4) (e := 152) (sz := 4) (bytes := 56) (k := (H1 v16)) (nm := 14) he (by kernel_rfl) (by kernel_rfl) (fun x => by rw [dR]; rfl) (by kernel_rfl) (by kernel_rfl) rfl rfl rfl ?_
 clear he
 refine zk 2 ?_
 refine bV ?_
 refine aW ?_
 refine zb ?_
 exact dF (zv [(0, 0), (1, 1), (2, 2), (3, 3), (14, 4)] [0, 4, 5, 6, 7, 8] 5) (⟨_, _, _, _, h, rfl⟩)
 exact aH (zv [(0, 0), (1, 1), (2, 2), (4, 3)] [4, 5] 4) (bG (hj7 _ _ _ h))
 exact aH (dT.trans (lF (n := 7) (T0 := 152) (l := [I 4, I 0, Sx (⟨#[]⟩ : ByteArray), cE]) (G2 := [E4 y8.2, (1, .blk 152 [I 0, I 0, Sx (⟨#[]⟩ : ByteArray), cE]), (7, .blk 152 [I 4, I 0, Sx (⟨#[]⟩ : ByteArray), .app 14 (List.map aP ([] : List aJ))]), (14, .tok 152 4 (List.length ([] : List aJ)))]) (lim2 := 15) 3 152 4 (by kernel_rfl) (by kernel_rfl) (by kernel_rfl) (by kernel_rfl)) (zv [(0, 0), (1, 1), (7, 2), (14, 3)] [4, 5] 4)) (aB (hj7 _ _ _ h))
 exact aH (zv [(0, 0), (1, 1)] [0, 4] 2) (aB (hj1 _ _ h))
 exact aH (zv [(0, 0), (1, 1)] [0, 4] 2) (aB (hj1 _ _ h))
 refine za [0, 1, 4, 11, 17] ?_
 refine zi h (fun h => ?_) fun h => ?_
 exact aH (zv [(0, 0), (1, 1)] [0, 1, 4, 11, 17] 2) (aB (hj4 _ h))
 refine aW ?_
 refine zb ?_
 exact dF (zv [(0, 0), (1, 1)] [0, 1, 4, 11, 17] 2) (hj4 _ h)
def oM : Nat → aO → Int → Option (aJ × aO)
 | 0, _, _ => none
 | n + 1, p0, p1 => nY (fun a0 a1 => oM n a0 a1) n p0 p1
theorem Lq (n : Nat) : (∀ (p0 : aO) (p1 : Int) (r : (aJ × aO)), oM n p0 p1 = some r → cW E 97 1 [B9 0 0, B7 p1] [E4 p0] (B8 r.1) [E4 r.2]) := by
 induction n with
 | zero => intro p0 p1 r h; rw [oM] at h; cases h
 | succ n ih => intro p0 p1 r h; rw [oM] at h; exact zZ _ ih n _ _ r h
def lQ (v45 : List aL) (v53 : ByteArray) (j54 : Bool → Option (aL × aO)) (p1 : Int) (y14 : (Int × aO)) (y15 : (Int × aO)) (v42 : Int) (v51 : List Int) (v52 : Int) (v4 : Int) (y5 : ((List bF) × aO)) (v13 : List cR) (y47 : (aL × aO)) : Nat → Bool → Int → Option (aL × aO)
 | 0, _, _ => none
 | n + 1, v56, v57 => (if (decide (v57 < (List.length v45 : Int))) = true then (gd [(!v56), (!(bQ v53 (⟨#[]⟩ : ByteArray)))] (idx v45 v57)).bind fun (e58 : aL) => lQ v45 v53 j54 p1 y14 y15 v42 v51 v52 v4 y5 v13 y47 n (v56 || ((!(bQ v53 (⟨#[]⟩ : ByteArray))) && (bQ e58.Key v53))) (IntKind.wrap .i64 (v57 + 1)) else j54 v56)
def lV (y14 : (Int × aO)) (self_Src_view : aO → Int → Option (aL × aO)) (p1 : Int) (y15 : (Int × aO)) (v4 : Int) (y5 : ((List bF) × aO)) (v13 : List cR) (j16 : List aL → List Int → Int → Option (aL × aO)) : Nat → Int → List Int → Int → List aL → Option (aL × aO)
 | 0, _, _, _, _ => none
 | n + 1, v42, v43, v44, v45 => (if (decide (v42 < y14.1)) = true then (aS (fun (v63 : List Int) (v64 : Int) (v65 : List aL) => lV y14 self_Src_view p1 y15 v4 y5 v13 j16 n (IntKind.wrap .i64 (v42 + 1)) v63 v64 v65) (fun (j46 : List Int → Int → List aL → Option (aL × aO)) => (self_Src_view (aO.mk v43 v44) (IntKind.wrap .i64 (p1 - 1))).bind fun (y47 : (aL × aO)) => (aS (fun (v51 : List Int) (v52 : Int) (v53 : ByteArray) => (aS (fun (v61 : Bool) => (if (!v61) = true then (pV 96 v45 [(aL.mk y47.1.Kind v53 y47.1.Attrs y47.1.Actions y47.1.Kids)]).bind fun (l62 : List aL) => j46 v51 v52 l62 else j46 v51 v52 v45)) (fun (j54 : Bool → Option (aL × aO)) => lQ v45 v53 j54 p1 y14 y15 v42 v51 v52 v4 y5 v13 y47 n false 0))) (fun (j48 : List Int → Int → ByteArray → Option (aL × aO)) => (Zw [(!(y15.1 == 0))] (cK n y47.2 3) ((default : Int), y47.2)).bind fun (y49 : (Int × aO)) => (if ((y15.1 == 0) || (y49.1 == 0)) = true then (cK n y49.2 6).bind fun (y50 : (Int × aO)) => j48 y50.2.L y50.2.At (dG [107, (IntKind.wrap .u8 (IntKind.wrap .i64 (97 + y50.1)))]) else j48 y49.2.L y49.2.At y47.1.Key))))) else j16 v45 v43 v44)
def oU (self_Src_view : aO → Int → Option (aL × aO)) (n : Nat) (p0 : aO) (p1 : Int) : Option (aL × aO) := (cK n p0 (List.length [1, 1, 2, 3, 4, 5, 6, 7, 8, 9, 10, 11, 12, 13] : Int)).bind fun (y1 : (Int × aO)) => (idx [1, 1, 2, 3, 4, 5, 6, 7, 8, 9, 10, 11, 12, 13] y1.1).bind fun (e2 : Int) => (aS (fun (v4 : Int) => (sA n y1.2 v4).bind fun (y5 : ((List bF) × aO)) => (aS (fun (v11 : List Int) (v12 : Int) (v13 : List cR) => (if (decide (p1 ≤ 0)) = true then some ((aL.mk v4 (⟨#[]⟩ : ByteArray) y5.1 v13 ([] : List aL)), (aO.mk v11 v12)) else (cK n (aO.mk v11 v12) 5).bind fun (y14 : (Int × aO)) => (cK n y14.2 2).bind fun (y15 : (Int × aO)) => (aS (fun (v73 : List aL) (v74 : List Int) (v75 : Int) => some ((aL.mk v4 (⟨#[]⟩ : ByteArray) y5.1 v13 v73), (aO.mk v74 v75))) (fun (j16 : List aL → List Int → Int → Option (aL × aO)) => lV y14 self_Src_view p1 y15 v4 y5 v13 j16 n 0 y15.2.L y15.2.At ([] : List aL))))) (fun (j6 : List Int → Int → List cR → Option (aL × aO)) => (cK n y5.2 3).bind fun (y7 : (Int × aO)) => (if (y7.1 == 0) = true then (oM n y7.2 0).bind fun (y8 : (aJ × aO)) => j6 y8.2.L y8.2.At [(cR.mk (⟨#[112, 114, 101, 115, 115]⟩ : ByteArray) (⟨#[47]⟩ : ByteArray) (⟨#[103, 111]⟩ : ByteArray) [y8.1])] else j6 y7.2.L y7.2.At ([] : List cR))))) (fun (j3 : Int → Option (aL × aO)) => (if (decide (p1 > 2)) = true then j3 1 else j3 e2)))
theorem Ar (self_Src_view : aO → Int → Option (aL × aO)) (ih_Src_view : ∀ (p0 : aO) (p1 : Int) (r : (aL × aO)), self_Src_view p0 p1 = some r → cW E 58 1 [B9 0 0, B7 p1] [E4 p0] (B2 r.1) [E4 r.2]) (n : Nat) (p0 : aO) (p1 : Int) (r : (aL × aO)) (h : oU self_Src_view n p0 p1 = some r) : cW E 58 1 [B9 0 0, B7 p1] [E4 p0] (B2 r.1) [E4 r.2] := by
 refine eV Tryz.func58 rfl ?_
 unfold oU at h
 refine za [0, 1, 4] ?_
 refine za [0, 1, 4, 5] ?_
 refine zx fun _ => ?_
 refine zk 3 ?_
 refine zl aN [1, 1, 2, 3, 4, 5, 6, 7, 8, 9, 10, 11, 12, 13] ?_
 obtain ⟨y1, he, h⟩ := aC h
 refine zo [(0, 0)] cP (bJ n _ _ y1 he) ?_
 clear he
 obtain ⟨e2, he, h⟩ := aC h
 refine zd aN he ?_
 clear he
 refine zk 4 ?_
 refine ze [0, 1, 4, 6] ?_
 refine aQ h (fun A j => ∀ v4, j v4 = some r → A (mk [I3, A6 1 p1, H8, O9] [E4 y1.2, (1, .blk 70 [I 0, Sx (⟨#[]⟩ : ByteArray), cE, cE, cE]), (2, .blk 70 [I v4, Sx (⟨#[]⟩ : ByteArray), cE, cE, cE])] 3)) (fun v4 h => ?_) (fun j3 Aj3 hj3 h => ?_)
 refine zx fun _ => ?_
 refine zk 3 ?_
 obtain ⟨y5, he, h⟩ := aC h
 refine zo [(0, 0)] fok96 (Kj n _ _ y5 he) ?_
 clear he
 refine zk 2 ?_
 refine ze [0, 1, 4, 6] ?_
 refine aQ h (fun A j => ∀ v11 v12 v13, j v11 v12 v13 = some r → A (mk [I3, A6 1 p1, H8, O9] [A5 v11 v12, (1, .blk 70 [I 0, Sx (⟨#[]⟩ : ByteArray), cE, cE, cE]), (2, .blk 70 [I v4, Sx (⟨#[]⟩ : ByteArray), C7 y5.1, N6 3 v13, cE]), C4 3 159 4 v13] 4)) (fun v11 v12 v13 h => ?_) (fun j6 Aj6 hj6 h => ?_)
 refine aI ?_
 refine za [0, 1, 4, 6, 40] ?_
 refine zi h (fun h => ?_) fun h => ?_
 refine za [4] ?_
 cases h
 exact aD zr
 refine aB ?_
 refine zx fun _ => ?_
 refine zk 1 ?_
 obtain ⟨y14, he, h⟩ := aC h
 refine zo [(0, 0)] cP (bJ n _ _ y14 he) ?_
 clear he
 refine zk 1 ?_
 refine ze [0, 1, 4, 6, 7] ?_
 refine zx fun _ => ?_
 refine zk 1 ?_
 obtain ⟨y15, he, h⟩ := aC h
 refine zo [(0, 0)] cP (bJ n _ _ y15 he) ?_
 clear he
 refine zk 2 ?_
 refine ze [0, 1, 4, 6, 7, 8] ?_
 refine aQ h (fun A j => ∀ v73 v74 v75, j v73 v74 v75 = some r → A (mk [H8, O9] [A5 v74 v75, (1, .blk 70 [I 0, Sx (⟨#[]⟩ : ByteArray), cE, cE, cE]), (2, .blk 70 [I v4, Sx (⟨#[]⟩ : ByteArray), C7 y5.1, N6 3 v13, K4 4 v73]), C4 3 159 4 v13, C4 4 70 5 v73] 5)) (fun v73 v74 v75 h => ?_) (fun j16 Aj16 hj16 h => ?_)
 refine za [4] ?_
 cases h
 exact aD zr
 refine za [0, 1, 4, 6, 7, 8, 9] ?_
 refine aG ?_
 refine bA (fun n s => ∃ v42 v43 v44 v45, lV y14 self_Src_view p1 y15 v4 y5 v13 j16 n v42 v43 v44 v45 = some r ∧ s = mk [I3, A6 1 p1, H8, O9, A6 7 y14.1, (8, B3 (y15.1 == 0)), A6 9 v42] [A5 v43 v44, (1, .blk 70 [I 0, Sx (⟨#[]⟩ : ByteArray), cE, cE, cE]), (2, .blk 70 [I v4, Sx (⟨#[]⟩ : ByteArray), C7 y5.1, N6 3 v13, K4 4 v45]), C4 3 159 4 v13, C4 4 70 5 v45] 5) n _ (dT.trans (lF (n := 2) (T0 := 70) (l := [I v4, Sx (⟨#[]⟩ : ByteArray), C7 y5.1, N6 3 v13, cE]) (G2 := [E4 y15.2, (1, .blk 70 [I 0, Sx (⟨#[]⟩ : ByteArray), cE, cE, cE]), (2, .blk 70 [I v4, Sx (⟨#[]⟩ : ByteArray), C7 y5.1, N6 3 v13, .app 14 (List.map bC ([] : List aL))]), C4 3 159 4 v13, (14, .tok 70 5 (List.length ([] : List aL)))]) (lim2 := 15) 4 70 5 (by kernel_rfl) (by kernel_rfl) (by kernel_rfl) (by kernel_rfl)) (zv [(0, 0), (1, 1), (2, 2), (3, 3), (14, 4)] [0, 1, 4, 6, 7, 8, 9] 5)) ⟨_, _, _, _, h, rfl⟩ (fun s ⟨v42, v43, v44, v45, h, _⟩ => nomatch h) ?_
 rintro n s ⟨v42, v43, v44, v45, h, rfl⟩
 rw [lV] at h
 refine aI ?_
 refine za [0, 1, 4, 6, 7, 8, 9, 49] ?_
 refine zi h (fun h => ?_) fun h => ?_
 refine aB ?_
 refine aQ h (fun A j => ∀ v63 v64 v65, j v63 v64 v65 = some r → A (mk [I3, A6 1 p1, H8, O9, A6 7 y14.1, (8, B3 (y15.1 == 0)), A6 9 v42] [A5 v63 v64, (1, .blk 70 [I 0, Sx (⟨#[]⟩ : ByteArray), cE, cE, cE]), (2, .blk 70 [I v4, Sx (⟨#[]⟩ : ByteArray), C7 y5.1, N6 3 v13, K4 4 v65]), C4 3 159 4 v13, C4 4 70 5 v65] 5)) (fun v63 v64 v65 h => ?_) (fun j46 Aj46 hj46 h => ?_)
 refine aW ?_
 refine zb ?_
 exact dF (zv [(0, 0), (1, 1), (2, 2), (3, 3), (4, 4)] [0, 1, 4, 6, 7, 8, 9] 5) (⟨_, _, _, _, h, rfl⟩)
 refine aG ?_
 refine zx fun _ => ?_
 refine zk 3 ?_
 obtain ⟨y47, he, h⟩ := aC h
 refine zo [(0, 0)] fok58 (ih_Src_view _ _ y47 he) ?_
 clear he
 refine zk 2 ?_
 refine ze [0, 1, 4, 6, 7, 8, 9, 10] ?_
 refine aQ h (fun A j => ∀ v51 v52 v53, j v51 v52 v53 = some r → A (mk [I3, A6 1 p1, H8, O9, A6 7 y14.1, (8, B3 (y15.1 == 0)), A6 9 v42, A1 10 3 0] [A5 v51 v52, (1, .blk 70 [I 0, Sx (⟨#[]⟩ : ByteArray), cE, cE, cE]), (2, .blk 70 [I v4, Sx (⟨#[]⟩ : ByteArray), C7 y5.1, N6 4 v13, K4 5 v45]), (3, .blk 70 [I y47.1.Kind, Sx v53, C7 y47.1.Attrs, D3 y47.1.Actions, G6 y47.1.Kids]), C4 4 159 4 v13, C4 5 70 5 v45] 6)) (fun v51 v52 v53 h => ?_) (fun j48 Aj48 hj48 h => ?_)
 refine za [0, 1, 4, 6, 7, 8, 9, 10, 11] ?_
 refine aQ h (fun A j => ∀ v61, j v61 = some r → A (mk [I3, A6 1 p1, H8, O9, A6 7 y14.1, (8, B3 (y15.1 == 0)), A6 9 v42, A1 10 3 0, J3 11 v61] [A5 v51 v52, (1, .blk 70 [I 0, Sx (⟨#[]⟩ : ByteArray), cE, cE, cE]), (2, .blk 70 [I v4, Sx (⟨#[]⟩ : ByteArray), C7 y5.1, N6 4 v13, K4 5 v45]), (3, .blk 70 [I y47.1.Kind, Sx v53, C7 y47.1.Attrs, D3 y47.1.Actions, G6 y47.1.Kids]), C4 4 159 4 v13, C4 5 70 5 v45] 6)) (fun v61 h => ?_) (fun j54 Aj54 hj54 h => ?_)
 refine za [0, 1, 4, 6, 7, 8, 9, 10, 94] ?_
 refine zi h (fun h => ?_) fun h => ?_
 refine aW ?_
 refine zy fun _ => ?_
 refine zk 3 ?_
 refine qR (e := 70) (sz := 5) (len := 1) (r := [I y47.1.Kind, Sx v53, C7 y47.1.Attrs, D3 y47.1.Actions, G6 y47.1.Kids]) (l' := List.map bC [aL.mk y47.1.Kind v53 y47.1.Attrs y47.1.Actions y47.1.Kids]) (nm := 11) (by kernel_rfl) (by simp only [List.map_cons, List.map_nil, gD]; kernel_rfl) (by kernel_rfl) (by kernel_rfl) rfl rfl rfl ?_
 obtain ⟨l62, he, h⟩ := aC h
 refine cH (enc := bC) (l := v45) (els := [aL.mk y47.1.Kind v53 y47.1.Attrs y47.1.Actions y47.1.Kids]) (r := l62) (old := some 5) (e := 70) (sz := 5) (bytes := 96) (k := (H1 v45)) (nm := 12) he (by kernel_rfl) (by kernel_rfl) (fun x => by rw [gD]; rfl) (by kernel_rfl) (by kernel_rfl) rfl rfl rfl ?_
 clear he
 refine zk 2 ?_
 refine bV ?_
 exact dF (zv [(0, 0), (1, 1), (2, 2), (4, 3), (12, 4)] [0, 1, 4, 6, 7, 8, 9] 5) (hj46 _ _ _ h)
 exact aH (zv [(0, 0), (1, 1), (2, 2), (4, 3), (5, 4)] [0, 1, 4, 6, 7, 8, 9] 5) (aB (hj46 _ _ _ h))
 refine za [0, 1, 4, 6, 7, 8, 9, 10, 11, 12] ?_
 refine aG ?_
 refine bA (fun n s => ∃ v56 v57, lQ v45 v53 j54 p1 y14 y15 v42 v51 v52 v4 y5 v13 y47 n v56 v57 = some r ∧ s = mk [I3, A6 1 p1, H8, O9, A6 7 y14.1, (8, B3 (y15.1 == 0)), A6 9 v42, A1 10 3 0, J3 11 v56, A6 12 v57] [A5 v51 v52, (1, .blk 70 [I 0, Sx (⟨#[]⟩ : ByteArray), cE, cE, cE]), (2, .blk 70 [I v4, Sx (⟨#[]⟩ : ByteArray), C7 y5.1, N6 4 v13, K4 5 v45]), (3, .blk 70 [I y47.1.Kind, Sx v53, C7 y47.1.Attrs, D3 y47.1.Actions, G6 y47.1.Kids]), C4 4 159 4 v13, C4 5 70 5 v45] 6) n _ (zv [(0, 0), (1, 1), (2, 2), (3, 3), (4, 4), (5, 5)] [0, 1, 4, 6, 7, 8, 9, 10, 11, 12] 6) ⟨_, _, h, rfl⟩ (fun s ⟨v56, v57, h, _⟩ => nomatch h) ?_
 rintro n s ⟨v56, v57, h, rfl⟩
 rw [lQ] at h
 refine aI ?_
 refine zx fun _ => ?_
 refine zk 3 ?_
 refine zl bC v45 ?_
 refine zk 1 ?_
 refine ze [0, 1, 4, 6, 7, 8, 9, 10, 11, 12, 73] ?_
 refine zi h (fun h => ?_) fun h => ?_
 refine aB ?_
 refine aI ?_
 refine aG ?_
 refine Rg [[], [0], [1, 0], [2, 1, 0], [3, 1, 2, 0], [4, 1, 3, 2, 0], [5, 4, 1, 3, 2, 0], [6, 5, 4, 1, 3, 2, 0], [5, 4, 1, 3, 2, 0], [7, 8, 5, 6, 4, 1, 3, 2, 0], [9, 5, 7, 8, 6, 4, 1, 3, 2, 0], [10, 5, 9, 7, 8, 6, 4, 1, 3, 2, 0], [5, 4, 1, 3, 2, 0], [12, 5, 4, 1, 3, 2, 0], [11, 13, 5, 10, 9, 7, 8, 6, 4, 1, 3, 2, 0, 12], [5, 14, 1, 4, 3, 2, 0, 11, 13, 10, 9, 7, 8, 6, 12], [1, 15, 0, 5, 14, 4, 3, 2, 11, 13, 10, 9, 7, 8, 6, 12], [16, 5, 0, 1, 2, 3, 4, 6, 7, 8, 9, 10, 11, 12, 13, 14, 15]] fun _ => ?_
 refine zk 2 ?_
 refine zE (B9 3 1) ?_
 refine zE (F0 v53) ?_
 refine zE (.c (Bo (!(bQ v53 (⟨#[]⟩ : ByteArray))))) ?_
 refine zF [!v56] (.c (Bo (!(bQ v53 (⟨#[]⟩ : ByteArray))))) ?_
 refine zE (B9 2 4) ?_
 refine zE (.c (K4 5 v45)) ?_
 refine zE (B7 v57) ?_
 obtain ⟨e58, he, h⟩ := aC h
 refine jZ (e := [!v56, (!(bQ v53 (⟨#[]⟩ : ByteArray)))]) [(83, .c (K4 5 v45), some 2), (84, B7 v57, some 2)] (v := .c (E9 e58)) (foot := []) (by kernel_rfl) (by kernel_rfl) (by kernel_rfl) (fun hg => dN (enc := bC) (sz := 5) (l := v45) (ix := v57) (bR he hg) (by kernel_rfl) (gD e58) (by kernel_rfl)) rfl rfl ?_
 clear he
 refine zE (.c (.imm [Sx e58.Key, C7 e58.Attrs, D3 e58.Actions, G6 e58.Kids])) ?_
 refine zE (F0 e58.Key) ?_
 refine zE (B9 3 1) ?_
 refine zE (F0 v53) ?_
 refine zE (B3 (bQ e58.Key v53)) ?_
 refine zP (.bool ((!(bQ v53 (⟨#[]⟩ : ByteArray))) && (bQ e58.Key v53))) ?_
 refine zP (.bool (v56 || ((!(bQ v53 (⟨#[]⟩ : ByteArray))) && (bQ e58.Key v53)))) ?_
 refine zk 1 ?_
 refine bV ?_
 refine aW ?_
 refine zb ?_
 exact dF (zv [(0, 0), (1, 1), (2, 2), (3, 3), (4, 4), (5, 5)] [0, 1, 4, 6, 7, 8, 9, 10, 11, 12] 6) (⟨_, _, h, rfl⟩)
 exact aH (zv [(0, 0), (1, 1), (2, 2), (3, 3), (4, 4), (5, 5)] [0, 1, 4, 6, 7, 8, 9, 10, 11] 6) (bG (hj54 _ h))
 refine zx fun _ => ?_
 refine zk 2 ?_
 refine zE (B9 0 0) ?_
 obtain ⟨y49, he, h⟩ := aC h
 refine Bw (e := [!(y15.1 == 0)]) [(58, B9 0 0, some 1)] (F := 15) (As := [B9 0 0, .c (I 3)]) (Bs := [B9 0 0, .c (I 3)]) (σ := [(0, 0)]) (k := 1) (Gc := [E4 y47.2]) (Gf := [E4 y49.2]) (r := .c (I y49.1)) (v := .c (I y49.1)) (by kernel_rfl) (by kernel_rfl) (by kernel_rfl) (by kernel_rfl) (by kernel_rfl) (by kernel_rfl) cP ⟨.inr ⟨(by kernel_rfl), (by kernel_rfl)⟩, ⟨.inl (by kernel_rfl), trivial⟩⟩ (fun hg => bJ n _ _ y49 (Xv he hg)) (by kernel_rfl) (by kernel_rfl) (by kernel_rfl) (fun hg => by rw [Wk he hg]; kernel_rfl) (by kernel_rfl) rfl rfl rfl ?_
 clear he
 refine zE (B3 (y49.1 == 0)) ?_
 refine zP (.bool ((y15.1 == 0) || (y49.1 == 0))) ?_
 refine ze [0, 1, 4, 6, 7, 8, 9, 10, 61] ?_
 refine zi h (fun h => ?_) fun h => ?_
 refine aW ?_
 refine zy fun _ => ?_
 refine zk 1 ?_
 obtain ⟨y50, he, h⟩ := aC h
 refine zo [(0, 0)] cP (bJ n _ _ y50 he) ?_
 clear he
 refine zk 3 ?_
 refine zw (v := .c (Sx (dG [107, H7 y50.1]))) [] (mW (ns := [107, H7 y50.1]) (by kernel_rfl)) ?_
 refine zk 2 ?_
 refine bV ?_
 exact dF (zv [(0, 0), (1, 1), (2, 2), (12, 3), (3, 4), (4, 5)] [0, 1, 4, 6, 7, 8, 9, 10] 6) (hj48 _ _ _ h)
 exact aH (zv [(0, 0), (1, 1), (2, 2), (12, 3), (3, 4), (4, 5)] [0, 1, 4, 6, 7, 8, 9, 10] 6) (aB (hj48 _ _ _ h))
 exact aH (zv [(0, 0), (1, 1), (2, 2), (3, 3), (4, 4)] [4, 6] 5) (bG (hj16 _ _ _ h))
 refine zx fun _ => ?_
 refine zk 1 ?_
 obtain ⟨y7, he, h⟩ := aC h
 refine zo [(0, 0)] cP (bJ n _ _ y7 he) ?_
 clear he
 refine zk 1 ?_
 refine ze [0, 1, 4, 6, 32] ?_
 refine zi h (fun h => ?_) fun h => ?_
 refine aW ?_
 refine zy fun _ => ?_
 refine zk 1 ?_
 obtain ⟨y8, he, h⟩ := aC h
 refine zo [(0, 0)] fok97 (Lq n _ _ y8 he) ?_
 clear he
 refine qR (e := 152) (sz := 4) (len := 1) (r := [I y8.1.Kind, I y8.1.N, Sx y8.1.S, D2 y8.1.L]) (l' := List.map aP [y8.1]) (nm := 14) (by kernel_rfl) (by simp only [List.map_cons, List.map_nil, dR]; kernel_rfl) (by kernel_rfl) (by kernel_rfl) rfl rfl rfl ?_
 refine zk 4 ?_
 refine bV ?_
 exact dF (zv [(0, 0), (1, 1), (2, 2), (16, 3)] [0, 1, 4, 6] 4) (hj6 _ _ _ h)
 exact aH (dT.trans (lF (n := 2) (T0 := 70) (l := [I v4, Sx (⟨#[]⟩ : ByteArray), C7 y5.1, cE, cE]) (G2 := [E4 y7.2, (1, .blk 70 [I 0, Sx (⟨#[]⟩ : ByteArray), cE, cE, cE]), (2, .blk 70 [I v4, Sx (⟨#[]⟩ : ByteArray), C7 y5.1, .app 12 (List.map aF ([] : List cR)), cE]), (12, .tok 159 4 (List.length ([] : List cR)))]) (lim2 := 13) 3 159 4 (by kernel_rfl) (by kernel_rfl) (by kernel_rfl) (by kernel_rfl)) (zv [(0, 0), (1, 1), (2, 2), (12, 3)] [0, 1, 4, 6] 4)) (aB (hj6 _ _ _ h))
 refine za [0, 1, 4, 6, 23] ?_
 refine zi h (fun h => ?_) fun h => ?_
 refine aW ?_
 refine zb ?_
 exact dF (zv [(0, 0), (1, 1), (12, 2)] [0, 1, 4, 6] 3) (hj3 _ h)
 exact aH (zv [(0, 0), (1, 1), (12, 2)] [0, 1, 4, 6] 3) (aB (hj3 _ h))
def pO : Nat → aO → Int → Option (aL × aO)
 | 0, _, _ => none
 | n + 1, p0, p1 => oU (fun a0 a1 => pO n a0 a1) n p0 p1
theorem Nc (n : Nat) : (∀ (p0 : aO) (p1 : Int) (r : (aL × aO)), pO n p0 p1 = some r → cW E 58 1 [B9 0 0, B7 p1] [E4 p0] (B2 r.1) [E4 r.2]) := by
 induction n with
 | zero => intro p0 p1 r h; rw [pO] at h; cases h
 | succ n ih => intro p0 p1 r h; rw [pO] at h; exact Ar _ ih n _ _ r h
def qH (p0 : ByteArray) (j1 : Unit → Option Bool) : Nat → Int → Option Bool
 | 0, _ => none
 | n + 1, v3 => (if (decide (v3 < (ByteArray.size p0 : Int))) = true then (yD p0 v3).bind fun (u4 : Int) => (if ((((((decide (u4 < 97)) || (decide (u4 > 122))) && ((decide (u4 < 65)) || (decide (u4 > 90)))) && ((decide (u4 < 48)) || (decide (u4 > 57)))) && (u4 != 45)) && (u4 != 95)) = true then some false else qH p0 j1 n (IntKind.wrap .i64 (v3 + 1))) else j1 ())
def Ai  (n : Nat) (p0 : ByteArray) : Option Bool := (aS (fun (_ : Unit) => some (decide ((ByteArray.size p0 : Int) ≤ 24))) (fun (j1 : Unit → Option Bool) => qH p0 j1 n 0))
theorem Lp  (n : Nat) (p0 : ByteArray) (r : Bool) (h : Ai n p0 = some r) : cW E 134 0 [F0 p0] [] (B3 r) [] := by
 refine eV Tryz.func134 rfl ?_
 unfold Ai at h
 refine za [0] ?_
 refine aQ h (fun A j => ∀ u, j u = some r → A (mk [(0, F0 p0)] [] 0)) (fun u h => ?_) (fun j1 Aj1 hj1 h => ?_)
 refine za [2] ?_
 cases h
 exact aD zr
 refine za [0, 3] ?_
 refine aG ?_
 refine bA (fun n s => ∃ v3, qH p0 j1 n v3 = some r ∧ s = mk [(0, F0 p0), A6 3 v3] [] 0) n _ (zv [] [0, 3] 0) ⟨_, h, rfl⟩ (fun s ⟨v3, h, _⟩ => nomatch h) ?_
 rintro n s ⟨v3, h, rfl⟩
 rw [qH] at h
 refine aI ?_
 refine za [0, 3, 8] ?_
 refine zi h (fun h => ?_) fun h => ?_
 refine aB ?_
 refine aI ?_
 refine aG ?_
 refine zx fun _ => ?_
 refine zk 2 ?_
 obtain ⟨u4, he, h⟩ := aC h
 refine zs he ?_
 clear he
 refine zk 1 ?_
 refine ze [0, 3, 4] ?_
 refine zx fun _ => ?_
 refine zk 3 ?_
 refine zE (I9 u4) ?_
 refine zE (J5 u4 122) ?_
 refine zP (.bool (G0 u4)) ?_
 refine zk 1 ?_
 refine zE (I9 u4) ?_
 refine zE (H9 u4 65) ?_
 refine zF [G0 u4] (H9 u4 65) ?_
 refine zE (I9 u4) ?_
 refine zE (J5 u4 90) ?_
 refine zP (.bool (J4 u4)) ?_
 refine zP (.bool ((G0 u4) && (J4 u4))) ?_
 refine zk 1 ?_
 refine zE (I9 u4) ?_
 refine zE (H9 u4 48) ?_
 refine zF [(G0 u4) && (J4 u4)] (H9 u4 48) ?_
 refine zE (I9 u4) ?_
 refine zE (J5 u4 57) ?_
 refine zP (.bool (N1 u4)) ?_
 refine zP (.bool (((G0 u4) && (J4 u4)) && (N1 u4))) ?_
 refine Wp 1 (L' := [(0, F0 p0), A6 3 v3, (4, I9 u4), (14, I9 u4), (15, H9 u4 97), (16, H9 u4 97), (17, .cnd [!(C1 u4 97)] (I9 u4)), (18, .cnd [!(C1 u4 97)] (J5 u4 122)), (19, B3 (G0 u4)), (20, B3 (G0 u4)), (21, .cnd [G0 u4] (I9 u4)), (22, .cnd [G0 u4] (H9 u4 65)), (23, .cnd [G0 u4] (H9 u4 65)), (24, .cnd [G0 u4, !(C1 u4 65)] (I9 u4)), (25, .cnd [G0 u4, !(C1 u4 65)] (J5 u4 90)), (26, .cnd [G0 u4] (B3 (J4 u4))), (27, B3 ((G0 u4) && (J4 u4))), (28, B3 ((G0 u4) && (J4 u4))), (29, .cnd [(G0 u4) && (J4 u4)] (I9 u4)), (30, .cnd [(G0 u4) && (J4 u4)] (H9 u4 48)), (31, .cnd [(G0 u4) && (J4 u4)] (H9 u4 48)), (32, .cnd [(G0 u4) && (J4 u4), !(C1 u4 48)] (I9 u4)), (33, .cnd [(G0 u4) && (J4 u4), !(C1 u4 48)] (J5 u4 57)), (34, .cnd [(G0 u4) && (J4 u4)] (B3 (N1 u4))), (35, B3 (((G0 u4) && (J4 u4)) && (N1 u4))), (36, B3 (((G0 u4) && (J4 u4)) && (N1 u4)))]) (G' := []) (X' := []) ?_
 refine zE (I9 u4) ?_
 refine zE (B3 (u4 != 45)) ?_
 refine zP (.bool ((((G0 u4) && (J4 u4)) && (N1 u4)) && (u4 != 45))) ?_
 refine zk 1 ?_
 refine zE (I9 u4) ?_
 refine zE (B3 (u4 != 95)) ?_
 refine zP (.bool (((((G0 u4) && (J4 u4)) && (N1 u4)) && (u4 != 45)) && (u4 != 95))) ?_
 refine ze [0, 3, 43] ?_
 refine zi h (fun h => ?_) fun h => ?_
 refine za [2] ?_
 cases h
 exact aD zr
 refine aB ?_
 refine aW ?_
 refine zb ?_
 exact dF (zv [] [0, 3] 0) (⟨_, h, rfl⟩)
 exact aH (zv [] [0] 0) (bG (hj1 _ h))
def wY  (n : Nat) (p0 : ByteArray) : Option Bool := (Ai n p0).bind fun (y1 : Bool) => some y1
theorem Lc  (n : Nat) (p0 : ByteArray) (r : Bool) (h : wY n p0 = some r) : cW E 123 0 [F0 p0] [] (B3 r) [] := by
 refine eV Tryz.func123 rfl ?_
 unfold wY at h
 refine za [0] ?_
 refine zx fun _ => ?_
 refine zk 1 ?_
 obtain ⟨y1, he, h⟩ := aC h
 refine zc fok134 (Lp n _ y1 he) ?_
 clear he
 refine zk 1 ?_
 refine ze [2] ?_
 cases h
 exact aD zr
def mN  (n : Nat) (p0 : Int) : Option Bool := some (((decide (p0 ≥ 97)) && (decide (p0 ≤ 122))) || ((decide (p0 ≥ 65)) && (decide (p0 ≤ 90))))
theorem uL  (n : Nat) (p0 : Int) (r : Bool) (h : mN n p0 = some r) : cW E 127 0 [I9 p0] [] (B3 r) [] := by
 refine eV Tryz.func127 rfl ?_
 unfold mN at h
 refine za [0] ?_
 refine zx fun _ => ?_
 refine zk 3 ?_
 refine zE (I9 p0) ?_
 refine zE (B3 (I2 p0 122)) ?_
 refine zP (.bool (E1 p0 97 122)) ?_
 refine zk 1 ?_
 refine zE (I9 p0) ?_
 refine zE (B3 (I0 p0 65)) ?_
 refine zF [!(E1 p0 97 122)] (B3 (I0 p0 65)) ?_
 refine zE (I9 p0) ?_
 refine zE (B3 (I2 p0 90)) ?_
 refine zP (.bool (E1 p0 65 90)) ?_
 refine zP (.bool ((E1 p0 97 122) || (E1 p0 65 90))) ?_
 refine zk 1 ?_
 refine jY [2] (L2 := [(2, B3 ((E1 p0 97 122) || (E1 p0 65 90)))]) (G2 := []) 16 ?_
 cases h
 exact aD zr
def gO (p0 : ByteArray) (j3 : Unit → Option Bool) : Nat → Int → Option Bool
 | 0, _ => none
 | n + 1, v10 => (if (decide (v10 < (ByteArray.size p0 : Int))) = true then (yD p0 v10).bind fun (u11 : Int) => (mN n u11).bind fun (y12 : Bool) => (gd [(!y12)] (yD p0 v10)).bind fun (u13 : Int) => (gd [(!y12), (!(decide (u13 < 48)))] (yD p0 v10)).bind fun (u14 : Int) => (gd [((!y12) && ((decide (u13 < 48)) || (decide (u14 > 57))))] (yD p0 v10)).bind fun (u15 : Int) => (gd [(((!y12) && ((decide (u13 < 48)) || (decide (u14 > 57)))) && (u15 != 45))] (yD p0 v10)).bind fun (u16 : Int) => (if ((((!y12) && ((decide (u13 < 48)) || (decide (u14 > 57)))) && (u15 != 45)) && (u16 != 95)) = true then some false else gO p0 j3 n (IntKind.wrap .i64 (v10 + 1))) else j3 ())
def dQ  (n : Nat) (p0 : ByteArray) : Option Bool := (gd [(!((decide ((ByteArray.size p0 : Int) < 1)) || (decide ((ByteArray.size p0 : Int) > 24))))] (yD p0 0)).bind fun (u1 : Int) => (gd [(!((decide ((ByteArray.size p0 : Int) < 1)) || (decide ((ByteArray.size p0 : Int) > 24))))] (mN n u1)).bind fun (y2 : Bool) => (if (((decide ((ByteArray.size p0 : Int) < 1)) || (decide ((ByteArray.size p0 : Int) > 24))) || (!y2)) = true then some false else (aS (fun (_ : Unit) => some true) (fun (j3 : Unit → Option Bool) => gO p0 j3 n 1)))
theorem jS  (n : Nat) (p0 : ByteArray) (r : Bool) (h : dQ n p0 = some r) : cW E 108 0 [F0 p0] [] (B3 r) [] := by
 refine eV Tryz.func108 rfl ?_
 unfold dQ at h
 refine za [0] ?_
 refine aI ?_
 refine zx fun _ => ?_
 refine zk 4 ?_
 refine zE (F0 p0) ?_
 refine zE (.c (I (ByteArray.size p0 : Int))) ?_
 refine zE (.c (Bo (decide ((ByteArray.size p0 : Int) > 24)))) ?_
 refine zP (.bool ((decide ((ByteArray.size p0 : Int) < 1)) || (decide ((ByteArray.size p0 : Int) > 24)))) ?_
 refine zk 1 ?_
 refine zE (F0 p0) ?_
 obtain ⟨u1, he, h⟩ := aC h
 refine jZ (e := [(!((decide ((ByteArray.size p0 : Int) < 1)) || (decide ((ByteArray.size p0 : Int) > 24))))]) [(13, F0 p0, some 1)] (v := .c (U8 u1)) (foot := []) (by kernel_rfl) (by kernel_rfl) (by kernel_rfl) (fun hg => wW (s := p0) (ix := 0) (bR he hg) (by kernel_rfl)) rfl rfl ?_
 clear he
 obtain ⟨y2, he, h⟩ := aC h
 refine An [(!((decide ((ByteArray.size p0 : Int) < 1)) || (decide ((ByteArray.size p0 : Int) > 24))))] Vx (fun hg => uL n _ y2 (bR he hg)) ?_
 clear he
 refine zE (B3 (!y2)) ?_
 refine zP (.bool (((decide ((ByteArray.size p0 : Int) < 1)) || (decide ((ByteArray.size p0 : Int) > 24))) || (!y2))) ?_
 refine jY [0, 17] (L2 := [(0, F0 p0), (17, .c (Bo (((decide ((ByteArray.size p0 : Int) < 1)) || (decide ((ByteArray.size p0 : Int) > 24))) || (!y2))))]) (G2 := []) 15 ?_
 refine zi h (fun h => ?_) fun h => ?_
 refine za [2] ?_
 cases h
 exact aD zr
 refine aB ?_
 refine aQ h (fun A j => ∀ u, j u = some r → A (N7)) (fun u h => ?_) (fun j3 Aj3 hj3 h => ?_)
 refine za [2] ?_
 cases h
 exact aD zr
 refine za [0, 3] ?_
 refine aG ?_
 refine bA (fun n s => ∃ v10, gO p0 j3 n v10 = some r ∧ s = mk [(0, F0 p0), A6 3 v10] [] 0) n _ (zv [] [0, 3] 0) ⟨_, h, rfl⟩ (fun s ⟨v10, h, _⟩ => nomatch h) ?_
 rintro n s ⟨v10, h, rfl⟩
 rw [gO] at h
 refine aI ?_
 refine za [0, 3, 21] ?_
 refine zi h (fun h => ?_) fun h => ?_
 refine aB ?_
 refine aI ?_
 refine aG ?_
 refine zx fun _ => ?_
 refine zk 2 ?_
 obtain ⟨u11, he, h⟩ := aC h
 refine zs he ?_
 clear he
 obtain ⟨y12, he, h⟩ := aC h
 refine zc Vx (uL n _ y12 he) ?_
 clear he
 refine zk 2 ?_
 refine zE (F0 p0) ?_
 refine zE (B7 v10) ?_
 obtain ⟨u13, he, h⟩ := aC h
 refine jZ (e := [!y12]) [(30, F0 p0, some 1), (31, B7 v10, some 1)] (v := .c (U8 u13)) (foot := []) (by kernel_rfl) (by kernel_rfl) (by kernel_rfl) (fun hg => wW (s := p0) (ix := v10) (bR he hg) (by kernel_rfl)) rfl rfl ?_
 clear he
 refine zE (H9 u13 48) ?_
 refine zF [!y12] (H9 u13 48) ?_
 refine zE (F0 p0) ?_
 refine zE (B7 v10) ?_
 obtain ⟨u14, he, h⟩ := aC h
 refine jZ (e := [!y12, !(C1 u13 48)]) [(35, F0 p0, some 2), (36, B7 v10, some 2)] (v := .c (U8 u14)) (foot := []) (by kernel_rfl) (by kernel_rfl) (by kernel_rfl) (fun hg => wW (s := p0) (ix := v10) (bR he hg) (by kernel_rfl)) rfl rfl ?_
 clear he
 refine zE (J5 u14 57) ?_
 refine zP (.bool ((C1 u13 48) || (D5 u14 57))) ?_
 refine zP (.bool ((!y12) && ((C1 u13 48) || (D5 u14 57)))) ?_
 refine zk 1 ?_
 refine zE (F0 p0) ?_
 refine zE (B7 v10) ?_
 obtain ⟨u15, he, h⟩ := aC h
 refine jZ (e := [(!y12) && ((C1 u13 48) || (D5 u14 57))]) [(42, F0 p0, some 1), (43, B7 v10, some 1)] (v := .c (U8 u15)) (foot := []) (by kernel_rfl) (by kernel_rfl) (by kernel_rfl) (fun hg => wW (s := p0) (ix := v10) (bR he hg) (by kernel_rfl)) rfl rfl ?_
 clear he
 refine zE (B3 (u15 != 45)) ?_
 refine zP (.bool (((!y12) && ((C1 u13 48) || (D5 u14 57))) && (u15 != 45))) ?_
 refine Wp 1 (L' := [(0, F0 p0), A6 3 v10, (21, .c (Bo (decide (v10 < (ByteArray.size p0 : Int))))), (24, F0 p0), A6 25 v10, (26, I9 u11), J3 27 y12, (28, B3 (!y12)), (29, B3 (!y12)), (30, .cnd [!y12] (F0 p0)), (31, .cnd [!y12] (B7 v10)), (32, .cnd [!y12] (I9 u13)), (33, .cnd [!y12] (H9 u13 48)), (34, .cnd [!y12] (H9 u13 48)), (35, .cnd [!y12, !(C1 u13 48)] (F0 p0)), (36, .cnd [!y12, !(C1 u13 48)] (B7 v10)), (37, .cnd [!y12, !(C1 u13 48)] (I9 u14)), (38, .cnd [!y12, !(C1 u13 48)] (J5 u14 57)), (39, .cnd [!y12] (B3 ((C1 u13 48) || (D5 u14 57)))), (40, B3 ((!y12) && ((C1 u13 48) || (D5 u14 57)))), (41, B3 ((!y12) && ((C1 u13 48) || (D5 u14 57)))), (42, .cnd [(!y12) && ((C1 u13 48) || (D5 u14 57))] (F0 p0)), (43, .cnd [(!y12) && ((C1 u13 48) || (D5 u14 57))] (B7 v10)), (44, .cnd [(!y12) && ((C1 u13 48) || (D5 u14 57))] (I9 u15)), (45, .cnd [(!y12) && ((C1 u13 48) || (D5 u14 57))] (B3 (u15 != 45))), (46, B3 (((!y12) && ((C1 u13 48) || (D5 u14 57))) && (u15 != 45))), (47, B3 (((!y12) && ((C1 u13 48) || (D5 u14 57))) && (u15 != 45)))]) (G' := []) (X' := []) ?_
 refine zE (F0 p0) ?_
 refine zE (B7 v10) ?_
 obtain ⟨u16, he, h⟩ := aC h
 refine jZ (e := [((!y12) && ((C1 u13 48) || (D5 u14 57))) && (u15 != 45)]) [(48, F0 p0, some 1), (49, B7 v10, some 1)] (v := .c (U8 u16)) (foot := []) (by kernel_rfl) (by kernel_rfl) (by kernel_rfl) (fun hg => wW (s := p0) (ix := v10) (bR he hg) (by kernel_rfl)) rfl rfl ?_
 clear he
 refine zE (B3 (u16 != 95)) ?_
 refine zP (.bool ((((!y12) && ((C1 u13 48) || (D5 u14 57))) && (u15 != 45)) && (u16 != 95))) ?_
 refine ze [0, 3, 52] ?_
 refine zi h (fun h => ?_) fun h => ?_
 refine za [2] ?_
 cases h
 exact aD zr
 refine aB ?_
 refine aW ?_
 refine zb ?_
 exact dF (zv [] [0, 3] 0) (⟨_, h, rfl⟩)
 exact aH (zv [] [] 0) (bG (hj3 _ h))
def qP  (n : Nat) (p0 : ByteArray) : Option Bool := (Al p0).bind fun (l1 : List Int) => some (bQ (runesBytes l1) p0)
theorem Hn  (n : Nat) (p0 : ByteArray) (r : Bool) (h : qP n p0 = some r) : cW E 145 0 [F0 p0] [] (B3 r) [] := by
 refine eV Tryz.func145 rfl ?_
 unfold qP at h
 refine za [0] ?_
 refine zx fun _ => ?_
 refine zk 1 ?_
 obtain ⟨l1, he, h⟩ := aC h
 refine rx_O (v := .c (.lit (List.map oI l1))) (foot := []) (Jn (s := p0) he (by kernel_rfl)) (by kernel_rfl) rfl rfl ?_
 clear he
 refine zw (v := .c (Sx (runesBytes l1))) [] (rX (ns := l1) (by kernel_rfl)) ?_
 refine zk 3 ?_
 refine ze [2] ?_
 cases h
 exact aD zr
end Go.Proofs.YtojkihhnioeggaaGreatDoor.S
