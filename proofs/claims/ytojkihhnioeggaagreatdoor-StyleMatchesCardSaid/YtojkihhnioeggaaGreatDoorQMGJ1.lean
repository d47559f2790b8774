import Derived.Test.YtojkihhnioeggaaGreatDoorQMGJ0
set_option linter.unusedVariables false
set_option linter.unusedSimpArgs false
set_option maxRecDepth 100000
set_option maxHeartbeats 4000000
namespace Go.Proofs.YtojkihhnioeggaaGreatDoor.S
open Go Go.Bm
def kQ (y1 : (Int × aP)) (j3 : List Int → List Int → Int → Option (ByteArray × aP)) : Nat → Int → List Int → Int → List Int → Option (ByteArray × aP)
 | 0, _, _, _, _ => none
 | n + 1, v7, v8, v9, v10 => (if (decide (v7 < y1.1)) = true then (cH n (aP.mk v8 v9) 4).bind fun (y11 : (Int × aP)) => (oE v7 (List.length v10)).bind fun (k12 : Nat) => (v10[k12]?).bind fun (e13 : Int) => kQ y1 j3 n (IntKind.wrap .i64 (v7 + 1)) y11.2.L y11.2.At (List.set v10 k12 (IntKind.wrap .u8 (IntKind.wrap .i64 (97 + y11.1)))) else j3 v10 v8 v9)
def qY  (n : Nat) (p0 : aP) (p1 : Int) : Option (ByteArray × aP) := (cH n p0 (IntKind.wrap .i64 (p1 + 1))).bind fun (y1 : (Int × aP)) => (Zs 1 y1.1).bind fun (k2 : Nat) => (aV (fun (v18 : List Int) (v19 : List Int) (v20 : Int) => some ((cX v18), (aP.mk v19 v20))) (fun (j3 : List Int → List Int → Int → Option (ByteArray × aP)) => kQ y1 j3 n 0 y1.2.L y1.2.At (List.replicate k2 (0 : Int))))
theorem Ab  (n : Nat) (p0 : aP) (p1 : Int) (r : (ByteArray × aP)) (h : qY n p0 p1 = some r) : cN E 121 1 [.c (.ptr 0 0), .c (I p1)] [(0, .blk 78 [.lit (List.map aJ p0.L), I p0.At])] (.c (Sx r.1)) [(0, .blk 78 [.lit (List.map aJ r.2.L), I r.2.At])] := by
 refine fW Tryz.func121 rfl ?_
 unfold qY at h
 refine za [0, 1] ?_
 refine zx fun _ => ?_
 refine zk 3 ?_
 obtain ⟨y1, he, h⟩ := aB h
 refine zo [(0, 0)] cL (bH n _ _ y1 he) ?_
 clear he
 refine zk 1 ?_
 refine ze [0, 5] ?_
 refine zx fun _ => ?_
 refine zk 1 ?_
 obtain ⟨k2, he, h⟩ := aB h
 refine Uw (enc := Qo) (e := 5) (sz := 1) (bytes := 1) (nm := 8) (q := k2) (l := y1.1) (0 : Int) he (by kernel_rfl) (by kernel_rfl) (by kernel_rfl) rfl rfl rfl ?_
 clear he
 refine zk 1 ?_
 refine ze [0, 5, 6] ?_
 refine aQ h (fun A j => ∀ v18 v19 v20, j v18 v19 v20 = some r → A (mk [(6, .c (.row 1))] [(0, .blk 78 [.lit (List.map aJ v19), I v20]), (1, .vec 5 1 (List.map Qo v18))] 2)) (fun v18 v19 v20 h => ?_) (fun j3 Aj3 hj3 h => ?_)
 refine aI (yF 1 (T := 5) (sz := 1) (l := List.map Qo v18) (L2 := [(6, .c (.lit (List.map Qo v18)))]) (G2 := [(0, .blk 78 [.lit (List.map aJ v19), I v20])]) (by kernel_rfl) (by kernel_rfl) (by kernel_rfl)) ?_
 refine zx fun _ => ?_
 refine zk 1 ?_
 refine zw (v := .c (Sx (cX v18))) [] (lO (ns := v18) (by kernel_rfl)) ?_
 refine zk 1 ?_
 refine ze [4] ?_
 cases h
 exact aG zr
 refine za [0, 5, 6, 7] ?_
 refine aF ?_
 refine bA (fun n s => ∃ v7 v8 v9 v10, kQ y1 j3 n v7 v8 v9 v10 = some r ∧ s = mk [(0, .c (.ptr 0 0)), (5, .c (I y1.1)), (6, .c (.row 1)), (7, .c (I v7))] [(0, .blk 78 [.lit (List.map aJ v8), I v9]), (1, .vec 5 1 (List.map Qo v10))] 2) n _ (zv [(0, 0), (8, 1)] [0, 5, 6, 7] 2) ⟨_, _, _, _, h, rfl⟩ (fun s ⟨v7, v8, v9, v10, h, _⟩ => nomatch h) ?_
 rintro n s ⟨v7, v8, v9, v10, h, rfl⟩
 rw [kQ] at h
 refine aK ?_
 refine za [0, 5, 6, 7, 16] ?_
 refine zi h (fun h => ?_) fun h => ?_
 refine aC ?_
 refine aK ?_
 refine aF ?_
 refine zy fun _ => ?_
 refine zk 3 ?_
 obtain ⟨y11, he, h⟩ := aB h
 refine zo [(0, 0)] cL (bH n _ _ y11 he) ?_
 clear he
 refine zk 2 ?_
 obtain ⟨k12, he, h⟩ := aB h
 refine cF (v := .c (.ptr 1 (k12 * 1))) (foot := [1]) (dD (enc := Qo) (l := v10) (n := 1) (sz := 1) (k := k12) (ix := v7) he (by kernel_rfl)) (by kernel_rfl) rfl rfl ?_
 have hb_k12 := dP he; clear he
 obtain ⟨e13, he, h⟩ := aB h
 refine kC (enc := Qo) (n := 1) (q := k12) (f := 0) (sz := 1) (T0 := 5) (lp := [U8 (IntKind.wrap .u8 (IntKind.wrap .i64 (97 + y11.1)))]) (l := v10) (e := e13) (e2 := (IntKind.wrap .u8 (IntKind.wrap .i64 (97 + y11.1)))) he (by kernel_rfl) (by simp only [List.length_cons, List.length_nil]; omega) (by kernel_rfl) (by kernel_rfl) rfl rfl ?_
 clear he
 refine bL ?_
 refine aT ?_
 refine zb ?_
 exact dI (zv [(0, 0), (1, 1)] [0, 5, 6, 7] 2) (⟨_, _, _, _, h, rfl⟩)
 exact aI (zv [(0, 0), (1, 1)] [6] 2) (bD (hj3 _ _ _ h))
def qL (p1 : aH) (self_Src_Like : aP → aH → Option (aH × aP)) (j4 : List aH → List Int → Int → Option (aH × aP)) : Nat → Int → List Int → Int → List aH → Option (aH × aP)
 | 0, _, _, _, _ => none
 | n + 1, v18, v19, v20, v21 => (if (decide (v18 < (List.length p1.L : Int))) = true then (aV (fun (v27 : List Int) (v28 : Int) (v29 : List aH) => qL p1 self_Src_Like j4 n (IntKind.wrap .i64 (v18 + 1)) v27 v28 v29) (fun (j22 : List Int → Int → List aH → Option (aH × aP)) => (cH n (aP.mk v19 v20) 3).bind fun (y23 : (Int × aP)) => (if (decide (y23.1 > 0)) = true then (idx p1.L v18).bind fun (e24 : aH) => (self_Src_Like y23.2 e24).bind fun (y25 : (aH × aP)) => (pE 56 v21 [y25.1]).bind fun (l26 : List aH) => j22 y25.2.L y25.2.At l26 else j22 y23.2.L y23.2.At v21))) else j4 v21 v19 v20)
def qV (self_Src_Like : aP → aH → Option (aH × aP)) (n : Nat) (p0 : aP) (p1 : aH) : Option (aH × aP) := (if (p1.Kind == 1) = true then (mE n p0 (-3 : Int) 9).bind fun (y1 : (Int × aP)) => some ((aH.mk 1 y1.1 (⟨#[]⟩ : ByteArray) ([] : List aH)), y1.2) else (if (p1.Kind == 2) = true then (cH n p0 2).bind fun (y2 : (Int × aP)) => some ((aH.mk 2 y2.1 (⟨#[]⟩ : ByteArray) ([] : List aH)), y2.2) else (if (p1.Kind == 3) = true then (qY n p0 4).bind fun (y3 : (ByteArray × aP)) => some ((aH.mk 3 0 y3.1 ([] : List aH)), y3.2) else (aV (fun (v37 : List aH) (v38 : List Int) (v39 : Int) => some ((aH.mk 4 0 (⟨#[]⟩ : ByteArray) v37), (aP.mk v38 v39))) (fun (j4 : List aH → List Int → Int → Option (aH × aP)) => qL p1 self_Src_Like j4 n 0 p0.L p0.At ([] : List aH))))))
theorem yT (self_Src_Like : aP → aH → Option (aH × aP)) (ih_Src_Like : ∀ (p0 : aP) (p1 : aH) (r : (aH × aP)), self_Src_Like p0 p1 = some r → cN E 122 1 [.c (.ptr 0 0), .agg [I p1.Kind, I p1.N, Sx p1.S, .lit (List.map aO p1.L)]] [(0, .blk 78 [.lit (List.map aJ p0.L), I p0.At])] (.agg [I r.1.Kind, I r.1.N, Sx r.1.S, .lit (List.map aO r.1.L)]) [(0, .blk 78 [.lit (List.map aJ r.2.L), I r.2.At])]) (n : Nat) (p0 : aP) (p1 : aH) (r : (aH × aP)) (h : qV self_Src_Like n p0 p1 = some r) : cN E 122 1 [.c (.ptr 0 0), .agg [I p1.Kind, I p1.N, Sx p1.S, .lit (List.map aO p1.L)]] [(0, .blk 78 [.lit (List.map aJ p0.L), I p0.At])] (.agg [I r.1.Kind, I r.1.N, Sx r.1.S, .lit (List.map aO r.1.L)]) [(0, .blk 78 [.lit (List.map aJ r.2.L), I r.2.At])] := by
 refine fW Tryz.func122 rfl ?_
 unfold qV at h
 refine za [0, 3, 4] ?_
 refine aK ?_
 refine za [0, 3, 4, 8] ?_
 refine aF ?_
 refine za [0, 3, 4, 8, 9] ?_
 refine zi h (fun h => ?_) fun h => ?_
 refine zx fun _ => ?_
 refine zk 1 ?_
 obtain ⟨y1, he, h⟩ := aB h
 refine zo [(0, 0)] Nn (oS n _ _ _ y1 he) ?_
 clear he
 refine zk 2 ?_
 refine ze [4] ?_
 cases h
 exact aG zr
 refine za [0, 3, 4, 8, 14] ?_
 refine zi h (fun h => ?_) fun h => ?_
 refine zx fun _ => ?_
 refine zk 1 ?_
 obtain ⟨y2, he, h⟩ := aB h
 refine zo [(0, 0)] cL (bH n _ _ y2 he) ?_
 clear he
 refine zk 2 ?_
 refine ze [4] ?_
 cases h
 exact aG zr
 refine za [0, 3, 4, 19] ?_
 refine zi h (fun h => ?_) fun h => ?_
 refine zx fun _ => ?_
 refine zk 1 ?_
 obtain ⟨y3, he, h⟩ := aB h
 refine zo [(0, 0)] Tu (Ab n _ _ y3 he) ?_
 clear he
 refine zk 2 ?_
 refine ze [4] ?_
 cases h
 exact aG zr
 refine aC ?_
 refine za [0, 3, 4, 5] ?_
 refine aQ h (fun A j => ∀ v37 v38 v39, j v37 v38 v39 = some r → A (mk [(4, .c (.ptr 1 0)), (5, .c (.ptr 2 0))] [(0, .blk 78 [.lit (List.map aJ v38), I v39]), (1, .blk 152 [I 0, I 0, Sx (⟨#[]⟩ : ByteArray), bY]), (2, .blk 152 [I 4, I 0, Sx (⟨#[]⟩ : ByteArray), .app 3 (List.map aO v37)]), (3, .tok 152 4 (List.length v37))] 4)) (fun v37 v38 v39 h => ?_) (fun j4 Aj4 hj4 h => ?_)
 refine za [4] ?_
 cases h
 exact aG zr
 refine za [0, 3, 4, 5, 6] ?_
 refine aF ?_
 refine bA (fun n s => ∃ v18 v19 v20 v21, qL p1 self_Src_Like j4 n v18 v19 v20 v21 = some r ∧ s = mk [(0, .c (.ptr 0 0)), (3, .c (.ptr 1 0)), (4, .c (.ptr 2 0)), (5, .c (.ptr 3 0)), (6, .c (I v18))] [(0, .blk 78 [.lit (List.map aJ v19), I v20]), (1, .blk 152 [I p1.Kind, I p1.N, Sx p1.S, .lit (List.map aO p1.L)]), (2, .blk 152 [I 0, I 0, Sx (⟨#[]⟩ : ByteArray), bY]), (3, .blk 152 [I 4, I 0, Sx (⟨#[]⟩ : ByteArray), .app 4 (List.map aO v21)]), (4, .tok 152 4 (List.length v21))] 5) n _ (dU.trans (lB (n := 12) (T0 := 152) (l := [I 4, I 0, Sx (⟨#[]⟩ : ByteArray), bY]) (G2 := [(0, .blk 78 [.lit (List.map aJ p0.L), I p0.At]), (1, .blk 152 [I p1.Kind, I p1.N, Sx p1.S, .lit (List.map aO p1.L)]), (2, .blk 152 [I 0, I 0, Sx (⟨#[]⟩ : ByteArray), bY]), (12, .blk 152 [I 4, I 0, Sx (⟨#[]⟩ : ByteArray), .app 15 (List.map aO ([] : List aH))]), (15, .tok 152 4 (List.length ([] : List aH)))]) (lim2 := 16) 3 152 4 (by kernel_rfl) (by kernel_rfl) (by kernel_rfl) (by kernel_rfl)) (zv [(0, 0), (1, 1), (2, 2), (12, 3), (15, 4)] [0, 3, 4, 5, 6] 5)) ⟨_, _, _, _, h, rfl⟩ (fun s ⟨v18, v19, v20, v21, h, _⟩ => nomatch h) ?_
 rintro n s ⟨v18, v19, v20, v21, h, rfl⟩
 rw [qL] at h
 refine aK ?_
 refine zx fun _ => ?_
 refine zk 3 ?_
 refine zl aO p1.L ?_
 refine zk 1 ?_
 refine ze [0, 3, 4, 5, 6, 29] ?_
 refine zi h (fun h => ?_) fun h => ?_
 refine aC ?_
 refine aQ h (fun A j => ∀ v27 v28 v29, j v27 v28 v29 = some r → A (mk [(0, .c (.ptr 0 0)), (3, .c (.ptr 1 0)), (4, .c (.ptr 2 0)), (5, .c (.ptr 3 0)), (6, .c (I v18))] [(0, .blk 78 [.lit (List.map aJ v27), I v28]), (1, .blk 152 [I p1.Kind, I p1.N, Sx p1.S, .lit (List.map aO p1.L)]), (2, .blk 152 [I 0, I 0, Sx (⟨#[]⟩ : ByteArray), bY]), (3, .blk 152 [I 4, I 0, Sx (⟨#[]⟩ : ByteArray), .app 4 (List.map aO v29)]), (4, .tok 152 4 (List.length v29))] 5)) (fun v27 v28 v29 h => ?_) (fun j22 Aj22 hj22 h => ?_)
 refine aT ?_
 refine zb ?_
 exact dI (zv [(0, 0), (1, 1), (2, 2), (3, 3), (4, 4)] [0, 3, 4, 5, 6] 5) (⟨_, _, _, _, h, rfl⟩)
 refine aF ?_
 refine zx fun _ => ?_
 refine zk 1 ?_
 obtain ⟨y23, he, h⟩ := aB h
 refine zo [(0, 0)] cL (bH n _ _ y23 he) ?_
 clear he
 refine zk 1 ?_
 refine ze [0, 3, 4, 5, 6, 34] ?_
 refine zi h (fun h => ?_) fun h => ?_
 refine aT ?_
 refine Lh [[], [0], [], [], [3], [], [4, 5, 3], [6, 4, 5, 3], [2, 7, 6, 4, 5, 3], [8, 2, 7, 6, 4, 5, 3], [1, 9, 8, 0, 2, 7, 6, 4, 5, 3], [0, 1, 2, 3, 4, 5, 6, 7, 8, 9, 10], [11, 10, 0, 1, 2, 3, 4, 5, 6, 7, 8, 9]] fun _ => ?_
 refine zk 6 ?_
 obtain ⟨e24, he, h⟩ := aB h
 refine cF (v := .c (.imm [I e24.Kind, I e24.N, Sx e24.S, .lit (List.map aO e24.L)])) (foot := []) (dR (enc := aO) (sz := 4) (l := p1.L) (ix := v18) he (by kernel_rfl) (dO e24) (by kernel_rfl)) (by kernel_rfl) rfl rfl ?_
 clear he
 refine zk 1 ?_
 obtain ⟨y25, he, h⟩ := aB h
 refine zo [(0, 0)] Qw (ih_Src_Like _ _ y25 he) ?_
 clear he
 refine pO (e := 152) (sz := 4) (len := 1) (r := [I y25.1.Kind, I y25.1.N, Sx y25.1.S, .lit (List.map aO y25.1.L)]) (l' := List.map aO [y25.1]) (nm := 22) (by kernel_rfl) (by simp only [List.map_cons, List.map_nil, dO]; kernel_rfl) (by kernel_rfl) (by kernel_rfl) rfl rfl rfl ?_
 obtain ⟨l26, he, h⟩ := aB h
 refine cB (enc := aO) (l := v21) (els := [y25.1]) (r := l26) (old := some 4) (e := 152) (sz := 4) (bytes := 56) (k := (List.length v21)) (nm := 23) he (by kernel_rfl) (by kernel_rfl) (fun x => by rw [dO]; rfl) (by kernel_rfl) (by kernel_rfl) rfl rfl rfl ?_
 clear he
 refine zk 2 ?_
 refine bL ?_
 exact dI (zv [(0, 0), (1, 1), (2, 2), (3, 3), (23, 4)] [0, 3, 4, 5, 6] 5) (hj22 _ _ _ h)
 exact aI (zv [(0, 0), (1, 1), (2, 2), (3, 3), (4, 4)] [0, 3, 4, 5, 6] 5) (aC (hj22 _ _ _ h))
 exact aI (zv [(0, 0), (2, 1), (3, 2), (4, 3)] [4, 5] 4) (bD (hj4 _ _ _ h))
def uU : Nat → aP → aH → Option (aH × aP)
 | 0, _, _ => none
 | n + 1, p0, p1 => qV (fun a0 a1 => uU n a0 a1) n p0 p1
theorem Jv (n : Nat) : (∀ (p0 : aP) (p1 : aH) (r : (aH × aP)), uU n p0 p1 = some r → cN E 122 1 [.c (.ptr 0 0), .agg [I p1.Kind, I p1.N, Sx p1.S, .lit (List.map aO p1.L)]] [(0, .blk 78 [.lit (List.map aJ p0.L), I p0.At])] (.agg [I r.1.Kind, I r.1.N, Sx r.1.S, .lit (List.map aO r.1.L)]) [(0, .blk 78 [.lit (List.map aJ r.2.L), I r.2.At])]) := by
 induction n with
 | zero => intro p0 p1 r h; rw [uU] at h; cases h
 | succ n ih => intro p0 p1 r h; rw [uU] at h; exact yT _ ih n _ _ r h
def oQ (y8 : (Int × aP)) (y9 : (aH × aP)) (j7 : List aH → List Int → Int → Option (aH × aP)) : Nat → Int → List Int → Int → List aH → Option (aH × aP)
 | 0, _, _, _, _ => none
 | n + 1, v13, v14, v15, v16 => (if (decide (v13 < y8.1)) = true then (uU n (aP.mk v14 v15) y9.1).bind fun (y17 : (aH × aP)) => (pE 56 v16 [y17.1]).bind fun (l18 : List aH) => oQ y8 y9 j7 n (IntKind.wrap .i64 (v13 + 1)) y17.2.L y17.2.At l18 else j7 v16 v14 v15)
def nE (self_Src_Value : aP → Int → Option (aH × aP)) (n : Nat) (p0 : aP) (p1 : Int) : Option (aH × aP) := (aV (fun (v26 : List Int) (v27 : Int) => (cH n (aP.mk v26 v27) (List.length [0, 1, 2, 3, (-1 : Int), 7, 10, 1099511627776, (-1099511627776 : Int), 1099511627775] : Int)).bind fun (y28 : (Int × aP)) => (idx [0, 1, 2, 3, (-1 : Int), 7, 10, 1099511627776, (-1099511627776 : Int), 1099511627775] y28.1).bind fun (e29 : Int) => some ((aH.mk 1 e29 (⟨#[]⟩ : ByteArray) ([] : List aH)), y28.2)) (fun (j1 : List Int → Int → Option (aH × aP)) => (cH n p0 5).bind fun (y2 : (Int × aP)) => (if (y2.1 == 0) = true then (cH n y2.2 2).bind fun (y3 : (Int × aP)) => some ((aH.mk 2 y3.1 (⟨#[]⟩ : ByteArray) ([] : List aH)), y3.2) else (aV (fun (v5 : Bool) => (if v5 = true then (qY n y2.2 4).bind fun (y6 : (ByteArray × aP)) => some ((aH.mk 3 0 y6.1 ([] : List aH)), y6.2) else (if (y2.1 == 3) = true then (if (decide (p1 > 0)) = true then (aV (fun (v23 : List aH) (v24 : List Int) (v25 : Int) => some ((aH.mk 4 0 (⟨#[]⟩ : ByteArray) v23), (aP.mk v24 v25))) (fun (j7 : List aH → List Int → Int → Option (aH × aP)) => (cH n y2.2 4).bind fun (y8 : (Int × aP)) => (if (decide (y8.1 > 0)) = true then (self_Src_Value y8.2 (IntKind.wrap .i64 (p1 - 1))).bind fun (y9 : (aH × aP)) => (pE 56 ([] : List aH) [y9.1]).bind fun (l10 : List aH) => oQ y8 y9 j7 n 1 y9.2.L y9.2.At l10 else j7 ([] : List aH) y8.2.L y8.2.At))) else j1 y2.2.L y2.2.At) else j1 y2.2.L y2.2.At))) (fun (j4 : Bool → Option (aH × aP)) => (if (y2.1 == 1) = true then j4 (y2.1 == 1) else j4 (y2.1 == 2)))))))
theorem xA (self_Src_Value : aP → Int → Option (aH × aP)) (ih_Src_Value : ∀ (p0 : aP) (p1 : Int) (r : (aH × aP)), self_Src_Value p0 p1 = some r → cN E 97 1 [.c (.ptr 0 0), .c (I p1)] [(0, .blk 78 [.lit (List.map aJ p0.L), I p0.At])] (.agg [I r.1.Kind, I r.1.N, Sx r.1.S, .lit (List.map aO r.1.L)]) [(0, .blk 78 [.lit (List.map aJ r.2.L), I r.2.At])]) (n : Nat) (p0 : aP) (p1 : Int) (r : (aH × aP)) (h : nE self_Src_Value n p0 p1 = some r) : cN E 97 1 [.c (.ptr 0 0), .c (I p1)] [(0, .blk 78 [.lit (List.map aJ p0.L), I p0.At])] (.agg [I r.1.Kind, I r.1.N, Sx r.1.S, .lit (List.map aO r.1.L)]) [(0, .blk 78 [.lit (List.map aJ r.2.L), I r.2.At])] := by
 refine fW Tryz.func97 rfl ?_
 unfold nE at h
 refine za [0, 1, 4] ?_
 refine aQ h (fun A j => ∀ v26 v27, j v26 v27 = some r → A (mk [(0, .c (.ptr 0 0)), (4, .c (.ptr 1 0))] [(0, .blk 78 [.lit (List.map aJ v26), I v27]), (1, .blk 152 [I 0, I 0, Sx (⟨#[]⟩ : ByteArray), bY])] 2)) (fun v26 v27 h => ?_) (fun j1 Aj1 hj1 h => ?_)
 refine za [0, 4, 9] ?_
 refine zx fun _ => ?_
 refine zk 3 ?_
 refine zl aJ [0, 1, 2, 3, (-1 : Int), 7, 10, 1099511627776, (-1099511627776 : Int), 1099511627775] ?_
 obtain ⟨y28, he, h⟩ := aB h
 refine zo [(0, 0)] cL (bH n _ _ y28 he) ?_
 clear he
 obtain ⟨e29, he, h⟩ := aB h
 refine zd aJ he ?_
 clear he
 refine zk 3 ?_
 refine ze [4] ?_
 cases h
 exact aG zr
 refine zx fun _ => ?_
 refine zk 1 ?_
 obtain ⟨y2, he, h⟩ := aB h
 refine zo [(0, 0)] cL (bH n _ _ y2 he) ?_
 clear he
 refine ze [0, 1, 4, 11] ?_
 refine aF ?_
 refine za [0, 1, 4, 11, 12] ?_
 refine zi h (fun h => ?_) fun h => ?_
 refine zx fun _ => ?_
 refine zk 1 ?_
 obtain ⟨y3, he, h⟩ := aB h
 refine zo [(0, 0)] cL (bH n _ _ y3 he) ?_
 clear he
 refine zk 2 ?_
 refine ze [4] ?_
 cases h
 exact aG zr
 refine aQ h (fun A j => ∀ v5, j v5 = some r → A (mk [(0, .c (.ptr 0 0)), (1, .c (I p1)), (4, .c (.ptr 1 0)), (11, .c (I y2.1)), (17, .c (Bo v5))] [(0, .blk 78 [.lit (List.map aJ y2.2.L), I y2.2.At]), (1, .blk 152 [I 0, I 0, Sx (⟨#[]⟩ : ByteArray), bY])] 2)) (fun v5 h => ?_) (fun j4 Aj4 hj4 h => ?_)
 refine zi h (fun h => ?_) fun h => ?_
 refine zx fun _ => ?_
 refine zk 1 ?_
 obtain ⟨y6, he, h⟩ := aB h
 refine zo [(0, 0)] Tu (Ab n _ _ y6 he) ?_
 clear he
 refine zk 2 ?_
 refine ze [4] ?_
 cases h
 exact aG zr
 refine za [0, 1, 4, 23] ?_
 refine zi h (fun h => ?_) fun h => ?_
 refine za [0, 1, 4, 26] ?_
 refine zi h (fun h => ?_) fun h => ?_
 refine za [0, 1, 4, 5] ?_
 refine aQ h (fun A j => ∀ v23 v24 v25, j v23 v24 v25 = some r → A (mk [(4, .c (.ptr 1 0)), (5, .c (.ptr 2 0))] [(0, .blk 78 [.lit (List.map aJ v24), I v25]), (1, .blk 152 [I 0, I 0, Sx (⟨#[]⟩ : ByteArray), bY]), (2, .blk 152 [I 4, I 0, Sx (⟨#[]⟩ : ByteArray), .app 3 (List.map aO v23)]), (3, .tok 152 4 (List.length v23))] 4)) (fun v23 v24 v25 h => ?_) (fun j7 Aj7 hj7 h => ?_)
 refine za [4] ?_
 cases h
 exact aG zr
 refine zx fun _ => ?_
 refine zk 1 ?_
 obtain ⟨y8, he, h⟩ := aB h
 refine zo [(0, 0)] cL (bH n _ _ y8 he) ?_
 clear he
 refine zk 1 ?_
 refine ze [0, 1, 4, 5, 6] ?_
 refine za [0, 1, 4, 5, 6, 31] ?_
 refine zi h (fun h => ?_) fun h => ?_
 refine zx fun _ => ?_
 refine zk 3 ?_
 obtain ⟨y9, he, h⟩ := aB h
 refine zo [(0, 0)] Wy (ih_Src_Value _ _ y9 he) ?_
 clear he
 refine zk 2 ?_
 refine jV [0, 4, 5, 6, 7] (L2 := [(0, .c (.ptr 0 0)), (4, .c (.ptr 1 0)), (5, .c (.ptr 7 0)), (6, .c (I y8.1)), (7, .c (.ptr 18 0))]) (G2 := [(0, .blk 78 [.lit (List.map aJ y9.2.L), I y9.2.At]), (1, .blk 152 [I 0, I 0, Sx (⟨#[]⟩ : ByteArray), bY]), (7, .blk 152 [I 4, I 0, Sx (⟨#[]⟩ : ByteArray), bY]), (18, .blk 152 [I y9.1.Kind, I y9.1.N, Sx y9.1.S, .lit (List.map aO y9.1.L)])]) 20 ?_
 refine zx fun _ => ?_
 refine zk 3 ?_
 refine pO (e := 152) (sz := 4) (len := 1) (r := [I y9.1.Kind, I y9.1.N, Sx y9.1.S, .lit (List.map aO y9.1.L)]) (l' := List.map aO [y9.1]) (nm := 23) (by kernel_rfl) (by simp only [List.map_cons, List.map_nil, dO]; kernel_rfl) (by kernel_rfl) (by kernel_rfl) rfl rfl rfl ?_
 obtain ⟨l10, he, h⟩ := aB h
 refine cB (enc := aO) (l := ([] : List aH)) (els := [y9.1]) (r := l10) (old := none) (e := 152) (sz := 4) (bytes := 56) (k := 0) (nm := 24) he (by kernel_rfl) (by kernel_rfl) (fun x => by rw [dO]; rfl) (by kernel_rfl) (by kernel_rfl) rfl rfl rfl ?_
 clear he
 refine zk 2 ?_
 refine ze [0, 4, 5, 6, 7] ?_
 refine za [0, 4, 5, 6, 7, 8] ?_
 refine aF ?_
 refine bA (fun n s => ∃ v13 v14 v15 v16, oQ y8 y9 j7 n v13 v14 v15 v16 = some r ∧ s = mk [(0, .c (.ptr 0 0)), (4, .c (.ptr 1 0)), (5, .c (.ptr 2 0)), (6, .c (I y8.1)), (7, .c (.ptr 3 0)), (8, .c (I v13))] [(0, .blk 78 [.lit (List.map aJ v14), I v15]), (1, .blk 152 [I 0, I 0, Sx (⟨#[]⟩ : ByteArray), bY]), (2, .blk 152 [I 4, I 0, Sx (⟨#[]⟩ : ByteArray), .app 4 (List.map aO v16)]), (3, .blk 152 [I y9.1.Kind, I y9.1.N, Sx y9.1.S, .lit (List.map aO y9.1.L)]), (4, .tok 152 4 (List.length v16))] 5) n _ (zv [(0, 0), (1, 1), (7, 2), (18, 3), (24, 4)] [0, 4, 5, 6, 7, 8] 5) ⟨_, _, _, _, h, rfl⟩ (fun s ⟨v13, v14, v15, v16, h, _⟩ => nomatch h) ?_
 rintro n s ⟨v13, v14, v15, v16, h, rfl⟩
 rw [oQ] at h
 refine aK ?_
 refine za [0, 4, 5, 6, 7, 8, 44] ?_
 refine zi h (fun h => ?_) fun h => ?_
 refine aC ?_
 refine aK ?_
 refine aF ?_
 refine Lh [[], [0], [], [], [2, 3], [4, 2, 3], [1, 5, 4, 0, 2, 3], [0, 1, 2, 3, 4, 5, 6], [7, 6, 0, 1, 2, 3, 4, 5]] fun _ => ?_
 refine zk 4 ?_
 obtain ⟨y17, he, h⟩ := aB h
 refine zo [(0, 0)] Qw (Jv n _ _ y17 he) ?_
 clear he
 refine pO (e := 152) (sz := 4) (len := 1) (r := [I y17.1.Kind, I y17.1.N, Sx y17.1.S, .lit (List.map aO y17.1.L)]) (l' := List.map aO [y17.1]) (nm := 13) (by kernel_rfl) (by simp only [List.map_cons, List.map_nil, dO]; kernel_rfl) (by kernel_rfl) (by kernel_rfl) rfl rfl rfl ?_
 obtain ⟨l18, he, h⟩ := aB h
 refine cB (enc := aO) (l := v16) (els := [y17.1]) (r := l18) (old := some 4) (e := 152) (sz := 4) (bytes := 56) (k := (List.length v16)) (nm := 14) he (by kernel_rfl) (by kernel_rfl) (fun x => by rw [dO]; rfl) (by kernel_rfl) (by kernel_rfl) rfl rfl rfl ?_
 clear he
 refine zk 2 ?_
 refine bL ?_
 refine aT ?_
 refine zb ?_
 exact dI (zv [(0, 0), (1, 1), (2, 2), (3, 3), (14, 4)] [0, 4, 5, 6, 7, 8] 5) (⟨_, _, _, _, h, rfl⟩)
 exact aI (zv [(0, 0), (1, 1), (2, 2), (4, 3)] [4, 5] 4) (bD (hj7 _ _ _ h))
 exact aI (dU.trans (lB (n := 7) (T0 := 152) (l := [I 4, I 0, Sx (⟨#[]⟩ : ByteArray), bY]) (G2 := [(0, .blk 78 [.lit (List.map aJ y8.2.L), I y8.2.At]), (1, .blk 152 [I 0, I 0, Sx (⟨#[]⟩ : ByteArray), bY]), (7, .blk 152 [I 4, I 0, Sx (⟨#[]⟩ : ByteArray), .app 14 (List.map aO ([] : List aH))]), (14, .tok 152 4 (List.length ([] : List aH)))]) (lim2 := 15) 3 152 4 (by kernel_rfl) (by kernel_rfl) (by kernel_rfl) (by kernel_rfl)) (zv [(0, 0), (1, 1), (7, 2), (14, 3)] [4, 5] 4)) (aC (hj7 _ _ _ h))
 exact aI (zv [(0, 0), (1, 1)] [0, 4] 2) (aC (hj1 _ _ h))
 exact aI (zv [(0, 0), (1, 1)] [0, 4] 2) (aC (hj1 _ _ h))
 refine za [0, 1, 4, 11, 17] ?_
 refine zi h (fun h => ?_) fun h => ?_
 exact aI (zv [(0, 0), (1, 1)] [0, 1, 4, 11, 17] 2) (aC (hj4 _ h))
 refine aT ?_
 refine zb ?_
 exact dI (zv [(0, 0), (1, 1)] [0, 1, 4, 11, 17] 2) (hj4 _ h)
def nM : Nat → aP → Int → Option (aH × aP)
 | 0, _, _ => none
 | n + 1, p0, p1 => nE (fun a0 a1 => nM n a0 a1) n p0 p1
theorem Hh (n : Nat) : (∀ (p0 : aP) (p1 : Int) (r : (aH × aP)), nM n p0 p1 = some r → cN E 97 1 [.c (.ptr 0 0), .c (I p1)] [(0, .blk 78 [.lit (List.map aJ p0.L), I p0.At])] (.agg [I r.1.Kind, I r.1.N, Sx r.1.S, .lit (List.map aO r.1.L)]) [(0, .blk 78 [.lit (List.map aJ r.2.L), I r.2.At])]) := by
 induction n with
 | zero => intro p0 p1 r h; rw [nM] at h; cases h
 | succ n ih => intro p0 p1 r h; rw [nM] at h; exact xA _ ih n _ _ r h
def kU (v45 : List aL) (v53 : ByteArray) (j54 : Bool → Option (aL × aP)) (p1 : Int) (y14 : (Int × aP)) (y15 : (Int × aP)) (v42 : Int) (v51 : List Int) (v52 : Int) (v4 : Int) (y5 : ((List aZ) × aP)) (v13 : List cE) (y47 : (aL × aP)) : Nat → Bool → Int → Option (aL × aP)
 | 0, _, _ => none
 | n + 1, v56, v57 => (if (decide (v57 < (List.length v45 : Int))) = true then (gd [(!v56), (!(cG v53 (⟨#[]⟩ : ByteArray)))] (idx v45 v57)).bind fun (e58 : aL) => kU v45 v53 j54 p1 y14 y15 v42 v51 v52 v4 y5 v13 y47 n (v56 || ((!(cG v53 (⟨#[]⟩ : ByteArray))) && (cG e58.Key v53))) (IntKind.wrap .i64 (v57 + 1)) else j54 v56)
def kN (y14 : (Int × aP)) (self_Src_view : aP → Int → Option (aL × aP)) (p1 : Int) (y15 : (Int × aP)) (v4 : Int) (y5 : ((List aZ) × aP)) (v13 : List cE) (j16 : List aL → List Int → Int → Option (aL × aP)) : Nat → Int → List Int → Int → List aL → Option (aL × aP)
 | 0, _, _, _, _ => none
 | n + 1, v42, v43, v44, v45 => (if (decide (v42 < y14.1)) = true then (aV (fun (v63 : List Int) (v64 : Int) (v65 : List aL) => kN y14 self_Src_view p1 y15 v4 y5 v13 j16 n (IntKind.wrap .i64 (v42 + 1)) v63 v64 v65) (fun (j46 : List Int → Int → List aL → Option (aL × aP)) => (self_Src_view (aP.mk v43 v44) (IntKind.wrap .i64 (p1 - 1))).bind fun (y47 : (aL × aP)) => (aV (fun (v51 : List Int) (v52 : Int) (v53 : ByteArray) => (aV (fun (v61 : Bool) => (if (!v61) = true then (pE 96 v45 [(aL.mk y47.1.Kind v53 y47.1.Attrs y47.1.Actions y47.1.Kids)]).bind fun (l62 : List aL) => j46 v51 v52 l62 else j46 v51 v52 v45)) (fun (j54 : Bool → Option (aL × aP)) => kU v45 v53 j54 p1 y14 y15 v42 v51 v52 v4 y5 v13 y47 n false 0))) (fun (j48 : List Int → Int → ByteArray → Option (aL × aP)) => (Vb [(!(y15.1 == 0))] (cH n y47.2 3) ((default : Int), y47.2)).bind fun (y49 : (Int × aP)) => (if ((y15.1 == 0) || (y49.1 == 0)) = true then (cH n y49.2 6).bind fun (y50 : (Int × aP)) => j48 y50.2.L y50.2.At (cX [107, (IntKind.wrap .u8 (IntKind.wrap .i64 (97 + y50.1)))]) else j48 y49.2.L y49.2.At y47.1.Key))))) else j16 v45 v43 v44)
def nT (self_Src_view : aP → Int → Option (aL × aP)) (n : Nat) (p0 : aP) (p1 : Int) : Option (aL × aP) := (cH n p0 (List.length [1, 1, 2, 3, 4, 5, 6, 7, 8, 9, 10, 11, 12, 13] : Int)).bind fun (y1 : (Int × aP)) => (idx [1, 1, 2, 3, 4, 5, 6, 7, 8, 9, 10, 11, 12, 13] y1.1).bind fun (e2 : Int) => (aV (fun (v4 : Int) => (rS n y1.2 v4).bind fun (y5 : ((List aZ) × aP)) => (aV (fun (v11 : List Int) (v12 : Int) (v13 : List cE) => (if (decide (p1 ≤ 0)) = true then some ((aL.mk v4 (⟨#[]⟩ : ByteArray) y5.1 v13 ([] : List aL)), (aP.mk v11 v12)) else (cH n (aP.mk v11 v12) 5).bind fun (y14 : (Int × aP)) => (cH n y14.2 2).bind fun (y15 : (Int × aP)) => (aV (fun (v73 : List aL) (v74 : List Int) (v75 : Int) => some ((aL.mk v4 (⟨#[]⟩ : ByteArray) y5.1 v13 v73), (aP.mk v74 v75))) (fun (j16 : List aL → List Int → Int → Option (aL × aP)) => kN y14 self_Src_view p1 y15 v4 y5 v13 j16 n 0 y15.2.L y15.2.At ([] : List aL))))) (fun (j6 : List Int → Int → List cE → Option (aL × aP)) => (cH n y5.2 3).bind fun (y7 : (Int × aP)) => (if (y7.1 == 0) = true then (nM n y7.2 0).bind fun (y8 : (aH × aP)) => j6 y8.2.L y8.2.At [(cE.mk (⟨#[112, 114, 101, 115, 115]⟩ : ByteArray) (⟨#[47]⟩ : ByteArray) (⟨#[103, 111]⟩ : ByteArray) [y8.1])] else j6 y7.2.L y7.2.At ([] : List cE))))) (fun (j3 : Int → Option (aL × aP)) => (if (decide (p1 > 2)) = true then j3 1 else j3 e2)))
theorem zB (self_Src_view : aP → Int → Option (aL × aP)) (ih_Src_view : ∀ (p0 : aP) (p1 : Int) (r : (aL × aP)), self_Src_view p0 p1 = some r → cN E 58 1 [.c (.ptr 0 0), .c (I p1)] [(0, .blk 78 [.lit (List.map aJ p0.L), I p0.At])] (.agg [I r.1.Kind, Sx r.1.Key, .lit (List.map aM r.1.Attrs), .lit (List.map aD r.1.Actions), .lit (List.map aX r.1.Kids)]) [(0, .blk 78 [.lit (List.map aJ r.2.L), I r.2.At])]) (n : Nat) (p0 : aP) (p1 : Int) (r : (aL × aP)) (h : nT self_Src_view n p0 p1 = some r) : cN E 58 1 [.c (.ptr 0 0), .c (I p1)] [(0, .blk 78 [.lit (List.map aJ p0.L), I p0.At])] (.agg [I r.1.Kind, Sx r.1.Key, .lit (List.map aM r.1.Attrs), .lit (List.map aD r.1.Actions), .lit (List.map aX r.1.Kids)]) [(0, .blk 78 [.lit (List.map aJ r.2.L), I r.2.At])] := by
 refine fW Tryz.func58 rfl ?_
 unfold nT at h
 refine za [0, 1, 4] ?_
 refine za [0, 1, 4, 5] ?_
 refine zx fun _ => ?_
 refine zk 3 ?_
 refine zl aJ [1, 1, 2, 3, 4, 5, 6, 7, 8, 9, 10, 11, 12, 13] ?_
 obtain ⟨y1, he, h⟩ := aB h
 refine zo [(0, 0)] cL (bH n _ _ y1 he) ?_
 clear he
 obtain ⟨e2, he, h⟩ := aB h
 refine zd aJ he ?_
 clear he
 refine zk 4 ?_
 refine ze [0, 1, 4, 6] ?_
 refine aQ h (fun A j => ∀ v4, j v4 = some r → A (mk [(0, .c (.ptr 0 0)), (1, .c (I p1)), (4, .c (.ptr 1 0)), (6, .c (.ptr 2 0))] [(0, .blk 78 [.lit (List.map aJ y1.2.L), I y1.2.At]), (1, .blk 70 [I 0, Sx (⟨#[]⟩ : ByteArray), bY, bY, bY]), (2, .blk 70 [I v4, Sx (⟨#[]⟩ : ByteArray), bY, bY, bY])] 3)) (fun v4 h => ?_) (fun j3 Aj3 hj3 h => ?_)
 refine zx fun _ => ?_
 refine zk 3 ?_
 obtain ⟨y5, he, h⟩ := aB h
 refine zo [(0, 0)] fok96 (Hq n _ _ y5 he) ?_
 clear he
 refine zk 2 ?_
 refine ze [0, 1, 4, 6] ?_
 refine aQ h (fun A j => ∀ v11 v12 v13, j v11 v12 v13 = some r → A (mk [(0, .c (.ptr 0 0)), (1, .c (I p1)), (4, .c (.ptr 1 0)), (6, .c (.ptr 2 0))] [(0, .blk 78 [.lit (List.map aJ v11), I v12]), (1, .blk 70 [I 0, Sx (⟨#[]⟩ : ByteArray), bY, bY, bY]), (2, .blk 70 [I v4, Sx (⟨#[]⟩ : ByteArray), .lit (List.map aM y5.1), .app 3 (List.map aD v13), bY]), (3, .tok 159 4 (List.length v13))] 4)) (fun v11 v12 v13 h => ?_) (fun j6 Aj6 hj6 h => ?_)
 refine aK ?_
 refine za [0, 1, 4, 6, 40] ?_
 refine zi h (fun h => ?_) fun h => ?_
 refine za [4] ?_
 cases h
 exact aG zr
 refine aC ?_
 refine zx fun _ => ?_
 refine zk 1 ?_
 obtain ⟨y14, he, h⟩ := aB h
 refine zo [(0, 0)] cL (bH n _ _ y14 he) ?_
 clear he
 refine zk 1 ?_
 refine ze [0, 1, 4, 6, 7] ?_
 refine zx fun _ => ?_
 refine zk 1 ?_
 obtain ⟨y15, he, h⟩ := aB h
 refine zo [(0, 0)] cL (bH n _ _ y15 he) ?_
 clear he
 refine zk 2 ?_
 refine ze [0, 1, 4, 6, 7, 8] ?_
 refine aQ h (fun A j => ∀ v73 v74 v75, j v73 v74 v75 = some r → A (mk [(4, .c (.ptr 1 0)), (6, .c (.ptr 2 0))] [(0, .blk 78 [.lit (List.map aJ v74), I v75]), (1, .blk 70 [I 0, Sx (⟨#[]⟩ : ByteArray), bY, bY, bY]), (2, .blk 70 [I v4, Sx (⟨#[]⟩ : ByteArray), .lit (List.map aM y5.1), .app 3 (List.map aD v13), .app 4 (List.map aX v73)]), (3, .tok 159 4 (List.length v13)), (4, .tok 70 5 (List.length v73))] 5)) (fun v73 v74 v75 h => ?_) (fun j16 Aj16 hj16 h => ?_)
 refine za [4] ?_
 cases h
 exact aG zr
 refine za [0, 1, 4, 6, 7, 8, 9] ?_
 refine aF ?_
 refine bA (fun n s => ∃ v42 v43 v44 v45, kN y14 self_Src_view p1 y15 v4 y5 v13 j16 n v42 v43 v44 v45 = some r ∧ s = mk [(0, .c (.ptr 0 0)), (1, .c (I p1)), (4, .c (.ptr 1 0)), (6, .c (.ptr 2 0)), (7, .c (I y14.1)), (8, .c (Bo (y15.1 == 0))), (9, .c (I v42))] [(0, .blk 78 [.lit (List.map aJ v43), I v44]), (1, .blk 70 [I 0, Sx (⟨#[]⟩ : ByteArray), bY, bY, bY]), (2, .blk 70 [I v4, Sx (⟨#[]⟩ : ByteArray), .lit (List.map aM y5.1), .app 3 (List.map aD v13), .app 4 (List.map aX v45)]), (3, .tok 159 4 (List.length v13)), (4, .tok 70 5 (List.length v45))] 5) n _ (dU.trans (lB (n := 2) (T0 := 70) (l := [I v4, Sx (⟨#[]⟩ : ByteArray), .lit (List.map aM y5.1), .app 3 (List.map aD v13), bY]) (G2 := [(0, .blk 78 [.lit (List.map aJ y15.2.L), I y15.2.At]), (1, .blk 70 [I 0, Sx (⟨#[]⟩ : ByteArray), bY, bY, bY]), (2, .blk 70 [I v4, Sx (⟨#[]⟩ : ByteArray), .lit (List.map aM y5.1), .app 3 (List.map aD v13), .app 14 (List.map aX ([] : List aL))]), (3, .tok 159 4 (List.length v13)), (14, .tok 70 5 (List.length ([] : List aL)))]) (lim2 := 15) 4 70 5 (by kernel_rfl) (by kernel_rfl) (by kernel_rfl) (by kernel_rfl)) (zv [(0, 0), (1, 1), (2, 2), (3, 3), (14, 4)] [0, 1, 4, 6, 7, 8, 9] 5)) ⟨_, _, _, _, h, rfl⟩ (fun s ⟨v42, v43, v44, v45, h, _⟩ => nomatch h) ?_
 rintro n s ⟨v42, v43, v44, v45, h, rfl⟩
 rw [kN] at h
 refine aK ?_
 refine za [0, 1, 4, 6, 7, 8, 9, 49] ?_
 refine zi h (fun h => ?_) fun h => ?_
 refine aC ?_
 refine aQ h (fun A j => ∀ v63 v64 v65, j v63 v64 v65 = some r → A (mk [(0, .c (.ptr 0 0)), (1, .c (I p1)), (4, .c (.ptr 1 0)), (6, .c (.ptr 2 0)), (7, .c (I y14.1)), (8, .c (Bo (y15.1 == 0))), (9, .c (I v42))] [(0, .blk 78 [.lit (List.map aJ v63), I v64]), (1, .blk 70 [I 0, Sx (⟨#[]⟩ : ByteArray), bY, bY, bY]), (2, .blk 70 [I v4, Sx (⟨#[]⟩ : ByteArray), .lit (List.map aM y5.1), .app 3 (List.map aD v13), .app 4 (List.map aX v65)]), (3, .tok 159 4 (List.length v13)), (4, .tok 70 5 (List.length v65))] 5)) (fun v63 v64 v65 h => ?_) (fun j46 Aj46 hj46 h => ?_)
 refine aT ?_
 refine zb ?_
 exact dI (zv [(0, 0), (1, 1), (2, 2), (3, 3), (4, 4)] [0, 1, 4, 6, 7, 8, 9] 5) (⟨_, _, _, _, h, rfl⟩)
 refine aF ?_
 refine zx fun _ => ?_
 refine zk 3 ?_
 obtain ⟨y47, he, h⟩ := aB h
 refine zo [(0, 0)] Xi (ih_Src_view _ _ y47 he) ?_
 clear he
 refine zk 2 ?_
 refine ze [0, 1, 4, 6, 7, 8, 9, 10] ?_
 refine aQ h (fun A j => ∀ v51 v52 v53, j v51 v52 v53 = some r → A (mk [(0, .c (.ptr 0 0)), (1, .c (I p1)), (4, .c (.ptr 1 0)), (6, .c (.ptr 2 0)), (7, .c (I y14.1)), (8, .c (Bo (y15.1 == 0))), (9, .c (I v42)), (10, .c (.ptr 3 0))] [(0, .blk 78 [.lit (List.map aJ v51), I v52]), (1, .blk 70 [I 0, Sx (⟨#[]⟩ : ByteArray), bY, bY, bY]), (2, .blk 70 [I v4, Sx (⟨#[]⟩ : ByteArray), .lit (List.map aM y5.1), .app 4 (List.map aD v13), .app 5 (List.map aX v45)]), (3, .blk 70 [I y47.1.Kind, Sx v53, .lit (List.map aM y47.1.Attrs), .lit (List.map aD y47.1.Actions), .lit (List.map aX y47.1.Kids)]), (4, .tok 159 4 (List.length v13)), (5, .tok 70 5 (List.length v45))] 6)) (fun v51 v52 v53 h => ?_) (fun j48 Aj48 hj48 h => ?_)
 refine za [0, 1, 4, 6, 7, 8, 9, 10, 11] ?_
 refine aQ h (fun A j => ∀ v61, j v61 = some r → A (mk [(0, .c (.ptr 0 0)), (1, .c (I p1)), (4, .c (.ptr 1 0)), (6, .c (.ptr 2 0)), (7, .c (I y14.1)), (8, .c (Bo (y15.1 == 0))), (9, .c (I v42)), (10, .c (.ptr 3 0)), (11, .c (Bo v61))] [(0, .blk 78 [.lit (List.map aJ v51), I v52]), (1, .blk 70 [I 0, Sx (⟨#[]⟩ : ByteArray), bY, bY, bY]), (2, .blk 70 [I v4, Sx (⟨#[]⟩ : ByteArray), .lit (List.map aM y5.1), .app 4 (List.map aD v13), .app 5 (List.map aX v45)]), (3, .blk 70 [I y47.1.Kind, Sx v53, .lit (List.map aM y47.1.Attrs), .lit (List.map aD y47.1.Actions), .lit (List.map aX y47.1.Kids)]), (4, .tok 159 4 (List.length v13)), (5, .tok 70 5 (List.length v45))] 6)) (fun v61 h => ?_) (fun j54 Aj54 hj54 h => ?_)
 refine za [0, 1, 4, 6, 7, 8, 9, 10, 94] ?_
 refine zi h (fun h => ?_) fun h => ?_
 refine aT ?_
 refine zy fun _ => ?_
 refine zk 3 ?_
 refine pO (e := 70) (sz := 5) (len := 1) (r := [I y47.1.Kind, Sx v53, .lit (List.map aM y47.1.Attrs), .lit (List.map aD y47.1.Actions), .lit (List.map aX y47.1.Kids)]) (l' := List.map aX [(aL.mk y47.1.Kind v53 y47.1.Attrs y47.1.Actions y47.1.Kids)]) (nm := 11) (by kernel_rfl) (by simp only [List.map_cons, List.map_nil, fR]; kernel_rfl) (by kernel_rfl) (by kernel_rfl) rfl rfl rfl ?_
 obtain ⟨l62, he, h⟩ := aB h
 refine cB (enc := aX) (l := v45) (els := [(aL.mk y47.1.Kind v53 y47.1.Attrs y47.1.Actions y47.1.Kids)]) (r := l62) (old := some 5) (e := 70) (sz := 5) (bytes := 96) (k := (List.length v45)) (nm := 12) he (by kernel_rfl) (by kernel_rfl) (fun x => by rw [fR]; rfl) (by kernel_rfl) (by kernel_rfl) rfl rfl rfl ?_
 clear he
 refine zk 2 ?_
 refine bL ?_
 exact dI (zv [(0, 0), (1, 1), (2, 2), (4, 3), (12, 4)] [0, 1, 4, 6, 7, 8, 9] 5) (hj46 _ _ _ h)
 exact aI (zv [(0, 0), (1, 1), (2, 2), (4, 3), (5, 4)] [0, 1, 4, 6, 7, 8, 9] 5) (aC (hj46 _ _ _ h))
 refine za [0, 1, 4, 6, 7, 8, 9, 10, 11, 12] ?_
 refine aF ?_
 refine bA (fun n s => ∃ v56 v57, kU v45 v53 j54 p1 y14 y15 v42 v51 v52 v4 y5 v13 y47 n v56 v57 = some r ∧ s = mk [(0, .c (.ptr 0 0)), (1, .c (I p1)), (4, .c (.ptr 1 0)), (6, .c (.ptr 2 0)), (7, .c (I y14.1)), (8, .c (Bo (y15.1 == 0))), (9, .c (I v42)), (10, .c (.ptr 3 0)), (11, .c (Bo v56)), (12, .c (I v57))] [(0, .blk 78 [.lit (List.map aJ v51), I v52]), (1, .blk 70 [I 0, Sx (⟨#[]⟩ : ByteArray), bY, bY, bY]), (2, .blk 70 [I v4, Sx (⟨#[]⟩ : ByteArray), .lit (List.map aM y5.1), .app 4 (List.map aD v13), .app 5 (List.map aX v45)]), (3, .blk 70 [I y47.1.Kind, Sx v53, .lit (List.map aM y47.1.Attrs), .lit (List.map aD y47.1.Actions), .lit (List.map aX y47.1.Kids)]), (4, .tok 159 4 (List.length v13)), (5, .tok 70 5 (List.length v45))] 6) n _ (zv [(0, 0), (1, 1), (2, 2), (3, 3), (4, 4), (5, 5)] [0, 1, 4, 6, 7, 8, 9, 10, 11, 12] 6) ⟨_, _, h, rfl⟩ (fun s ⟨v56, v57, h, _⟩ => nomatch h) ?_
 rintro n s ⟨v56, v57, h, rfl⟩
 rw [kU] at h
 refine aK ?_
 refine zx fun _ => ?_
 refine zk 3 ?_
 refine zl aX v45 ?_
 refine zk 1 ?_
 refine ze [0, 1, 4, 6, 7, 8, 9, 10, 11, 12, 73] ?_
 refine zi h (fun h => ?_) fun h => ?_
 refine aC ?_
 refine aK ?_
 refine aF ?_
 refine Lh [[], [0], [1, 0], [2, 1, 0], [3, 1, 2, 0], [4, 1, 3, 2, 0], [5, 4, 1, 3, 2, 0], [6, 5, 4, 1, 3, 2, 0], [5, 4, 1, 3, 2, 0], [7, 8, 5, 6, 4, 1, 3, 2, 0], [9, 5, 7, 8, 6, 4, 1, 3, 2, 0], [10, 5, 9, 7, 8, 6, 4, 1, 3, 2, 0], [5, 4, 1, 3, 2, 0], [12, 5, 4, 1, 3, 2, 0], [11, 13, 5, 10, 9, 7, 8, 6, 4, 1, 3, 2, 0, 12], [5, 14, 1, 4, 3, 2, 0, 11, 13, 10, 9, 7, 8, 6, 12], [1, 15, 0, 5, 14, 4, 3, 2, 11, 13, 10, 9, 7, 8, 6, 12], [16, 5, 0, 1, 2, 3, 4, 6, 7, 8, 9, 10, 11, 12, 13, 14, 15]] fun _ => ?_
 refine zk 2 ?_
 refine zE (.c (.ptr 3 1)) ?_
 refine zE (.c (Sx v53)) ?_
 refine zE (.c (Bo (!(cG v53 (⟨#[]⟩ : ByteArray))))) ?_
 refine zF [(!v56)] (.c (Bo (!(cG v53 (⟨#[]⟩ : ByteArray))))) ?_
 refine zE (.c (.ptr 2 4)) ?_
 refine zE (.c (.app 5 (List.map aX v45))) ?_
 refine zE (.c (I v57)) ?_
 obtain ⟨e58, he, h⟩ := aB h
 refine jW (e := [(!v56), (!(cG v53 (⟨#[]⟩ : ByteArray)))]) [(83, .c (.app 5 (List.map aX v45)), some 2), (84, .c (I v57), some 2)] (v := .c (.imm [I e58.Kind, Sx e58.Key, .lit (List.map aM e58.Attrs), .lit (List.map aD e58.Actions), .lit (List.map aX e58.Kids)])) (foot := []) (by kernel_rfl) (by kernel_rfl) (by kernel_rfl) (fun hg => dR (enc := aX) (sz := 5) (l := v45) (ix := v57) (bT he hg) (by kernel_rfl) (fR e58) (by kernel_rfl)) rfl rfl ?_
 clear he
 refine zE (.c (.imm [Sx e58.Key, .lit (List.map aM e58.Attrs), .lit (List.map aD e58.Actions), .lit (List.map aX e58.Kids)])) ?_
 refine zE (.c (Sx e58.Key)) ?_
 refine zE (.c (.ptr 3 1)) ?_
 refine zE (.c (Sx v53)) ?_
 refine zE (.c (Bo (cG e58.Key v53))) ?_
 refine zP (.bool ((!(cG v53 (⟨#[]⟩ : ByteArray))) && (cG e58.Key v53))) ?_
 refine zP (.bool (v56 || ((!(cG v53 (⟨#[]⟩ : ByteArray))) && (cG e58.Key v53)))) ?_
 refine zk 1 ?_
 refine bL ?_
 refine aT ?_
 refine zb ?_
 exact dI (zv [(0, 0), (1, 1), (2, 2), (3, 3), (4, 4), (5, 5)] [0, 1, 4, 6, 7, 8, 9, 10, 11, 12] 6) (⟨_, _, h, rfl⟩)
 exact aI (zv [(0, 0), (1, 1), (2, 2), (3, 3), (4, 4), (5, 5)] [0, 1, 4, 6, 7, 8, 9, 10, 11] 6) (bD (hj54 _ h))
 refine zx fun _ => ?_
 refine zk 2 ?_
 refine zE (.c (.ptr 0 0)) ?_
 obtain ⟨y49, he, h⟩ := aB h
 refine yM (e := [(!(y15.1 == 0))]) [(58, .c (.ptr 0 0), some 1)] (F := 15) (As := [.c (.ptr 0 0), .c (I 3)]) (Bs := [.c (.ptr 0 0), .c (I 3)]) (σ := [(0, 0)]) (k := 1) (Gc := [(0, .blk 78 [.lit (List.map aJ y47.2.L), I y47.2.At])]) (Gf := [(0, .blk 78 [.lit (List.map aJ y49.2.L), I y49.2.At])]) (r := .c (I y49.1)) (v := .c (I y49.1)) (by kernel_rfl) (by kernel_rfl) (by kernel_rfl) (by kernel_rfl) (by kernel_rfl) (by kernel_rfl) cL ⟨.inr ⟨(by kernel_rfl), (by kernel_rfl)⟩, ⟨.inl (by kernel_rfl), trivial⟩⟩ (fun hg => bH n _ _ y49 (Ru he hg)) (by kernel_rfl) (by kernel_rfl) (by kernel_rfl) (fun hg => by rw [Ts he hg]; kernel_rfl) (by kernel_rfl) rfl rfl rfl ?_
 clear he
 refine zE (.c (Bo (y49.1 == 0))) ?_
 refine zP (.bool ((y15.1 == 0) || (y49.1 == 0))) ?_
 refine ze [0, 1, 4, 6, 7, 8, 9, 10, 61] ?_
 refine zi h (fun h => ?_) fun h => ?_
 refine aT ?_
 refine zy fun _ => ?_
 refine zk 1 ?_
 obtain ⟨y50, he, h⟩ := aB h
 refine zo [(0, 0)] cL (bH n _ _ y50 he) ?_
 clear he
 refine zk 3 ?_
 refine zw (v := .c (Sx (cX [107, (IntKind.wrap .u8 (IntKind.wrap .i64 (97 + y50.1)))]))) [] (lO (ns := [107, (IntKind.wrap .u8 (IntKind.wrap .i64 (97 + y50.1)))]) (by kernel_rfl)) ?_
 refine zk 2 ?_
 refine bL ?_
 exact dI (zv [(0, 0), (1, 1), (2, 2), (12, 3), (3, 4), (4, 5)] [0, 1, 4, 6, 7, 8, 9, 10] 6) (hj48 _ _ _ h)
 exact aI (zv [(0, 0), (1, 1), (2, 2), (12, 3), (3, 4), (4, 5)] [0, 1, 4, 6, 7, 8, 9, 10] 6) (aC (hj48 _ _ _ h))
 exact aI (zv [(0, 0), (1, 1), (2, 2), (3, 3), (4, 4)] [4, 6] 5) (bD (hj16 _ _ _ h))
 refine zx fun _ => ?_
 refine zk 1 ?_
 obtain ⟨y7, he, h⟩ := aB h
 refine zo [(0, 0)] cL (bH n _ _ y7 he) ?_
 clear he
 refine zk 1 ?_
 refine ze [0, 1, 4, 6, 32] ?_
 refine zi h (fun h => ?_) fun h => ?_
 refine aT ?_
 refine zy fun _ => ?_
 refine zk 1 ?_
 obtain ⟨y8, he, h⟩ := aB h
 refine zo [(0, 0)] Wy (Hh n _ _ y8 he) ?_
 clear he
 refine pO (e := 152) (sz := 4) (len := 1) (r := [I y8.1.Kind, I y8.1.N, Sx y8.1.S, .lit (List.map aO y8.1.L)]) (l' := List.map aO [y8.1]) (nm := 14) (by kernel_rfl) (by simp only [List.map_cons, List.map_nil, dO]; kernel_rfl) (by kernel_rfl) (by kernel_rfl) rfl rfl rfl ?_
 refine zk 4 ?_
 refine bL ?_
 exact dI (zv [(0, 0), (1, 1), (2, 2), (16, 3)] [0, 1, 4, 6] 4) (hj6 _ _ _ h)
 exact aI (dU.trans (lB (n := 2) (T0 := 70) (l := [I v4, Sx (⟨#[]⟩ : ByteArray), .lit (List.map aM y5.1), bY, bY]) (G2 := [(0, .blk 78 [.lit (List.map aJ y7.2.L), I y7.2.At]), (1, .blk 70 [I 0, Sx (⟨#[]⟩ : ByteArray), bY, bY, bY]), (2, .blk 70 [I v4, Sx (⟨#[]⟩ : ByteArray), .lit (List.map aM y5.1), .app 12 (List.map aD ([] : List cE)), bY]), (12, .tok 159 4 (List.length ([] : List cE)))]) (lim2 := 13) 3 159 4 (by kernel_rfl) (by kernel_rfl) (by kernel_rfl) (by kernel_rfl)) (zv [(0, 0), (1, 1), (2, 2), (12, 3)] [0, 1, 4, 6] 4)) (aC (hj6 _ _ _ h))
 refine za [0, 1, 4, 6, 23] ?_
 refine zi h (fun h => ?_) fun h => ?_
 refine aT ?_
 refine zb ?_
 exact dI (zv [(0, 0), (1, 1), (12, 2)] [0, 1, 4, 6] 3) (hj3 _ h)
 exact aI (zv [(0, 0), (1, 1), (12, 2)] [0, 1, 4, 6] 3) (aC (hj3 _ h))
def nY : Nat → aP → Int → Option (aL × aP)
 | 0, _, _ => none
 | n + 1, p0, p1 => nT (fun a0 a1 => nY n a0 a1) n p0 p1
theorem Jk (n : Nat) : (∀ (p0 : aP) (p1 : Int) (r : (aL × aP)), nY n p0 p1 = some r → cN E 58 1 [.c (.ptr 0 0), .c (I p1)] [(0, .blk 78 [.lit (List.map aJ p0.L), I p0.At])] (.agg [I r.1.Kind, Sx r.1.Key, .lit (List.map aM r.1.Attrs), .lit (List.map aD r.1.Actions), .lit (List.map aX r.1.Kids)]) [(0, .blk 78 [.lit (List.map aJ r.2.L), I r.2.At])]) := by
 induction n with
 | zero => intro p0 p1 r h; rw [nY] at h; cases h
 | succ n ih => intro p0 p1 r h; rw [nY] at h; exact zB _ ih n _ _ r h
def oY (p0 : ByteArray) (j1 : Unit → Option Bool) : Nat → Int → Option Bool
 | 0, _ => none
 | n + 1, v3 => (if (decide (v3 < (ByteArray.size p0 : Int))) = true then (wU p0 v3).bind fun (u4 : Int) => (if ((((((decide (u4 < 97)) || (decide (u4 > 122))) && ((decide (u4 < 65)) || (decide (u4 > 90)))) && ((decide (u4 < 48)) || (decide (u4 > 57)))) && (u4 != 45)) && (u4 != 95)) = true then some false else oY p0 j1 n (IntKind.wrap .i64 (v3 + 1))) else j1 ())
def zM  (n : Nat) (p0 : ByteArray) : Option Bool := (aV (fun (_ : Unit) => some (decide ((ByteArray.size p0 : Int) ≤ 24))) (fun (j1 : Unit → Option Bool) => oY p0 j1 n 0))
theorem Hp  (n : Nat) (p0 : ByteArray) (r : Bool) (h : zM n p0 = some r) : cN E 134 0 [.c (Sx p0)] [] (.c (Bo r)) [] := by
 refine fW Tryz.func134 rfl ?_
 unfold zM at h
 refine za [0] ?_
 refine aQ h (fun A j => ∀ u, j u = some r → A (mk [(0, .c (Sx p0))] [] 0)) (fun u h => ?_) (fun j1 Aj1 hj1 h => ?_)
 refine za [2] ?_
 cases h
 exact aG zr
 refine za [0, 3] ?_
 refine aF ?_
 refine bA (fun n s => ∃ v3, oY p0 j1 n v3 = some r ∧ s = mk [(0, .c (Sx p0)), (3, .c (I v3))] [] 0) n _ (zv [] [0, 3] 0) ⟨_, h, rfl⟩ (fun s ⟨v3, h, _⟩ => nomatch h) ?_
 rintro n s ⟨v3, h, rfl⟩
 rw [oY] at h
 refine aK ?_
 refine za [0, 3, 8] ?_
 refine zi h (fun h => ?_) fun h => ?_
 refine aC ?_
 refine aK ?_
 refine aF ?_
 refine zx fun _ => ?_
 refine zk 2 ?_
 obtain ⟨u4, he, h⟩ := aB h
 refine zs he ?_
 clear he
 refine zk 1 ?_
 refine ze [0, 3, 4] ?_
 refine zx fun _ => ?_
 refine zk 3 ?_
 refine zE (.c (U8 u4)) ?_
 refine zE (.c (Bo (decide (u4 > 122)))) ?_
 refine zP (.bool ((decide (u4 < 97)) || (decide (u4 > 122)))) ?_
 refine zk 1 ?_
 refine zE (.c (U8 u4)) ?_
 refine zE (.c (Bo (decide (u4 < 65)))) ?_
 refine zF [((decide (u4 < 97)) || (decide (u4 > 122)))] (.c (Bo (decide (u4 < 65)))) ?_
 refine zE (.c (U8 u4)) ?_
 refine zE (.c (Bo (decide (u4 > 90)))) ?_
 refine zP (.bool ((decide (u4 < 65)) || (decide (u4 > 90)))) ?_
 refine zP (.bool (((decide (u4 < 97)) || (decide (u4 > 122))) && ((decide (u4 < 65)) || (decide (u4 > 90))))) ?_
 refine zk 1 ?_
 refine zE (.c (U8 u4)) ?_
 refine zE (.c (Bo (decide (u4 < 48)))) ?_
 refine zF [(((decide (u4 < 97)) || (decide (u4 > 122))) && ((decide (u4 < 65)) || (decide (u4 > 90))))] (.c (Bo (decide (u4 < 48)))) ?_
 refine zE (.c (U8 u4)) ?_
 refine zE (.c (Bo (decide (u4 > 57)))) ?_
 refine zP (.bool ((decide (u4 < 48)) || (decide (u4 > 57)))) ?_
 refine zP (.bool ((((decide (u4 < 97)) || (decide (u4 > 122))) && ((decide (u4 < 65)) || (decide (u4 > 90)))) && ((decide (u4 < 48)) || (decide (u4 > 57))))) ?_
 refine Ym 1 (L' := [(0, .c (Sx p0)), (3, .c (I v3)), (4, .c (U8 u4)), (14, .c (U8 u4)), (15, .c (Bo (decide (u4 < 97)))), (16, .c (Bo (decide (u4 < 97)))), (17, .cnd [(!(decide (u4 < 97)))] (.c (U8 u4))), (18, .cnd [(!(decide (u4 < 97)))] (.c (Bo (decide (u4 > 122))))), (19, .c (Bo ((decide (u4 < 97)) || (decide (u4 > 122))))), (20, .c (Bo ((decide (u4 < 97)) || (decide (u4 > 122))))), (21, .cnd [((decide (u4 < 97)) || (decide (u4 > 122)))] (.c (U8 u4))), (22, .cnd [((decide (u4 < 97)) || (decide (u4 > 122)))] (.c (Bo (decide (u4 < 65))))), (23, .cnd [((decide (u4 < 97)) || (decide (u4 > 122)))] (.c (Bo (decide (u4 < 65))))), (24, .cnd [((decide (u4 < 97)) || (decide (u4 > 122))), (!(decide (u4 < 65)))] (.c (U8 u4))), (25, .cnd [((decide (u4 < 97)) || (decide (u4 > 122))), (!(decide (u4 < 65)))] (.c (Bo (decide (u4 > 90))))), (26, .cnd [((decide (u4 < 97)) || (decide (u4 > 122)))] (.c (Bo ((decide (u4 < 65)) || (decide (u4 > 90)))))), (27, .c (Bo (((decide (u4 < 97)) || (decide (u4 > 122))) && ((decide (u4 < 65)) || (decide (u4 > 90)))))), (28, .c (Bo (((decide (u4 < 97)) || (decide (u4 > 122))) && ((decide (u4 < 65)) || (decide (u4 > 90)))))), (29, .cnd [(((decide (u4 < 97)) || (decide (u4 > 122))) && ((decide (u4 < 65)) || (decide (u4 > 90))))] (.c (U8 u4))), (30, .cnd [(((decide (u4 < 97)) || (decide (u4 > 122))) && ((decide (u4 < 65)) || (decide (u4 > 90))))] (.c (Bo (decide (u4 < 48))))), (31, .cnd [(((decide (u4 < 97)) || (decide (u4 > 122))) && ((decide (u4 < 65)) || (decide (u4 > 90))))] (.c (Bo (decide (u4 < 48))))), (32, .cnd [(((decide (u4 < 97)) || (decide (u4 > 122))) && ((decide (u4 < 65)) || (decide (u4 > 90)))), (!(decide (u4 < 48)))] (.c (U8 u4))), (33, .cnd [(((decide (u4 < 97)) || (decide (u4 > 122))) && ((decide (u4 < 65)) || (decide (u4 > 90)))), (!(decide (u4 < 48)))] (.c (Bo (decide (u4 > 57))))), (34, .cnd [(((decide (u4 < 97)) || (decide (u4 > 122))) && ((decide (u4 < 65)) || (decide (u4 > 90))))] (.c (Bo ((decide (u4 < 48)) || (decide (u4 > 57)))))), (35, .c (Bo ((((decide (u4 < 97)) || (decide (u4 > 122))) && ((decide (u4 < 65)) || (decide (u4 > 90)))) && ((decide (u4 < 48)) || (decide (u4 > 57)))))), (36, .c (Bo ((((decide (u4 < 97)) || (decide (u4 > 122))) && ((decide (u4 < 65)) || (decide (u4 > 90)))) && ((decide (u4 < 48)) || (decide (u4 > 57))))))]) (G' := []) (X' := []) ?_
 refine zE (.c (U8 u4)) ?_
 refine zE (.c (Bo (u4 != 45))) ?_
 refine zP (.bool (((((decide (u4 < 97)) || (decide (u4 > 122))) && ((decide (u4 < 65)) || (decide (u4 > 90)))) && ((decide (u4 < 48)) || (decide (u4 > 57)))) && (u4 != 45))) ?_
 refine zk 1 ?_
 refine zE (.c (U8 u4)) ?_
 refine zE (.c (Bo (u4 != 95))) ?_
 refine zP (.bool ((((((decide (u4 < 97)) || (decide (u4 > 122))) && ((decide (u4 < 65)) || (decide (u4 > 90)))) && ((decide (u4 < 48)) || (decide (u4 > 57)))) && (u4 != 45)) && (u4 != 95))) ?_
 refine ze [0, 3, 43] ?_
 refine zi h (fun h => ?_) fun h => ?_
 refine za [2] ?_
 cases h
 exact aG zr
 refine aC ?_
 refine aT ?_
 refine zb ?_
 exact dI (zv [] [0, 3] 0) (⟨_, h, rfl⟩)
 exact aI (zv [] [0] 0) (bD (hj1 _ h))
def vD  (n : Nat) (p0 : ByteArray) : Option Bool := (zM n p0).bind fun (y1 : Bool) => some y1
theorem Ie  (n : Nat) (p0 : ByteArray) (r : Bool) (h : vD n p0 = some r) : cN E 123 0 [.c (Sx p0)] [] (.c (Bo r)) [] := by
 refine fW Tryz.func123 rfl ?_
 unfold vD at h
 refine za [0] ?_
 refine zx fun _ => ?_
 refine zk 1 ?_
 obtain ⟨y1, he, h⟩ := aB h
 refine zc Yl (Hp n _ y1 he) ?_
 clear he
 refine zk 1 ?_
 refine ze [2] ?_
 cases h
 exact aG zr
def lC  (n : Nat) (p0 : Int) : Option Bool := some (((decide (p0 ≥ 97)) && (decide (p0 ≤ 122))) || ((decide (p0 ≥ 65)) && (decide (p0 ≤ 90))))
theorem sX  (n : Nat) (p0 : Int) (r : Bool) (h : lC n p0 = some r) : cN E 127 0 [.c (U8 p0)] [] (.c (Bo r)) [] := by
 refine fW Tryz.func127 rfl ?_
 unfold lC at h
 refine za [0] ?_
 refine zx fun _ => ?_
 refine zk 3 ?_
 refine zE (.c (U8 p0)) ?_
 refine zE (.c (Bo (decide (p0 ≤ 122)))) ?_
 refine zP (.bool ((decide (p0 ≥ 97)) && (decide (p0 ≤ 122)))) ?_
 refine zk 1 ?_
 refine zE (.c (U8 p0)) ?_
 refine zE (.c (Bo (decide (p0 ≥ 65)))) ?_
 refine zF [(!((decide (p0 ≥ 97)) && (decide (p0 ≤ 122))))] (.c (Bo (decide (p0 ≥ 65)))) ?_
 refine zE (.c (U8 p0)) ?_
 refine zE (.c (Bo (decide (p0 ≤ 90)))) ?_
 refine zP (.bool ((decide (p0 ≥ 65)) && (decide (p0 ≤ 90)))) ?_
 refine zP (.bool (((decide (p0 ≥ 97)) && (decide (p0 ≤ 122))) || ((decide (p0 ≥ 65)) && (decide (p0 ≤ 90))))) ?_
 refine zk 1 ?_
 refine jV [2] (L2 := [(2, .c (Bo (((decide (p0 ≥ 97)) && (decide (p0 ≤ 122))) || ((decide (p0 ≥ 65)) && (decide (p0 ≤ 90))))))]) (G2 := []) 16 ?_
 cases h
 exact aG zr
def fX (p0 : ByteArray) (j3 : Unit → Option Bool) : Nat → Int → Option Bool
 | 0, _ => none
 | n + 1, v10 => (if (decide (v10 < (ByteArray.size p0 : Int))) = true then (wU p0 v10).bind fun (u11 : Int) => (lC n u11).bind fun (y12 : Bool) => (gd [(!y12)] (wU p0 v10)).bind fun (u13 : Int) => (gd [(!y12), (!(decide (u13 < 48)))] (wU p0 v10)).bind fun (u14 : Int) => (gd [((!y12) && ((decide (u13 < 48)) || (decide (u14 > 57))))] (wU p0 v10)).bind fun (u15 : Int) => (gd [(((!y12) && ((decide (u13 < 48)) || (decide (u14 > 57)))) && (u15 != 45))] (wU p0 v10)).bind fun (u16 : Int) => (if ((((!y12) && ((decide (u13 < 48)) || (decide (u14 > 57)))) && (u15 != 45)) && (u16 != 95)) = true then some false else fX p0 j3 n (IntKind.wrap .i64 (v10 + 1))) else j3 ())
def iX  (n : Nat) (p0 : ByteArray) : Option Bool := (gd [(!((decide ((ByteArray.size p0 : Int) < 1)) || (decide ((ByteArray.size p0 : Int) > 24))))] (wU p0 0)).bind fun (u1 : Int) => (gd [(!((decide ((ByteArray.size p0 : Int) < 1)) || (decide ((ByteArray.size p0 : Int) > 24))))] (lC n u1)).bind fun (y2 : Bool) => (if (((decide ((ByteArray.size p0 : Int) < 1)) || (decide ((ByteArray.size p0 : Int) > 24))) || (!y2)) = true then some false else (aV (fun (_ : Unit) => some true) (fun (j3 : Unit → Option Bool) => fX p0 j3 n 1)))
theorem qT  (n : Nat) (p0 : ByteArray) (r : Bool) (h : iX n p0 = some r) : cN E 108 0 [.c (Sx p0)] [] (.c (Bo r)) [] := by
 refine fW Tryz.func108 rfl ?_
 unfold iX at h
 refine za [0] ?_
 refine aK ?_
 refine zx fun _ => ?_
 refine zk 4 ?_
 refine zE (.c (Sx p0)) ?_
 refine zE (.c (I (ByteArray.size p0 : Int))) ?_
 refine zE (.c (Bo (decide ((ByteArray.size p0 : Int) > 24)))) ?_
 refine zP (.bool ((decide ((ByteArray.size p0 : Int) < 1)) || (decide ((ByteArray.size p0 : Int) > 24)))) ?_
 refine zk 1 ?_
 refine zE (.c (Sx p0)) ?_
 obtain ⟨u1, he, h⟩ := aB h
 refine jW (e := [(!((decide ((ByteArray.size p0 : Int) < 1)) || (decide ((ByteArray.size p0 : Int) > 24))))]) [(13, .c (Sx p0), some 1)] (v := .c (U8 u1)) (foot := []) (by kernel_rfl) (by kernel_rfl) (by kernel_rfl) (fun hg => vG (s := p0) (ix := 0) (bT he hg) (by kernel_rfl)) rfl rfl ?_
 clear he
 obtain ⟨y2, he, h⟩ := aB h
 refine Ho [(!((decide ((ByteArray.size p0 : Int) < 1)) || (decide ((ByteArray.size p0 : Int) > 24))))] Rs (fun hg => sX n _ y2 (bT he hg)) ?_
 clear he
 refine zE (.c (Bo (!y2))) ?_
 refine zP (.bool (((decide ((ByteArray.size p0 : Int) < 1)) || (decide ((ByteArray.size p0 : Int) > 24))) || (!y2))) ?_
 refine jV [0, 17] (L2 := [(0, .c (Sx p0)), (17, .c (Bo (((decide ((ByteArray.size p0 : Int) < 1)) || (decide ((ByteArray.size p0 : Int) > 24))) || (!y2))))]) (G2 := []) 15 ?_
 refine zi h (fun h => ?_) fun h => ?_
 refine za [2] ?_
 cases h
 exact aG zr
 refine aC ?_
 refine aQ h (fun A j => ∀ u, j u = some r → A (mk [] [] 0)) (fun u h => ?_) (fun j3 Aj3 hj3 h => ?_)
 refine za [2] ?_
 cases h
 exact aG zr
 refine za [0, 3] ?_
 refine aF ?_
 refine bA (fun n s => ∃ v10, fX p0 j3 n v10 = some r ∧ s = mk [(0, .c (Sx p0)), (3, .c (I v10))] [] 0) n _ (zv [] [0, 3] 0) ⟨_, h, rfl⟩ (fun s ⟨v10, h, _⟩ => nomatch h) ?_
 rintro n s ⟨v10, h, rfl⟩
 rw [fX] at h
 refine aK ?_
 refine za [0, 3, 21] ?_
 refine zi h (fun h => ?_) fun h => ?_
 refine aC ?_
 refine aK ?_
 refine aF ?_
 refine zx fun _ => ?_
 refine zk 2 ?_
 obtain ⟨u11, he, h⟩ := aB h
 refine zs he ?_
 clear he
 obtain ⟨y12, he, h⟩ := aB h
 refine zc Rs (sX n _ y12 he) ?_
 clear he
 refine zk 2 ?_
 refine zE (.c (Sx p0)) ?_
 refine zE (.c (I v10)) ?_
 obtain ⟨u13, he, h⟩ := aB h
 refine jW (e := [(!y12)]) [(30, .c (Sx p0), some 1), (31, .c (I v10), some 1)] (v := .c (U8 u13)) (foot := []) (by kernel_rfl) (by kernel_rfl) (by kernel_rfl) (fun hg => vG (s := p0) (ix := v10) (bT he hg) (by kernel_rfl)) rfl rfl ?_
 clear he
 refine zE (.c (Bo (decide (u13 < 48)))) ?_
 refine zF [(!y12)] (.c (Bo (decide (u13 < 48)))) ?_
 refine zE (.c (Sx p0)) ?_
 refine zE (.c (I v10)) ?_
 obtain ⟨u14, he, h⟩ := aB h
 refine jW (e := [(!y12), (!(decide (u13 < 48)))]) [(35, .c (Sx p0), some 2), (36, .c (I v10), some 2)] (v := .c (U8 u14)) (foot := []) (by kernel_rfl) (by kernel_rfl) (by kernel_rfl) (fun hg => vG (s := p0) (ix := v10) (bT he hg) (by kernel_rfl)) rfl rfl ?_
 clear he
 refine zE (.c (Bo (decide (u14 > 57)))) ?_
 refine zP (.bool ((decide (u13 < 48)) || (decide (u14 > 57)))) ?_
 refine zP (.bool ((!y12) && ((decide (u13 < 48)) || (decide (u14 > 57))))) ?_
 refine zk 1 ?_
 refine zE (.c (Sx p0)) ?_
 refine zE (.c (I v10)) ?_
 obtain ⟨u15, he, h⟩ := aB h
 refine jW (e := [((!y12) && ((decide (u13 < 48)) || (decide (u14 > 57))))]) [(42, .c (Sx p0), some 1), (43, .c (I v10), some 1)] (v := .c (U8 u15)) (foot := []) (by kernel_rfl) (by kernel_rfl) (by kernel_rfl) (fun hg => vG (s := p0) (ix := v10) (bT he hg) (by kernel_rfl)) rfl rfl ?_
 clear he
 refine zE (.c (Bo (u15 != 45))) ?_
 refine zP (.bool (((!y12) && ((decide (u13 < 48)) || (decide (u14 > 57)))) && (u15 != 45))) ?_
 refine Ym 1 (L' := [(0, .c (Sx p0)), (3, .c (I v10)), (21, .c (Bo (decide (v10 < (ByteArray.size p0 : Int))))), (24, .c (Sx p0)), (25, .c (I v10)), (26, .c (U8 u11)), (27, .c (Bo y12)), (28, .c (Bo (!y12))), (29, .c (Bo (!y12))), (30, .cnd [(!y12)] (.c (Sx p0))), (31, .cnd [(!y12)] (.c (I v10))), (32, .cnd [(!y12)] (.c (U8 u13))), (33, .cnd [(!y12)] (.c (Bo (decide (u13 < 48))))), (34, .cnd [(!y12)] (.c (Bo (decide (u13 < 48))))), (35, .cnd [(!y12), (!(decide (u13 < 48)))] (.c (Sx p0))), (36, .cnd [(!y12), (!(decide (u13 < 48)))] (.c (I v10))), (37, .cnd [(!y12), (!(decide (u13 < 48)))] (.c (U8 u14))), (38, .cnd [(!y12), (!(decide (u13 < 48)))] (.c (Bo (decide (u14 > 57))))), (39, .cnd [(!y12)] (.c (Bo ((decide (u13 < 48)) || (decide (u14 > 57)))))), (40, .c (Bo ((!y12) && ((decide (u13 < 48)) || (decide (u14 > 57)))))), (41, .c (Bo ((!y12) && ((decide (u13 < 48)) || (decide (u14 > 57)))))), (42, .cnd [((!y12) && ((decide (u13 < 48)) || (decide (u14 > 57))))] (.c (Sx p0))), (43, .cnd [((!y12) && ((decide (u13 < 48)) || (decide (u14 > 57))))] (.c (I v10))), (44, .cnd [((!y12) && ((decide (u13 < 48)) || (decide (u14 > 57))))] (.c (U8 u15))), (45, .cnd [((!y12) && ((decide (u13 < 48)) || (decide (u14 > 57))))] (.c (Bo (u15 != 45)))), (46, .c (Bo (((!y12) && ((decide (u13 < 48)) || (decide (u14 > 57)))) && (u15 != 45)))), (47, .c (Bo (((!y12) && ((decide (u13 < 48)) || (decide (u14 > 57)))) && (u15 != 45))))]) (G' := []) (X' := []) ?_
 refine zE (.c (Sx p0)) ?_
 refine zE (.c (I v10)) ?_
 obtain ⟨u16, he, h⟩ := aB h
 refine jW (e := [(((!y12) && ((decide (u13 < 48)) || (decide (u14 > 57)))) && (u15 != 45))]) [(48, .c (Sx p0), some 1), (49, .c (I v10), some 1)] (v := .c (U8 u16)) (foot := []) (by kernel_rfl) (by kernel_rfl) (by kernel_rfl) (fun hg => vG (s := p0) (ix := v10) (bT he hg) (by kernel_rfl)) rfl rfl ?_
 clear he
 refine zE (.c (Bo (u16 != 95))) ?_
 refine zP (.bool ((((!y12) && ((decide (u13 < 48)) || (decide (u14 > 57)))) && (u15 != 45)) && (u16 != 95))) ?_
 refine ze [0, 3, 52] ?_
 refine zi h (fun h => ?_) fun h => ?_
 refine za [2] ?_
 cases h
 exact aG zr
 refine aC ?_
 refine aT ?_
 refine zb ?_
 exact dI (zv [] [0, 3] 0) (⟨_, h, rfl⟩)
 exact aI (zv [] [] 0) (bD (hj3 _ h))
def pM  (n : Nat) (p0 : ByteArray) : Option Bool := (yN p0).bind fun (l1 : List Int) => some (cG (runesBytes l1) p0)
theorem Fa  (n : Nat) (p0 : ByteArray) (r : Bool) (h : pM n p0 = some r) : cN E 145 0 [.c (Sx p0)] [] (.c (Bo r)) [] := by
 refine fW Tryz.func145 rfl ?_
 unfold pM at h
 refine za [0] ?_
 refine zx fun _ => ?_
 refine zk 1 ?_
 obtain ⟨l1, he, h⟩ := aB h
 refine Sm (v := .c (.lit (List.map nH l1))) (foot := []) (Fm (s := p0) he (by kernel_rfl)) (by kernel_rfl) rfl rfl ?_
 clear he
 refine zw (v := .c (Sx (runesBytes l1))) [] (qS (ns := l1) (by kernel_rfl)) ?_
 refine zk 3 ?_
 refine ze [2] ?_
 cases h
 exact aG zr
end Go.Proofs.YtojkihhnioeggaaGreatDoor.S
