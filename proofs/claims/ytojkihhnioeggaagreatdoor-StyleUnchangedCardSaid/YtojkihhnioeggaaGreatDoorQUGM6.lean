import Derived.Test.YtojkihhnioeggaaGreatDoorQUGM5
set_option linter.unusedVariables false
set_option linter.unusedSimpArgs false
set_option maxRecDepth 100000
set_option maxHeartbeats 4000000
namespace Go.Proofs.YtojkihhnioeggaaGreatDoor.S
open Go Go.Bm
def fZ (p0 : aJ) (self_view_validate : aJ → Int → Int → Option (Int × Int)) (p1 : Int) (j13 : Int → Option (Int × Int)) : Nat → Int → Int → Option (Int × Int)
 | 0, _, _ => none
 | n + 1, v16, v17 => (if (decide (v16 < (List.length p0.Kids : Int))) = true then (idx p0.Kids v16).bind fun (e18 : aJ) => (self_view_validate e18 (IntKind.wrap .i64 (p1 + 1)) v17).bind fun (y19 : (Int × Int)) => (if (y19.1 != 0) = true then some (y19.1, y19.2) else fZ p0 self_view_validate p1 j13 n (IntKind.wrap .i64 (v16 + 1)) y19.2) else j13 v17)
def fU (p0 : aJ) (p2 : Int) (j4 : Unit → Option (Int × Int)) (p1 : Int) : Nat → Int → List (ByteArray × Bool) → Option (Int × Int)
 | 0, _, _ => none
 | n + 1, v7, v8 => (if (decide (v7 < (List.length p0.Kids : Int))) = true then (idx p0.Kids v7).bind fun (e9 : aJ) => (gd [(!(bV e9.Key (⟨#[]⟩ : ByteArray)))] (some (cZ e9.Key v8, gU e9.Key v8))).bind fun (y10 : (Bool × Bool)) => (if ((!(bV e9.Key (⟨#[]⟩ : ByteArray))) && y10.1) = true then some (6, (IntKind.wrap .i64 (p2 + 1))) else fU p0 p2 j4 p1 n (IntKind.wrap .i64 (v7 + 1)) (fY e9.Key true v8)) else j4 ())
def kA (self_view_validate : aJ → Int → Int → Option (Int × Int)) (n : Nat) (p0 : aJ) (p1 : Int) (p2 : Int) : Option (Int × Int) := (if (decide (p1 > 16)) = true then some (8, (IntKind.wrap .i64 (p2 + 1))) else (if (decide ((IntKind.wrap .i64 (p2 + 1)) > 400)) = true then some (2, (IntKind.wrap .i64 (p2 + 1))) else (if ((decide (p0.Kind < 1)) || (decide (p0.Kind > 13))) = true then some (9, (IntKind.wrap .i64 (p2 + 1))) else (yP n p0.Key).bind fun (y1 : Bool) => (if (!y1) = true then some (4, (IntKind.wrap .i64 (p2 + 1))) else (if (((decide ((List.length p0.Attrs : Int) > 24)) || (decide ((List.length p0.Actions : Int) > 24))) || (decide ((List.length p0.Kids : Int) > 100))) = true then some (2, (IntKind.wrap .i64 (p2 + 1))) else (mM n p0.Attrs).bind fun (y2 : Int) => (if (y2 != 0) = true then some (y2, (IntKind.wrap .i64 (p2 + 1))) else (nI n p0.Actions).bind fun (y3 : Int) => (if (y3 != 0) = true then some (y3, (IntKind.wrap .i64 (p2 + 1))) else (aS (fun (_ : Unit) => (aS (fun (v22 : Int) => some (0, v22)) (fun (j13 : Int → Option (Int × Int)) => fZ p0 self_view_validate p1 j13 n 0 (IntKind.wrap .i64 (p2 + 1))))) (fun (j4 : Unit → Option (Int × Int)) => fU p0 p2 j4 p1 n 0 ([] : List (ByteArray × Bool)))))))))))
theorem uT (self_view_validate : aJ → Int → Int → Option (Int × Int)) (ih_view_validate : ∀ (p0 : aJ) (p1 : Int) (p2 : Int) (r : (Int × Int)), self_view_validate p0 p1 p2 = some r → dI E 115 1 [B0 p0, A6 p1, A1 0 0] [G3 p2] (A6 r.1) [G3 r.2]) (n : Nat) (p0 : aJ) (p1 : Int) (p2 : Int) (r : (Int × Int)) (h : kA self_view_validate n p0 p1 p2 = some r) : dI E 115 1 [B0 p0, A6 p1, A1 0 0] [G3 p2] (A6 r.1) [G3 r.2] := by
 refine gT Tryz.func115 rfl ?_
 unfold kA at h
 refine za [1, 2, 3] ?_
 refine za [1, 2, 3] ?_
 refine aO ?_
 refine aK ?_
 refine za [1, 2, 3, 20] ?_
 refine zi h (fun h => ?_) fun h => ?_
 refine za [6] ?_
 cases h
 exact aI zr
 refine za [1, 2, 3, 23] ?_
 refine zi h (fun h => ?_) fun h => ?_
 refine za [6] ?_
 cases h
 exact aI zr
 refine zx fun _ => ?_
 refine zk 4 ?_
 refine zE (A1 1 0) ?_
 refine zE (A6 p0.Kind) ?_
 refine zE (L3 p0.Kind 13) ?_
 refine zP (.bool (A3 p0.Kind 1 13)) ?_
 refine zk 1 ?_
 refine mC [1, 2, 3, 28] (L2 := [C6 1 p1, J3, M9, (28, B2 (A3 p0.Kind 1 13))]) (G2 := [G3 (D2 p2 1), (1, A7 p0)]) 26 ?_
 refine zi h (fun h => ?_) fun h => ?_
 refine za [6] ?_
 cases h
 exact aI zr
 refine zx fun _ => ?_
 refine zk 2 ?_
 obtain ⟨y1, he, h⟩ := aB h
 refine zc fok130 (Np n _ y1 he) ?_
 clear he
 refine zk 2 ?_
 refine ze [1, 2, 3, 37] ?_
 refine zi h (fun h => ?_) fun h => ?_
 refine za [6] ?_
 cases h
 exact aI zr
 refine zx fun _ => ?_
 refine zk 2 ?_
 refine zl aM p0.Attrs ?_
 refine zk 2 ?_
 refine zE (A1 1 3) ?_
 refine zE (N4 p0.Actions) ?_
 refine lM (e := [(!(decide ((List.length p0.Attrs : Int) > 24)))]) [(49, N4 p0.Actions, some 1)] (v := .c (I (List.length p0.Actions : Int))) (foot := []) (by kernel_rfl) (by kernel_rfl) (by kernel_rfl) (fun hg => lY (enc := aD) (l := p0.Actions) (by kernel_rfl)) rfl rfl ?_
 refine zE (.c (Bo (decide ((List.length p0.Actions : Int) > 24)))) ?_
 refine zP (.bool ((decide ((List.length p0.Attrs : Int) > 24)) || (decide ((List.length p0.Actions : Int) > 24)))) ?_
 refine zk 1 ?_
 refine zE (A1 1 4) ?_
 refine zE (.c (G8 p0.Kids)) ?_
 refine lM (e := [(!((decide ((List.length p0.Attrs : Int) > 24)) || (decide ((List.length p0.Actions : Int) > 24))))]) [(55, .c (G8 p0.Kids), some 1)] (v := .c (I (List.length p0.Kids : Int))) (foot := []) (by kernel_rfl) (by kernel_rfl) (by kernel_rfl) (fun hg => lY (enc := bE) (l := p0.Kids) (by kernel_rfl)) rfl rfl ?_
 refine zE (.c (Bo (decide ((List.length p0.Kids : Int) > 100)))) ?_
 refine zP (.bool (((decide ((List.length p0.Attrs : Int) > 24)) || (decide ((List.length p0.Actions : Int) > 24))) || (decide ((List.length p0.Kids : Int) > 100)))) ?_
 refine zk 1 ?_
 refine mC [1, 2, 3, 42] (L2 := [C6 1 p1, J3, M9, (42, .c (Bo (((decide ((List.length p0.Attrs : Int) > 24)) || (decide ((List.length p0.Actions : Int) > 24))) || (decide ((List.length p0.Kids : Int) > 100)))))]) (G2 := [G3 (D2 p2 1), (1, A7 p0)]) 48 ?_
 refine zi h (fun h => ?_) fun h => ?_
 refine za [6] ?_
 cases h
 exact aI zr
 refine aC ?_
 refine aO ?_
 refine zx fun _ => ?_
 refine zk 2 ?_
 obtain ⟨y2, he, h⟩ := aB h
 refine zc fok131 (xK n _ y2 he) ?_
 clear he
 refine zk 1 ?_
 refine ze [1, 2, 3, 7] ?_
 refine za [1, 2, 3, 7, 63] ?_
 refine zi h (fun h => ?_) fun h => ?_
 refine za [6] ?_
 cases h
 exact aI zr
 refine aC ?_
 refine aO ?_
 refine zx fun _ => ?_
 refine zk 2 ?_
 obtain ⟨y3, he, h⟩ := aB h
 refine zc fok132 (Cn n _ y3 he) ?_
 clear he
 refine zk 1 ?_
 refine ze [1, 2, 3, 8] ?_
 refine za [1, 2, 3, 8, 69] ?_
 refine zi h (fun h => ?_) fun h => ?_
 refine za [6] ?_
 cases h
 exact aI zr
 refine aC ?_
 refine za [1, 2, 3, 9] ?_
 refine aX h (fun A j => ∀ u, j u = some r → A (mk [C6 1 p1, J3, M9] [G3 (D2 p2 1), (1, A7 p0)] 2)) (fun u h => ?_) (fun j4 Aj4 hj4 h => ?_)
 refine aX h (fun A j => ∀ v22, j v22 = some r → A (mk [] [G3 v22] 1)) (fun v22 h => ?_) (fun j13 Aj13 hj13 h => ?_)
 refine za [6] ?_
 cases h
 exact aI zr
 refine zx fun _ => ?_
 refine zk 2 ?_
 refine zl bE p0.Kids ?_
 refine zk 1 ?_
 refine ze [1, 2, 93, 94, 95] ?_
 refine aK ?_
 refine bJ (fun n s => ∃ v16 v17, fZ p0 self_view_validate p1 j13 n v16 v17 = some r ∧ s = mk [C6 1 p1, J3, (93, .c (G8 p0.Kids)), (94, .c (I (List.length p0.Kids : Int))), C6 95 v16] [G3 v17] 1) n _ (zv [(0, 0)] [1, 2, 93, 94, 95] 1) ⟨_, _, h, rfl⟩ (fun s ⟨v16, v17, h, _⟩ => nomatch h) ?_
 rintro n s ⟨v16, v17, h, rfl⟩
 rw [fZ] at h
 refine za [1, 2, 93, 94, 95, 96] ?_
 refine aO ?_
 refine zi h (fun h => ?_) fun h => ?_
 refine aC ?_
 refine aO ?_
 refine aK ?_
 refine zx fun _ => ?_
 obtain ⟨e18, he, h⟩ := aB h
 refine dT (v := .c (E5 e18)) (foot := []) (eK (enc := bE) (sz := 5) (l := p0.Kids) (ix := v16) he (by kernel_rfl) (iA e18) (by kernel_rfl)) (by kernel_rfl) rfl rfl ?_
 clear he
 refine zk 3 ?_
 refine ze [1, 2, 13, 93, 94, 95] ?_
 refine zx fun _ => ?_
 refine zk 4 ?_
 obtain ⟨y19, he, h⟩ := aB h
 refine zo [(0, 0)] Yi (ih_view_validate _ _ _ y19 he) ?_
 clear he
 refine zk 1 ?_
 refine ze [1, 2, 14, 93, 94, 95] ?_
 refine za [1, 2, 14, 93, 94, 95, 105] ?_
 refine zi h (fun h => ?_) fun h => ?_
 refine za [6] ?_
 cases h
 exact aI zr
 refine aC ?_
 refine bB ?_
 refine zb ?_
 exact eZ (zv [(0, 0)] [1, 2, 93, 94, 95] 1) (⟨_, _, h, rfl⟩)
 exact aL (zv [(0, 0)] [] 1) (bK (hj13 _ h))
 refine zx fun _ => ?_
 refine zk 2 ?_
 refine zl bE p0.Kids ?_
 refine zk 1 ?_
 refine mC [1, 2, 3, 9, 73, 74, 75] (L2 := [C6 1 p1, J3, M9, E6 9 60, (73, .c (G8 p0.Kids)), (74, .c (I (List.length p0.Kids : Int))), I9 75]) (G2 := [G3 (D2 p2 1), (1, A7 p0), (60, .map false (List.map (eM Value.string eB) ([] : List (ByteArray × Bool))))]) 66 ?_
 refine aK ?_
 refine bJ (fun n s => ∃ v7 v8, fU p0 p2 j4 p1 n v7 v8 = some r ∧ s = mk [C6 1 p1, J3, M9, E6 9 2, (73, .c (G8 p0.Kids)), (74, .c (I (List.length p0.Kids : Int))), C6 75 v7] [G3 (D2 p2 1), (1, A7 p0), (2, .map false (N1 v8))] 3) n _ (zv [(0, 0), (1, 1), (60, 2)] [1, 2, 3, 9, 73, 74, 75] 3) ⟨_, _, h, rfl⟩ (fun s ⟨v7, v8, h, _⟩ => nomatch h) ?_
 rintro n s ⟨v7, v8, h, rfl⟩
 rw [fU] at h
 refine za [1, 2, 3, 9, 73, 74, 75, 76] ?_
 refine aO ?_
 refine zi h (fun h => ?_) fun h => ?_
 refine aC ?_
 refine aO ?_
 refine aK ?_
 refine zx fun _ => ?_
 obtain ⟨e9, he, h⟩ := aB h
 refine dT (v := .c (E5 e9)) (foot := []) (eK (enc := bE) (sz := 5) (l := p0.Kids) (ix := v7) he (by kernel_rfl) (iA e9) (by kernel_rfl)) (by kernel_rfl) rfl rfl ?_
 clear he
 refine zk 3 ?_
 refine ze [1, 2, 3, 9, 11, 73, 74, 75] ?_
 refine aO ?_
 refine zx fun _ => ?_
 refine zk 4 ?_
 refine zE (.c (.mapr 2)) ?_
 refine zE (A1 6 1) ?_
 refine zE (F1 e9.Key) ?_
 obtain ⟨y10, he, h⟩ := aB h
 refine uH (e := [(!(bV e9.Key (⟨#[]⟩ : ByteArray)))]) [(83, .c (.mapr 2), some 1), (85, F1 e9.Key, some 1)] (v := .c (Bo y10.1)) (foot := [2]) (by kernel_rfl) (by kernel_rfl) (by kernel_rfl) (fun hg => cT (kf := Value.string) (enc := eB) (l := v8) (k := e9.Key) (ok := false) (kk := .str) (j := ⟨.boo, 1, 1, [.bool false]⟩) (p := y10) (v := .c (Bo y10.1)) (cD he hg) (by kernel_rfl) Kx (by kernel_rfl) (by kernel_rfl) (by kernel_rfl)) rfl rfl ?_
 clear he
 refine zP (.bool ((!(bV e9.Key (⟨#[]⟩ : ByteArray))) && y10.1)) ?_
 refine ze [1, 2, 3, 9, 11, 73, 74, 75, 87] ?_
 refine zi h (fun h => ?_) fun h => ?_
 refine za [6] ?_
 cases h
 exact aI zr
 refine aC ?_
 refine zy fun _ => ?_
 refine zk 3 ?_
 refine jM (kf := Value.string) (enc := eB) (l := v8) (k := e9.Key) (v := true) (n := 2) (ag := false) (kk := .str) (by kernel_rfl) Kx (by kernel_rfl) (by kernel_rfl) rfl rfl ?_
 refine cF ?_
 refine bB ?_
 refine zb ?_
 exact eZ (zv [(0, 0), (1, 1), (2, 2)] [1, 2, 3, 9, 73, 74, 75] 3) (⟨_, _, h, rfl⟩)
 exact aL (zv [(0, 0), (1, 1)] [1, 2, 3] 2) (bK (hj4 _ h))
def gG : Nat → aJ → Int → Int → Option (Int × Int)
 | 0, _, _, _ => none
 | n + 1, p0, p1, p2 => kA (fun a0 a1 a2 => gG n a0 a1 a2) n p0 p1 p2
theorem Ao (n : Nat) : (∀ (p0 : aJ) (p1 : Int) (p2 : Int) (r : (Int × Int)), gG n p0 p1 p2 = some r → dI E 115 1 [B0 p0, A6 p1, A1 0 0] [G3 p2] (A6 r.1) [G3 r.2]) := by
 induction n with
 | zero => intro p0 p1 p2 r h; rw [gG] at h; cases h
 | succ n ih => intro p0 p1 p2 r h; rw [gG] at h; exact uT _ ih n _ _ _ r h
def kQ  (n : Nat) (p0 : aJ) : Option Int := (gG n p0 1 0).bind fun (y1 : (Int × Int)) => some y1.1
theorem An  (n : Nat) (p0 : aJ) (r : Int) (h : kQ n p0 = some r) : dI E 95 0 [B0 p0] [] (A6 r) [] := by
 refine gT Tryz.func95 rfl ?_
 unfold kQ at h
 refine za [1] ?_
 refine za [1, 3] ?_
 refine zx fun _ => ?_
 refine zk 1 ?_
 obtain ⟨y1, he, h⟩ := aB h
 refine zo [(0, 2)] Yi (Ao n _ _ _ y1 he) ?_
 clear he
 refine zk 1 ?_
 refine ze [2] ?_
 cases h
 exact aI zr
def lR  (n : Nat) (p0 : bA) : Option ((List (Int × aP)) × aJ × Int) := (qR n p0).bind fun (y1 : ((List (Int × aP)) × Bool)) => (if (!y1.2) = true then some (([] : List (Int × aP)), (aJ.mk 0 (⟨#[]⟩ : ByteArray) ([] : List bD) ([] : List cU) ([] : List aJ)), 12) else (gJ n y1.1 p0.Root).bind fun (y2 : aJ) => (kQ n y2).bind fun (y3 : Int) => some (y1.1, y2, y3))
theorem uL  (n : Nat) (p0 : bA) (r : ((K5) × aJ × Int)) (h : lR n p0 = some r) : dI E 57 0 [C8 p0] [] (.tup [M8 r.1, B0 r.2.1, A6 r.2.2]) [] := by
 refine gT Tryz.func57 rfl ?_
 unfold lR at h
 refine za [1, 3] ?_
 refine zx fun _ => ?_
 refine zk 1 ?_
 obtain ⟨y1, he, h⟩ := aB h
 refine zc fok93 (Hh n _ y1 he) ?_
 clear he
 refine zk 5 ?_
 refine ze [1, 3, 5, 6] ?_
 refine aO ?_
 refine za [1, 3, 5, 14] ?_
 refine zi h (fun h => ?_) fun h => ?_
 refine za [2, 3, 4] ?_
 refine aL (pY 2 true (L2 := [L6, (2, .c (.lmap true (List.map (eM (A9) aE) ([] : List (Int × aP))))), (4, .c (I 12))]) (by kernel_rfl) (by kernel_rfl)) ?_
 cases h
 exact aI zr
 refine aC ?_
 refine zx fun _ => ?_
 refine zk 3 ?_
 obtain ⟨y2, he, h⟩ := aB h
 refine zc aBj (yW n _ _ y2 he) ?_
 clear he
 refine zk 2 ?_
 refine ze [3, 5, 7] ?_
 refine Dm [[], [], [], [2], [0, 3, 2], [1, 4, 0, 3, 2], [3, 5, 0, 1, 2, 4]] fun _ => ?_
 refine zk 3 ?_
 obtain ⟨y3, he, h⟩ := aB h
 refine zc fok95 (An n _ y3 he) ?_
 clear he
 refine zk 3 ?_
 refine mC [2, 3, 4] (L2 := [L6, (2, M8 y1.1), C6 4 y3]) (G2 := [L4 0 p0, (2, A7 y2), (17, A7 y2)]) 26 ?_
 cases h
 exact aI zr
def oF  (n : Nat) (p0 : bA) : Option Int := (lR n p0).bind fun (y1 : ((List (Int × aP)) × aJ × Int)) => some y1.2.2
theorem xE  (n : Nat) (p0 : bA) (r : Int) (h : oF n p0 = some r) : dI E 26 0 [C8 p0] [] (A6 r) [] := by
 refine gT Tryz.func26 rfl ?_
 unfold oF at h
 refine za [1] ?_
 refine zx fun _ => ?_
 refine zk 1 ?_
 obtain ⟨y1, he, h⟩ := aB h
 refine zc aBo (uL n _ y1 he) ?_
 clear he
 refine zk 8 ?_
 refine ze [5] ?_
 refine za [2] ?_
 cases h
 exact aI zr
def pH (self_view_value : aF → Option aF) (self_view_values : (List aF) → Option (List aF)) (n : Nat) (p0 : aF) : Option aF := (self_view_values p0.L).bind fun (y1 : (List aF)) => some (aF.mk p0.Kind p0.N p0.S y1)
theorem xV (self_view_value : aF → Option aF) (self_view_values : (List aF) → Option (List aF)) (ih_view_value : ∀ (p0 : aF) (r : aF), self_view_value p0 = some r → dI E 114 0 [B5 p0] [] (B5 r) []) (ih_view_values : ∀ (p0 : (List aF)) (r : (List aF)), self_view_values p0 = some r → dI E 129 0 [K8 p0] [] (K8 r) []) (n : Nat) (p0 : aF) (r : aF) (h : pH self_view_value self_view_values n p0 = some r) : dI E 114 0 [B5 p0] [] (B5 r) [] := by
 refine gT Tryz.func114 rfl ?_
 unfold pH at h
 refine za [1, 2] ?_
 refine zx fun _ => ?_
 refine zk 2 ?_
 obtain ⟨y1, he, h⟩ := aB h
 refine zc fok129 (ih_view_values _ y1 he) ?_
 clear he
 refine zk 2 ?_
 refine ze [1, 2] ?_
 refine za [2] ?_
 cases h
 exact aI zr
def nP (p0 : (List aF)) (self_view_value : aF → Option aF) (j1 : List aF → Option (List aF)) : Nat → List aF → Int → Option (List aF)
 | 0, _, _ => none
 | n + 1, v5, v6 => (if (decide (v6 < (List.length p0 : Int))) = true then (idx p0 v6).bind fun (e7 : aF) => (self_view_value e7).bind fun (y8 : aF) => (pD 56 v5 [y8]).bind fun (l9 : List aF) => nP p0 self_view_value j1 n l9 (IntKind.wrap .i64 (v6 + 1)) else j1 v5)
def oK (self_view_value : aF → Option aF) (self_view_values : (List aF) → Option (List aF)) (n : Nat) (p0 : (List aF)) : Option (List aF) := (aS (fun (v12 : List aF) => some v12) (fun (j1 : List aF → Option (List aF)) => nP p0 self_view_value j1 n ([] : List aF) 0))
theorem wV (self_view_value : aF → Option aF) (self_view_values : (List aF) → Option (List aF)) (ih_view_value : ∀ (p0 : aF) (r : aF), self_view_value p0 = some r → dI E 114 0 [B5 p0] [] (B5 r) []) (ih_view_values : ∀ (p0 : (List aF)) (r : (List aF)), self_view_values p0 = some r → dI E 129 0 [K8 p0] [] (K8 r) []) (n : Nat) (p0 : (List aF)) (r : (List aF)) (h : oK self_view_value self_view_values n p0 = some r) : dI E 129 0 [K8 p0] [] (K8 r) [] := by
 refine gT Tryz.func129 rfl ?_
 unfold oK at h
 refine za [0] ?_
 refine za [0, 3] ?_
 refine aX h (fun A j => ∀ v12, j v12 = some r → A (mk [(3, .c (M0 0 v12))] [B7 0 152 4 v12] 1)) (fun v12 h => ?_) (fun j1 Aj1 hj1 h => ?_)
 refine za [2] ?_
 cases h
 exact aI zr
 refine zx fun _ => ?_
 refine zk 1 ?_
 refine zl aQ p0 ?_
 refine zk 1 ?_
 refine ze [3, 6, 7, 8] ?_
 refine aK ?_
 refine bJ (fun n s => ∃ v5 v6, nP p0 self_view_value j1 n v5 v6 = some r ∧ s = mk [(3, .c (M0 0 v5)), (6, K8 p0), (7, .c (I (List.length p0 : Int))), C6 8 v6] [B7 0 152 4 v5] 1) n _ (eA.trans (nC (L2 := [(3, .c (.app 5 (List.map aQ ([] : List aF)))), (6, K8 p0), (7, .c (I (List.length p0 : Int))), I9 8]) (G2 := [(5, .tok 152 4 (List.length ([] : List aF)))]) (lim2 := 6) 3 152 4 (by kernel_rfl) (by kernel_rfl) (by kernel_rfl) (by kernel_rfl)) (zv [(5, 0)] [3, 6, 7, 8] 1)) ⟨_, _, h, rfl⟩ (fun s ⟨v5, v6, h, _⟩ => nomatch h) ?_
 rintro n s ⟨v5, v6, h, rfl⟩
 rw [nP] at h
 refine za [3, 6, 7, 8, 9] ?_
 refine aO ?_
 refine zi h (fun h => ?_) fun h => ?_
 refine aC ?_
 refine aO ?_
 refine aK ?_
 refine zx fun _ => ?_
 obtain ⟨e7, he, h⟩ := aB h
 refine dT (v := .c (J2 e7)) (foot := []) (eK (enc := aQ) (sz := 4) (l := p0) (ix := v6) he (by kernel_rfl) (dR e7) (by kernel_rfl)) (by kernel_rfl) rfl rfl ?_
 clear he
 refine zk 3 ?_
 refine ze [3, 5, 6, 7, 8] ?_
 refine zy fun _ => ?_
 refine zk 2 ?_
 obtain ⟨y8, he, h⟩ := aB h
 refine zc Yr (ih_view_value _ y8 he) ?_
 clear he
 refine rG (e := 152) (sz := 4) (len := 1) (r := [I y8.Kind, I y8.N, Sx y8.S, C5 y8.L]) (l' := List.map aQ [y8]) (nm := 9) (by kernel_rfl) (by simp only [List.map_cons, List.map_nil, dR]; kernel_rfl) (by kernel_rfl) (by kernel_rfl) rfl rfl rfl ?_
 obtain ⟨l9, he, h⟩ := aB h
 refine cH (enc := aQ) (l := v5) (els := [y8]) (r := l9) (old := some 0) (e := 152) (sz := 4) (bytes := 56) (k := (H4 v5)) (nm := 10) he (by kernel_rfl) (by kernel_rfl) (fun x => by rw [dR]; rfl) (by kernel_rfl) (by kernel_rfl) rfl rfl rfl ?_
 clear he
 refine zk 1 ?_
 refine cF ?_
 refine bB ?_
 refine zb ?_
 exact eZ (zv [(10, 0)] [3, 6, 7, 8] 1) (⟨_, _, h, rfl⟩)
 exact aL (zv [(0, 0)] [3] 1) (bK (hj1 _ h))
mutual
def lG : Nat → aF → Option aF
 | 0, _ => none
 | n + 1, p0 => pH (fun a0 => lG n a0) (fun a0 => oX n a0) n p0
def oX : Nat → (List aF) → Option (List aF)
 | 0, _ => none
 | n + 1, p0 => oK (fun a0 => lG n a0) (fun a0 => oX n a0) n p0
end
theorem Ck (n : Nat) : (∀ (p0 : aF) (r : aF), lG n p0 = some r → dI E 114 0 [B5 p0] [] (B5 r) []) ∧ (∀ (p0 : (List aF)) (r : (List aF)), oX n p0 = some r → dI E 129 0 [K8 p0] [] (K8 r) []) := by
 induction n with
 | zero => refine ⟨fun p0 r h => (by rw [lG] at h; cases h), fun p0 r h => (by rw [oX] at h; cases h)⟩
 | succ n ih =>
  obtain ⟨i0, i1⟩ := ih
  refine ⟨fun p0 r h => (by rw [lG] at h; exact xV _ _ i0 i1 n _ r h), fun p0 r h => (by rw [oX] at h; exact wV _ _ i0 i1 n _ r h)⟩
theorem Gx (n : Nat) : (∀ (p0 : aF) (r : aF), lG n p0 = some r → dI E 114 0 [B5 p0] [] (B5 r) []) := (Ck n).1
def eU (p0 : (List bD)) (p1 : ByteArray) (j1 : Unit → Option (aF × Bool)) : Nat → Int → Option (aF × Bool)
 | 0, _ => none
 | n + 1, v4 => (if (decide (v4 < (List.length p0 : Int))) = true then (idx p0 v4).bind fun (e5 : bD) => (if (bV e5.Name p1) = true then (lG n e5.Value).bind fun (y6 : aF) => some (y6, true) else eU p0 p1 j1 n (IntKind.wrap .i64 (v4 + 1))) else j1 ())
def rZ  (n : Nat) (p0 : (List bD)) (p1 : ByteArray) : Option (aF × Bool) := (aS (fun (_ : Unit) => some ((aF.mk 0 0 (⟨#[]⟩ : ByteArray) ([] : List aF)), false)) (fun (j1 : Unit → Option (aF × Bool)) => eU p0 p1 j1 n 0))
theorem Ka  (n : Nat) (p0 : (List bD)) (p1 : ByteArray) (r : (aF × Bool)) (h : rZ n p0 p1 = some r) : dI E 91 0 [.c (C7 p0), F1 p1] [] (.tup [B5 r.1, B2 r.2]) [] := by
 refine gT Tryz.func91 rfl ?_
 unfold rZ at h
 refine za [0, 1, 4] ?_
 refine aX h (fun A j => ∀ u, j u = some r → A (mk [M6] [(0, .blk 152 [I 0, I 0, Sx (⟨#[]⟩ : ByteArray), cQ])] 1)) (fun u h => ?_) (fun j1 Aj1 hj1 h => ?_)
 refine za [4, 5] ?_
 cases h
 exact aI zr
 refine zx fun _ => ?_
 refine zk 1 ?_
 refine zl aM p0 ?_
 refine zk 1 ?_
 refine ze [1, 4, 8, 9, 10] ?_
 refine aK ?_
 refine bJ (fun n s => ∃ v4, eU p0 p1 j1 n v4 = some r ∧ s = mk [(1, F1 p1), M6, (8, .c (C7 p0)), (9, .c (I (List.length p0 : Int))), C6 10 v4] [(0, .blk 152 [I 0, I 0, Sx (⟨#[]⟩ : ByteArray), cQ])] 1) n _ (zv [(0, 0)] [1, 4, 8, 9, 10] 1) ⟨_, h, rfl⟩ (fun s ⟨v4, h, _⟩ => nomatch h) ?_
 rintro n s ⟨v4, h, rfl⟩
 rw [eU] at h
 refine za [1, 4, 8, 9, 10, 11] ?_
 refine aO ?_
 refine zi h (fun h => ?_) fun h => ?_
 refine aC ?_
 refine aO ?_
 refine aK ?_
 refine zx fun _ => ?_
 obtain ⟨e5, he, h⟩ := aB h
 refine zd aM he ?_
 clear he
 refine zk 3 ?_
 refine ze [1, 4, 7, 8, 9, 10] ?_
 refine za [1, 4, 7, 8, 9, 10, 17] ?_
 refine zi h (fun h => ?_) fun h => ?_
 refine zx fun _ => ?_
 refine zk 2 ?_
 obtain ⟨y6, he, h⟩ := aB h
 refine zc Yr (Gx n _ y6 he) ?_
 clear he
 refine zk 2 ?_
 refine ze [4, 5] ?_
 cases h
 exact aI zr
 refine aC ?_
 refine bB ?_
 refine zb ?_
 exact eZ (zv [(0, 0)] [1, 4, 8, 9, 10] 1) (⟨_, h, rfl⟩)
 exact aL (zv [(0, 0)] [4] 1) (bK (hj1 _ h))
def mZ  (n : Nat) (p0 : (List bD)) (p1 : ByteArray) : Option ByteArray := (rZ n p0 p1).bind fun (y1 : (aF × Bool)) => (if (y1.1.Kind == 3) = true then some y1.1.S else some (⟨#[]⟩ : ByteArray))
theorem Jr  (n : Nat) (p0 : (List bD)) (p1 : ByteArray) (r : ByteArray) (h : mZ n p0 p1 = some r) : dI E 69 0 [.c (C7 p0), F1 p1] [] (F1 r) [] := by
 refine gT Tryz.func69 rfl ?_
 unfold mZ at h
 refine za [0, 1] ?_
 refine aO ?_
 refine zx fun _ => ?_
 refine zk 2 ?_
 obtain ⟨y1, he, h⟩ := aB h
 refine zc fok91 (Ka n _ _ y1 he) ?_
 clear he
 refine zk 6 ?_
 refine ze [5] ?_
 refine za [5, 15] ?_
 refine zi h (fun h => ?_) fun h => ?_
 refine za [4] ?_
 cases h
 exact aI zr
 refine aC ?_
 refine za [4] ?_
 cases h
 exact aI zr
theorem aAq : Qr E 101 bL (fun x => .agg (bL x)) := ⟨Tryz.f101, _, 2, _, _, _, _, _, _, _, _, _, Tryz.func101, rfl, rfl, by decide, rfl, fun D l y => by kernel_rfl, fun D l y i => by kernel_rfl, fun D l y i => by kernel_rfl, rfl, fun D l y i => by kernel_rfl, rfl, rfl, rfl, fun D l y i => by kernel_rfl, fun x => rfl, rfl, fun D l y i x => by kernel_rfl, rfl, rfl, rfl, rfl, rfl, fun D l y i b => by kernel_rfl, fun x => rfl⟩
def dA  (n : Nat) (p0 : (List aR)) : Option (List aR) := some p0
theorem iL  (n : Nat) (p0 : (List aR)) (r : (List aR)) (h : dA n p0 = some r) : dI E 70 0 [F0 p0] [] (M7 r) [] := by
 refine gT Tryz.func70 rfl ?_
 unfold dA at h
 refine za [1] ?_
 refine za [2] ?_
 refine aL (wP 0 (T := 40) (l := [.lit (List.map bL p0)]) (l2 := [.lit (List.map bL p0)]) (L2 := [(2, M7 p0)]) (G2 := []) (by kernel_rfl) (by kernel_rfl) (by kernel_rfl) (by kernel_rfl)) ?_
 cases h
 exact aI zr
def iV (n : Nat) (v12 : List (Int × aP)) (v13 : List (Int × ByteArray)) : List (Nat × aR) → List (Int × Int) → Option eI
 | [], v18 => some (eI.mk v12 v13 v18)
 | (i15, e16) :: t17, v18 => iV n v12 v13 t17 (fY e16.ID e16.States v18)
def jR (p0 : bA) (j1 : List (Int × aP) → List (Int × ByteArray) → Option eI) (p1 : (List aR)) : Nat → Int → List (Int × aP) → List (Int × ByteArray) → Option eI
 | 0, _, _, _ => none
 | n + 1, v4, v5, v6 => (if (decide (v4 < (List.length p0.Nodes : Int))) = true then (idx p0.Nodes v4).bind fun (e7 : aP) => (mZ n e7.Attrs (⟨#[99, 108, 97, 115, 115]⟩ : ByteArray)).bind fun (y8 : ByteArray) => jR p0 j1 p1 n (IntKind.wrap .i64 (v4 + 1)) (fY e7.ID e7 v5) (fY e7.ID y8 v6) else j1 v5 v6)
def oB  (n : Nat) (p0 : bA) (p1 : (List aR)) : Option eI := (aS (fun (v12 : List (Int × aP)) (v13 : List (Int × ByteArray)) => (dA n p1).bind fun (y14 : (List aR)) => (Ib y14).bind fun (_ : Unit) => iV n v12 v13 (Aa y14 (List.length y14)) ([] : List (Int × Int))) (fun (j1 : List (Int × aP) → List (Int × ByteArray) → Option eI) => jR p0 j1 p1 n 0 ([] : List (Int × aP)) ([] : List (Int × ByteArray))))
theorem tP  (n : Nat) (p0 : bA) (p1 : (List aR)) (r : eI) (h : oB n p0 p1 = some r) : dI E 36 0 [C8 p0, F0 p1] [] (I0 r) [] := by
 refine gT Tryz.func36 rfl ?_
 unfold oB at h
 refine za [1, 2, 4] ?_
 refine za [1, 2, 4, 5] ?_
 refine aX h (fun A j => ∀ v12 v13, j v12 v13 = some r → A (mk [(1, F0 p1), M6, C0 5 1 0] [(0, .blk 92 [.v (.map none), .v (.map none), .v (.map none)]), J7, (2, .map true (H8 v12)), (3, .map false (List.map (eM (A9) eS) v13)), (4, .map false (List.map (eM (A9) aH) ([] : List (Int × Int))))] 5)) (fun v12 v13 h => ?_) (fun j1 Aj1 hj1 h => ?_)
 refine aO ?_
 refine zx fun _ => ?_
 refine zk 1 ?_
 obtain ⟨y14, he, h⟩ := aB h
 refine zc fok70 (iL n _ y14 he) ?_
 clear he
 refine ze [4, 5, 35] ?_
 refine aK ?_
 refine aL (yE rfl [(0, 0), (1, 1), (2, 2), (3, 3), (4, 4)] [4, 5, 35] (L2 := [M6, C0 5 1 0, (35, M7 y14)]) (G2 := [(0, .blk 92 [.v (.map none), .v (.map none), .v (.map none)]), J7, (2, .map true (H8 v12)), (3, .map false (List.map (eM (A9) eS) v13)), (4, .map false (List.map (eM (A9) aH) ([] : List (Int × Int))))]) (lim2 := 5) (by kernel_rfl)) ?_
 obtain ⟨_, he, h⟩ := aB h
 refine aBa (l := y14) fok101 aAq (by kernel_rfl) (Xc he) (by kernel_rfl) (fun t G1 lim1 => ∃ (v18 : List (Int × Int)), iV n v12 v13 t v18 = some r ∧ G1 = [(0, .blk 92 [.v (.map none), .v (.map none), .v (.map none)]), J7, (2, .map true (H8 v12)), (3, .map false (List.map (eM (A9) eS) v13)), (4, .map false (List.map (eM (A9) aH) v18))] ∧ lim1 = 5) ⟨_, h, rfl, rfl⟩ (fun lp x t17 G1 lim1 hJ => ?_) (fun G1 lim1 hJ => ?_)
 obtain ⟨i15, e16⟩ := x
 obtain ⟨v18, h, rfl, rfl⟩ := hJ
 rw [iV] at h
 show AW _ _ (mk [M6, C0 5 1 0, (35, M7 y14), (36, .c (I (i15 : Int))), (37, .agg [I e16.ID, I e16.States])] [(0, .blk 92 [.v (.map none), .v (.map none), .v (.map none)]), J7, (2, .map true (H8 v12)), (3, .map false (List.map (eM (A9) eS) v13)), (4, .map false (List.map (eM (A9) aH) v18))] 5) _
 refine zb ?_
 refine aK ?_
 refine bB ?_
 refine zy fun _ => ?_
 refine zk 6 ?_
 refine jM (kf := (A9)) (enc := aH) (l := v18) (k := e16.ID) (v := e16.States) (n := 4) (ag := false) (kk := .int .i64) (by kernel_rfl) eE (by kernel_rfl) (by kernel_rfl) rfl rfl ?_
 refine cF ?_
 exact eZ (zv (L2 := []) [(0, 0), (1, 1), (2, 2), (3, 3), (4, 4)] [] 5) (⟨_, _, ⟨_, h, rfl, rfl⟩, rfl, rfl⟩)
 obtain ⟨v18, h, rfl, rfl⟩ := hJ
 rw [iV] at h
 refine za [4] ?_
 refine aL (sL 2 (ag := true) (l := List.map (eM (A9) aE) v12) (L2 := [M6]) (G2 := [(0, .blk 92 [C2 v12, .mapr 3, .mapr 4]), (1, .blk 92 [C2 v12, .mapr 3, .mapr 4]), (3, .map false (List.map (eM (A9) eS) v13)), (4, .map false (List.map (eM (A9) aH) v18))]) (by kernel_rfl) (by kernel_rfl) (by kernel_rfl)) ?_
 refine aL (sL 3 (ag := false) (l := List.map (eM (A9) eS) v13) (L2 := [M6]) (G2 := [(0, .blk 92 [C2 v12, C4 v13, .mapr 4]), (1, .blk 92 [C2 v12, C4 v13, .mapr 4]), (4, .map false (List.map (eM (A9) aH) v18))]) (by kernel_rfl) (by kernel_rfl) (by kernel_rfl)) ?_
 refine aL (sL 4 (ag := false) (l := List.map (eM (A9) aH) v18) (L2 := [M6]) (G2 := [(0, .blk 92 [C2 v12, C4 v13, D6 v18]), (1, .blk 92 [C2 v12, C4 v13, D6 v18])]) (by kernel_rfl) (by kernel_rfl) (by kernel_rfl)) ?_
 cases h
 exact aI zr
 refine zx fun _ => ?_
 refine zk 2 ?_
 refine zl aE p0.Nodes ?_
 refine zk 1 ?_
 refine ze [1, 4, 5, 15, 16, 17] ?_
 refine aK ?_
 refine bJ (fun n s => ∃ v4 v5 v6, jR p0 j1 p1 n v4 v5 v6 = some r ∧ s = mk [(1, F0 p1), M6, C0 5 1 0, (15, F7 p0.Nodes), (16, .c (I (List.length p0.Nodes : Int))), C6 17 v4] [(0, .blk 92 [.v (.map none), .v (.map none), .v (.map none)]), J7, (2, .map true (H8 v5)), (3, .map false (List.map (eM (A9) eS) v6)), (4, .map false (List.map (eM (A9) aH) ([] : List (Int × Int))))] 5) n _ (zv [(1, 0), (6, 1), (2, 2), (3, 3), (4, 4)] [1, 4, 5, 15, 16, 17] 5) ⟨_, _, _, h, rfl⟩ (fun s ⟨v4, v5, v6, h, _⟩ => nomatch h) ?_
 rintro n s ⟨v4, v5, v6, h, rfl⟩
 rw [jR] at h
 refine za [1, 4, 5, 15, 16, 17, 18] ?_
 refine aO ?_
 refine zi h (fun h => ?_) fun h => ?_
 refine aC ?_
 refine aO ?_
 refine aK ?_
 refine zx fun _ => ?_
 obtain ⟨e7, he, h⟩ := aB h
 refine zd aE he ?_
 clear he
 refine zk 3 ?_
 refine ze [1, 4, 5, 7, 15, 16, 17] ?_
 refine Uo [[], [0], [], [2], [], [4], [], [6], [], [], [9], [10, 9], [1, 3, 8, 11, 0, 2, 10, 9], [5, 7, 11, 12, 0, 1, 2, 3, 4, 6, 8, 9, 10]] fun _ => ?_
 refine zk 11 ?_
 obtain ⟨y8, he, h⟩ := aB h
 refine zc fok69 (Jr n _ _ y8 he) ?_
 clear he
 refine jM (kf := (A9)) (enc := aE) (l := v5) (k := e7.ID) (v := e7) (n := 2) (ag := true) (kk := .int .i64) (by kernel_rfl) eE (by kernel_rfl) (by kernel_rfl) rfl rfl ?_
 refine jM (kf := (A9)) (enc := eS) (l := v6) (k := e7.ID) (v := y8) (n := 3) (ag := false) (kk := .int .i64) (by kernel_rfl) eE (by kernel_rfl) (by kernel_rfl) rfl rfl ?_
 refine cF ?_
 refine bB ?_
 refine zb ?_
 exact eZ (zv [(0, 0), (1, 1), (2, 2), (3, 3), (4, 4)] [1, 4, 5, 15, 16, 17] 5) (⟨_, _, _, h, rfl⟩)
 exact aL (zv [(0, 0), (1, 1), (2, 2), (3, 3), (4, 4)] [1, 4, 5] 5) (bK (hj1 _ _ h))
def iO (p0 : bY) (j18 : Int → Option dH) (v17 : Int) : Nat → Int → Int → Option dH
 | 0, _, _ => none
 | n + 1, v21, v22 => (if (decide (v21 < 2)) = true then (aS (fun (v25 : Int) => iO p0 j18 v17 n (IntKind.wrap .i64 (v21 + 1)) v25) (fun (j23 : Int → Option dH) => (idx (dH.toL (dH.mk p0.Kind p0.UnderKind)) v21).bind fun (e24 : Int) => (if (e24 != 0) = true then j23 (IntKind.wrap .i64 (v22 + 1)) else j23 v22))) else j18 v22)
def eQ (j12 : Int → Option dH) (p0 : bY) : Nat → Int → Int → Option dH
 | 0, _, _ => none
 | n + 1, v13, v14 => (if (v13 != 0) = true then eQ j12 p0 n (mI .i64 v13 (IntKind.wrap .i64 (v13 - 1))) (IntKind.wrap .i64 (v14 + 1)) else j12 v14)
def iN (p0 : bY) (j1 : Int → Option dH) : Nat → Int → Int → Option dH
 | 0, _, _ => none
 | n + 1, v4, v5 => (if (decide (v4 < 2)) = true then (aS (fun (v8 : Int) => iN p0 j1 n (IntKind.wrap .i64 (v4 + 1)) v8) (fun (j6 : Int → Option dH) => (idx (cK.toL (cK.mk p0.Class p0.UnderClass)) v4).bind fun (e7 : ByteArray) => (if (!(bV e7 (⟨#[]⟩ : ByteArray))) = true then j6 (IntKind.wrap .i64 (v5 + 1)) else j6 v5))) else j1 v5)
def kF  (n : Nat) (p0 : bY) : Option dH := (aS (fun (v11 : Int) => (aS (fun (v17 : Int) => (aS (fun (v28 : Int) => some (dH.mk v17 v28)) (fun (j18 : Int → Option dH) => iO p0 j18 v17 n 0 0))) (fun (j12 : Int → Option dH) => eQ j12 p0 n p0.States v11))) (fun (j1 : Int → Option dH) => iN p0 j1 n 0 0))
theorem uK  (n : Nat) (p0 : bY) (r : dH) (h : kF n p0 = some r) : dI E 39 0 [F2 p0] [] (.agg [I r.x0, I r.x1]) [] := by
 refine gT Tryz.func39 rfl ?_
 unfold kF at h
 refine za [1, 2] ?_
 refine za [1, 2, 3] ?_
 refine aX h (fun A j => ∀ v11, j v11 = some r → A (mk [N3, M5, L6] [(0, B3 p0), (1, M2), (2, .blk 97 [I v11, I 0])] 3)) (fun v11 h => ?_) (fun j1 Aj1 hj1 h => ?_)
 refine aX h (fun A j => ∀ v17, j v17 = some r → A (mk [N3, M5, L6] [(0, B3 p0), (1, M2), (2, .blk 97 [I v17, I 0])] 3)) (fun v17 h => ?_) (fun j12 Aj12 hj12 h => ?_)
 refine aX h (fun A j => ∀ v28, j v28 = some r → A (mk [J3, M9] [(0, M2), (1, .blk 97 [I v17, I v28])] 2)) (fun v28 h => ?_) (fun j18 Aj18 hj18 h => ?_)
 refine za [2] ?_
 cases h
 exact aI zr
 refine za [2, 3, 40, 41] ?_
 refine aK ?_
 refine bJ (fun n s => ∃ v21 v22, iO p0 j18 v17 n v21 v22 = some r ∧ s = mk [J3, M9, (40, .agg [I p0.Kind, I p0.UnderKind]), C6 41 v21] [(0, M2), (1, .blk 97 [I v17, I v22])] 2) n _ (zv [(1, 0), (2, 1)] [2, 3, 40, 41] 2) ⟨_, _, h, rfl⟩ (fun s ⟨v21, v22, h, _⟩ => nomatch h) ?_
 rintro n s ⟨v21, v22, h, rfl⟩
 rw [iO] at h
 refine za [2, 3, 40, 41, 42] ?_
 refine aO ?_
 refine zi h (fun h => ?_) fun h => ?_
 refine aC ?_
 refine aX h (fun A j => ∀ v25, j v25 = some r → A (mk [J3, M9, (40, .agg [I p0.Kind, I p0.UnderKind]), C6 41 v21] [(0, M2), (1, .blk 97 [I v17, I v25])] 2)) (fun v25 h => ?_) (fun j23 Aj23 hj23 h => ?_)
 refine bB ?_
 refine zb ?_
 exact eZ (zv [(0, 0), (1, 1)] [2, 3, 40, 41] 2) (⟨_, _, h, rfl⟩)
 refine aK ?_
 refine zx fun _ => ?_
 obtain ⟨e24, he, h⟩ := aB h
 refine dT (v := .c (I e24)) (foot := []) (Cx (enc := aH) (xs := (dH.toL (dH.mk p0.Kind p0.UnderKind))) (ix := v21) (e := e24) (len := 2) (j := ⟨.int .i64, 1, 8, [.int .i64 0]⟩) (v := .c (I e24)) he (by kernel_rfl) (by kernel_rfl) (fun x => by kernel_rfl) (by decide) (by kernel_rfl)) (by kernel_rfl) rfl rfl ?_
 clear he
 refine zk 1 ?_
 refine ze [2, 3, 8, 40, 41] ?_
 refine za [2, 3, 40, 41, 45] ?_
 refine zi h (fun h => ?_) fun h => ?_
 refine bB ?_
 refine zb ?_
 exact eZ (zv [(0, 0), (1, 1)] [2, 3, 40, 41] 2) (hj23 _ h)
 exact aL (zv [(0, 0), (1, 1)] [2, 3, 40, 41] 2) (aC (hj23 _ h))
 exact aL (zv [(0, 0), (1, 1)] [2, 3] 2) (bK (hj18 _ h))
 refine za [1, 2, 3, 6] ?_
 refine aK ?_
 refine bJ (fun n s => ∃ v13 v14, eQ j12 p0 n v13 v14 = some r ∧ s = mk [N3, M5, L6, C6 6 v13] [(0, B3 p0), (1, M2), (2, .blk 97 [I v14, I 0])] 3) n _ (zv [(0, 0), (1, 1), (2, 2)] [1, 2, 3, 6] 3) ⟨_, _, h, rfl⟩ (fun s ⟨v13, v14, h, _⟩ => nomatch h) ?_
 rintro n s ⟨v13, v14, h, rfl⟩
 rw [eQ] at h
 refine aO ?_
 refine za [1, 2, 3, 6, 27] ?_
 refine zi h (fun h => ?_) fun h => ?_
 refine aC ?_
 refine aO ?_
 refine aK ?_
 refine zb ?_
 refine bB ?_
 refine zb ?_
 exact eZ (zv [(0, 0), (1, 1), (2, 2)] [1, 2, 3, 6] 3) (⟨_, _, h, rfl⟩)
 exact aL (zv [(0, 0), (1, 1), (2, 2)] [1, 2, 3] 3) (bK (hj12 _ h))
 refine za [1, 2, 3, 13, 14] ?_
 refine aK ?_
 refine bJ (fun n s => ∃ v4 v5, iN p0 j1 n v4 v5 = some r ∧ s = mk [N3, M5, L6, (13, .agg [Sx p0.Class, Sx p0.UnderClass]), C6 14 v4] [(0, B3 p0), (1, M2), (2, .blk 97 [I v5, I 0])] 3) n _ (zv [(0, 0), (1, 1), (2, 2)] [1, 2, 3, 13, 14] 3) ⟨_, _, h, rfl⟩ (fun s ⟨v4, v5, h, _⟩ => nomatch h) ?_
 rintro n s ⟨v4, v5, h, rfl⟩
 rw [iN] at h
 refine za [1, 2, 3, 13, 14, 15] ?_
 refine aO ?_
 refine zi h (fun h => ?_) fun h => ?_
 refine aC ?_
 refine aX h (fun A j => ∀ v8, j v8 = some r → A (mk [N3, M5, L6, (13, .agg [Sx p0.Class, Sx p0.UnderClass]), C6 14 v4] [(0, B3 p0), (1, M2), (2, .blk 97 [I v8, I 0])] 3)) (fun v8 h => ?_) (fun j6 Aj6 hj6 h => ?_)
 refine bB ?_
 refine zb ?_
 exact eZ (zv [(0, 0), (1, 1), (2, 2)] [1, 2, 3, 13, 14] 3) (⟨_, _, h, rfl⟩)
 refine aK ?_
 refine zx fun _ => ?_
 obtain ⟨e7, he, h⟩ := aB h
 refine dT (v := .c (Sx e7)) (foot := []) (Cx (enc := eS) (xs := (cK.toL (cK.mk p0.Class p0.UnderClass))) (ix := v4) (e := e7) (len := 2) (j := ⟨.str, 1, 16, [.string ⟨#[]⟩]⟩) (v := .c (Sx e7)) he (by kernel_rfl) (by kernel_rfl) (fun x => by kernel_rfl) (by decide) (by kernel_rfl)) (by kernel_rfl) rfl rfl ?_
 clear he
 refine zk 1 ?_
 refine ze [1, 2, 3, 5, 13, 14] ?_
 refine za [1, 2, 3, 13, 14, 18] ?_
 refine zi h (fun h => ?_) fun h => ?_
 refine bB ?_
 refine zb ?_
 exact eZ (zv [(0, 0), (1, 1), (2, 2)] [1, 2, 3, 13, 14] 3) (hj6 _ h)
 exact aL (zv [(0, 0), (1, 1), (2, 2)] [1, 2, 3, 13, 14] 3) (aC (hj6 _ h))
 exact aL (zv [(0, 0), (1, 1), (2, 2)] [1, 2, 3] 3) (bK (hj1 _ h))
def mH  (n : Nat) (p0 : Int) : Option Bool := some (p0 != p0)
theorem sJ  (n : Nat) (p0 : Int) (r : Bool) (h : mH n p0 = some r) : dI E 104 0 [A6 p0] [] (B2 r) [] := by
 refine gT Tryz.func104 rfl ?_
 unfold mH at h
 refine za [0] ?_
 refine za [2] ?_
 cases h
 exact aI zr
def gS  (n : Nat) (p0 : Int) (p1 : Int) : Option Int := (mH n p0).bind fun (y1 : Bool) => (mH n p1).bind fun (y2 : Bool) => (if y1 = true then (if y2 = true then some 0 else some (-1 : Int)) else (if y2 = true then some 1 else (if (decide (p0 < p1)) = true then some (-1 : Int) else (if (decide (p0 > p1)) = true then some 1 else some 0))))
theorem yA  (n : Nat) (p0 : Int) (p1 : Int) (r : Int) (h : gS n p0 p1 = some r) : dI E 72 0 [A6 p0, A6 p1] [] (A6 r) [] := by
 refine gT Tryz.func72 rfl ?_
 unfold gS at h
 refine za [0, 1] ?_
 refine zx fun _ => ?_
 refine zk 1 ?_
 obtain ⟨y1, he, h⟩ := aB h
 refine zc Uv (sJ n _ y1 he) ?_
 clear he
 refine zk 1 ?_
 refine ze [0, 1, 5] ?_
 refine zx fun _ => ?_
 refine zk 1 ?_
 obtain ⟨y2, he, h⟩ := aB h
 refine zc Uv (sJ n _ y2 he) ?_
 clear he
 refine zk 1 ?_
 refine ze [0, 1, 5, 6] ?_
 refine aO ?_
 refine za [0, 1, 6, 11] ?_
 refine zi h (fun h => ?_) fun h => ?_
 refine aO ?_
 refine za [12] ?_
 refine zi h (fun h => ?_) fun h => ?_
 refine za [4] ?_
 cases h
 exact aI zr
 refine aC ?_
 refine za [4] ?_
 cases h
 exact aI zr
 refine aC ?_
 refine aO ?_
 refine za [0, 1, 13] ?_
 refine zi h (fun h => ?_) fun h => ?_
 refine za [4] ?_
 cases h
 exact aI zr
 refine aC ?_
 refine aO ?_
 refine za [0, 1, 16] ?_
 refine zi h (fun h => ?_) fun h => ?_
 refine za [4] ?_
 cases h
 exact aI zr
 refine aC ?_
 refine aO ?_
 refine za [19] ?_
 refine zi h (fun h => ?_) fun h => ?_
 refine za [4] ?_
 cases h
 exact aI zr
 refine aC ?_
 refine za [4] ?_
 cases h
 exact aI zr
def fR (p0 : (List Int)) (p1 : (List Int)) (j1 : Unit → Option Int) : Nat → Int → Option Int
 | 0, _ => none
 | n + 1, v5 => (if (decide (v5 < (List.length p0 : Int))) = true then (idx p0 v5).bind fun (e6 : Int) => (if (decide (v5 ≥ (List.length p1 : Int))) = true then some 1 else (idx p1 v5).bind fun (e7 : Int) => (gS n e6 e7).bind fun (y8 : Int) => (if (y8 != 0) = true then some y8 else fR p0 p1 j1 n (IntKind.wrap .i64 (v5 + 1)))) else j1 ())
def fG  (n : Nat) (p0 : (List Int)) (p1 : (List Int)) : Option Int := (aS (fun (_ : Unit) => (if (decide ((List.length p0 : Int) < (List.length p1 : Int))) = true then some (-1 : Int) else some 0)) (fun (j1 : Unit → Option Int) => fR p0 p1 j1 n 0))
theorem qY  (n : Nat) (p0 : (M4)) (p1 : (M4)) (r : Int) (h : fG n p0 p1 = some r) : dI E 40 0 [.c (C1 p0), .c (C1 p1)] [] (A6 r) [] := by
 refine gT Tryz.func40 rfl ?_
 unfold fG at h
 refine za [0, 1] ?_
 refine aX h (fun A j => ∀ u, j u = some r → A (mk [H1 0 p0, H1 1 p1] [] 0)) (fun u h => ?_) (fun j1 Aj1 hj1 h => ?_)
 refine aO ?_
 refine zx fun _ => ?_
 refine zk 1 ?_
 refine zl aH p0 ?_
 refine zk 1 ?_
 refine zl aH p1 ?_
 refine zk 1 ?_
 refine ze [35] ?_
 refine zi h (fun h => ?_) fun h => ?_
 refine za [4] ?_
 cases h
 exact aI zr
 refine aC ?_
 refine za [4] ?_
 cases h
 exact aI zr
 refine zx fun _ => ?_
 refine zk 1 ?_
 refine zl aH p0 ?_
 refine zk 1 ?_
 refine ze [0, 1, 9, 10, 11] ?_
 refine aK ?_
 refine bJ (fun n s => ∃ v5, fR p0 p1 j1 n v5 = some r ∧ s = mk [H1 0 p0, H1 1 p1, H1 9 p0, (10, .c (I (List.length p0 : Int))), C6 11 v5] [] 0) n _ (zv [] [0, 1, 9, 10, 11] 0) ⟨_, h, rfl⟩ (fun s ⟨v5, h, _⟩ => nomatch h) ?_
 rintro n s ⟨v5, h, rfl⟩
 rw [fR] at h
 refine za [0, 1, 9, 10, 11, 12] ?_
 refine aO ?_
 refine zi h (fun h => ?_) fun h => ?_
 refine aC ?_
 refine aO ?_
 refine aK ?_
 refine zx fun _ => ?_
 refine zk 1 ?_
 obtain ⟨e6, he, h⟩ := aB h
 refine zd aH he ?_
 clear he
 refine zk 3 ?_
 refine ze [0, 1, 5, 6, 9, 10, 11] ?_
 refine aO ?_
 refine zx fun _ => ?_
 refine zk 2 ?_
 refine zl aH p1 ?_
 refine zk 1 ?_
 refine ze [0, 1, 5, 6, 9, 10, 11, 19] ?_
 refine zi h (fun h => ?_) fun h => ?_
 refine za [4] ?_
 cases h
 exact aI zr
 refine aC ?_
 refine zx fun _ => ?_
 refine zk 2 ?_
 obtain ⟨e7, he, h⟩ := aB h
 refine zd aH he ?_
 clear he
 refine zk 2 ?_
 refine mC [0, 1, 6, 7, 9, 10, 11] (L2 := [H1 0 p0, H1 1 p1, H1 9 p0, (10, .c (I (List.length p0 : Int))), C6 11 v5, C6 6 e6, C6 7 e7]) (G2 := []) 15 ?_
 refine zx fun _ => ?_
 refine zk 2 ?_
 obtain ⟨y8, he, h⟩ := aB h
 refine zc fok72 (yA n _ _ y8 he) ?_
 clear he
 refine zk 1 ?_
 refine ze [0, 1, 8, 9, 10, 11] ?_
 refine za [0, 1, 8, 9, 10, 11, 28] ?_
 refine zi h (fun h => ?_) fun h => ?_
 refine za [4] ?_
 cases h
 exact aI zr
 refine aC ?_
 refine bB ?_
 refine zb ?_
 exact eZ (zv [] [0, 1, 9, 10, 11] 0) (⟨_, h, rfl⟩)
 exact aL (zv [] [0, 1] 0) (bK (hj1 _ h))
def kN  (n : Nat) (p0 : Int) (p1 : Int) (p2 : bH) : Option Int := (idx p2.Rules p0).bind fun (e1 : bY) => (kF n e1).bind fun (y2 : dH) => (idx p2.Rules p1).bind fun (e3 : bY) => (kF n e3).bind fun (y4 : dH) => (fG n [y2.x0, y2.x1] [y4.x0, y4.x1]).bind fun (y5 : Int) => some y5
theorem xN  (n : Nat) (p0 : Int) (p1 : Int) (p2 : bH) (r : Int) (h : kN n p0 p1 p2 = some r) : dI E 38 0 [A6 p0, A6 p1, .c (.imm [D3 p2.Rules])] [] (A6 r) [] := by
 refine gT Tryz.func38 rfl ?_
 unfold kN at h
 refine za [0, 1, 2] ?_
 refine Dm [[], [0], [], [1, 2, 0], [3, 1, 2, 0], [4, 3, 1, 2, 0], [], [6], [], [7, 8, 6], [9, 7, 8, 6], [10, 5, 9, 7, 8, 6, 4, 3, 1, 2, 0], [], [], [12, 5, 11, 0, 1, 2, 3, 4, 10, 13, 9, 7, 8, 6], [13, 11, 14, 0, 1, 2, 3, 4, 5, 6, 7, 8, 9, 10, 12]] fun _ => ?_
 refine zk 3 ?_
 obtain ⟨e1, he, h⟩ := aB h
 refine zd bF he ?_
 clear he
 refine zk 1 ?_
 obtain ⟨y2, he, h⟩ := aB h
 refine zc aBn (uK n _ y2 he) ?_
 clear he
 refine zk 3 ?_
 obtain ⟨e3, he, h⟩ := aB h
 refine zd bF he ?_
 clear he
 refine zk 1 ?_
 obtain ⟨y4, he, h⟩ := aB h
 refine zc aBn (uK n _ y4 he) ?_
 clear he
 refine zk 4 ?_
 refine mC [6, 7] (L2 := [C0 6 13 0, C0 7 14 0]) (G2 := [(13, .blk 97 [I y2.x0, I y2.x1]), (14, .blk 97 [I y4.x0, I y4.x1])]) 17 ?_
 refine aL (wP 13 (T := 97) (l := [I y2.x0, I y2.x1]) (l2 := [I y2.x0, I y2.x1]) (L2 := [(6, .c (.imm [I y2.x0, I y2.x1])), C0 7 14 0]) (G2 := [(14, .blk 97 [I y4.x0, I y4.x1])]) (by kernel_rfl) (by kernel_rfl) (by kernel_rfl) (by kernel_rfl)) ?_
 refine aL (wP 14 (T := 97) (l := [I y4.x0, I y4.x1]) (l2 := [I y4.x0, I y4.x1]) (L2 := [(6, .c (.imm [I y2.x0, I y2.x1])), (7, .c (.imm [I y4.x0, I y4.x1]))]) (G2 := []) (by kernel_rfl) (by kernel_rfl) (by kernel_rfl) (by kernel_rfl)) ?_
 refine Dm [[], [], [0, 1], [2, 0, 1]] fun _ => ?_
 refine zw (v := .c (C1 [y2.x0, y2.x1])) [] (Fc (l := [I y2.x0, I y2.x1]) (len := 2) (sz := 1) (r := List.map aH [y2.x0, y2.x1]) (by kernel_rfl) (by kernel_rfl) (by kernel_rfl)) ?_
 refine zw (v := .c (C1 [y4.x0, y4.x1])) [] (Fc (l := [I y4.x0, I y4.x1]) (len := 2) (sz := 1) (r := List.map aH [y4.x0, y4.x1]) (by kernel_rfl) (by kernel_rfl) (by kernel_rfl)) ?_
 obtain ⟨y5, he, h⟩ := aB h
 refine zc fok40 (qY n _ _ y5 he) ?_
 clear he
 refine zk 1 ?_
 refine ze [5] ?_
 cases h
 exact aI zr
end Go.Proofs.YtojkihhnioeggaaGreatDoor.S
