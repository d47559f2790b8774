import Derived.Test.YtojkihhnioeggaaGreatDoorQRGM5
set_option linter.unusedVariables false
set_option linter.unusedSimpArgs false
set_option maxRecDepth 100000
set_option maxHeartbeats 4000000
namespace Go.Proofs.YtojkihhnioeggaaGreatDoor.S
open Go Go.Bm
def fS (p0 : aG) (self_view_validate : aG → Int → Int → Option (Int × Int)) (p1 : Int) (j13 : Int → Option (Int × Int)) : Nat → Int → Int → Option (Int × Int)
 | 0, _, _ => none
 | n + 1, v16, v17 => (if (decide (v16 < (List.length p0.Kids : Int))) = true then (idx p0.Kids v16).bind fun (e18 : aG) => (self_view_validate e18 (IntKind.wrap .i64 (p1 + 1)) v17).bind fun (y19 : (Int × Int)) => (if (y19.1 != 0) = true then some (y19.1, y19.2) else fS p0 self_view_validate p1 j13 n (IntKind.wrap .i64 (v16 + 1)) y19.2) else j13 v17)
def fP (p0 : aG) (p2 : Int) (j4 : Unit → Option (Int × Int)) (p1 : Int) : Nat → Int → List (ByteArray × Bool) → Option (Int × Int)
 | 0, _, _ => none
 | n + 1, v7, v8 => (if (decide (v7 < (List.length p0.Kids : Int))) = true then (idx p0.Kids v7).bind fun (e9 : aG) => (gd [(!(cS e9.Key (⟨#[]⟩ : ByteArray)))] (some (eN e9.Key v8, jZ e9.Key v8))).bind fun (y10 : (Bool × Bool)) => (if ((!(cS e9.Key (⟨#[]⟩ : ByteArray))) && y10.1) = true then some (6, (IntKind.wrap .i64 (p2 + 1))) else fP p0 p2 j4 p1 n (IntKind.wrap .i64 (v7 + 1)) (iF e9.Key true v8)) else j4 ())
def jS (self_view_validate : aG → Int → Int → Option (Int × Int)) (n : Nat) (p0 : aG) (p1 : Int) (p2 : Int) : Option (Int × Int) := (if (decide (p1 > 16)) = true then some (8, (IntKind.wrap .i64 (p2 + 1))) else (if (decide ((IntKind.wrap .i64 (p2 + 1)) > 400)) = true then some (2, (IntKind.wrap .i64 (p2 + 1))) else (if ((decide (p0.Kind < 1)) || (decide (p0.Kind > 13))) = true then some (9, (IntKind.wrap .i64 (p2 + 1))) else (xX n p0.Key).bind fun (y1 : Bool) => (if (!y1) = true then some (4, (IntKind.wrap .i64 (p2 + 1))) else (if (((decide ((List.length p0.Attrs : Int) > 24)) || (decide ((List.length p0.Actions : Int) > 24))) || (decide ((List.length p0.Kids : Int) > 100))) = true then some (2, (IntKind.wrap .i64 (p2 + 1))) else (mI n p0.Attrs).bind fun (y2 : Int) => (if (y2 != 0) = true then some (y2, (IntKind.wrap .i64 (p2 + 1))) else (nD n p0.Actions).bind fun (y3 : Int) => (if (y3 != 0) = true then some (y3, (IntKind.wrap .i64 (p2 + 1))) else (aR (fun (_ : Unit) => (aR (fun (v22 : Int) => some (0, v22)) (fun (j13 : Int → Option (Int × Int)) => fS p0 self_view_validate p1 j13 n 0 (IntKind.wrap .i64 (p2 + 1))))) (fun (j4 : Unit → Option (Int × Int)) => fP p0 p2 j4 p1 n 0 ([] : List (ByteArray × Bool)))))))))))
theorem uF (self_view_validate : aG → Int → Int → Option (Int × Int)) (ih_view_validate : ∀ (p0 : aG) (p1 : Int) (p2 : Int) (r : (Int × Int)), self_view_validate p0 p1 p2 = some r → dJ E 115 1 [A8 p0, A7 p1, C3 0 0] [F5 p2] (A7 r.1) [F5 r.2]) (n : Nat) (p0 : aG) (p1 : Int) (p2 : Int) (r : (Int × Int)) (h : jS self_view_validate n p0 p1 p2 = some r) : dJ E 115 1 [A8 p0, A7 p1, C3 0 0] [F5 p2] (A7 r.1) [F5 r.2] := by
 refine gY Tryz.func115 rfl ?_
 unfold jS at h
 refine za [1, 2, 3] ?_
 refine za [1, 2, 3] ?_
 refine aN ?_
 refine aI ?_
 refine za [1, 2, 3, 20] ?_
 refine zi h (fun h => ?_) fun h => ?_
 refine za [6] ?_
 cases h
 exact aH zr
 refine za [1, 2, 3, 23] ?_
 refine zi h (fun h => ?_) fun h => ?_
 refine za [6] ?_
 cases h
 exact aH zr
 refine zx fun _ => ?_
 refine zk 4 ?_
 refine zE (C3 1 0) ?_
 refine zE (A7 p0.Kind) ?_
 refine zE (K3 p0.Kind 13) ?_
 refine zP (.bool (A1 p0.Kind 1 13)) ?_
 refine zk 1 ?_
 refine mF [1, 2, 3, 28] (L2 := [C7 1 p1, I5, L5, (28, B3 (A1 p0.Kind 1 13))]) (G2 := [F5 (C4 p2 1), (1, A4 p0)]) 26 ?_
 refine zi h (fun h => ?_) fun h => ?_
 refine za [6] ?_
 cases h
 exact aH zr
 refine zx fun _ => ?_
 refine zk 2 ?_
 obtain ⟨y1, he, h⟩ := aB h
 refine zc fok130 (Mu n _ y1 he) ?_
 clear he
 refine zk 2 ?_
 refine ze [1, 2, 3, 37] ?_
 refine zi h (fun h => ?_) fun h => ?_
 refine za [6] ?_
 cases h
 exact aH zr
 refine zx fun _ => ?_
 refine zk 2 ?_
 refine zl aQ p0.Attrs ?_
 refine zk 2 ?_
 refine zE (C3 1 3) ?_
 refine zE (M1 p0.Actions) ?_
 refine kR (e := [(!(decide ((List.length p0.Attrs : Int) > 24)))]) [(49, M1 p0.Actions, some 1)] (v := .c (I (List.length p0.Actions : Int))) (foot := []) (by kernel_rfl) (by kernel_rfl) (by kernel_rfl) (fun hg => kX (enc := aF) (l := p0.Actions) (by kernel_rfl)) rfl rfl ?_
 refine zE (.c (Bo (decide ((List.length p0.Actions : Int) > 24)))) ?_
 refine zP (.bool ((decide ((List.length p0.Attrs : Int) > 24)) || (decide ((List.length p0.Actions : Int) > 24)))) ?_
 refine zk 1 ?_
 refine zE (C3 1 4) ?_
 refine zE (.c (G3 p0.Kids)) ?_
 refine kR (e := [(!((decide ((List.length p0.Attrs : Int) > 24)) || (decide ((List.length p0.Actions : Int) > 24))))]) [(55, .c (G3 p0.Kids), some 1)] (v := .c (I (List.length p0.Kids : Int))) (foot := []) (by kernel_rfl) (by kernel_rfl) (by kernel_rfl) (fun hg => kX (enc := bB) (l := p0.Kids) (by kernel_rfl)) rfl rfl ?_
 refine zE (.c (Bo (decide ((List.length p0.Kids : Int) > 100)))) ?_
 refine zP (.bool (((decide ((List.length p0.Attrs : Int) > 24)) || (decide ((List.length p0.Actions : Int) > 24))) || (decide ((List.length p0.Kids : Int) > 100)))) ?_
 refine zk 1 ?_
 refine mF [1, 2, 3, 42] (L2 := [C7 1 p1, I5, L5, (42, .c (Bo (((decide ((List.length p0.Attrs : Int) > 24)) || (decide ((List.length p0.Actions : Int) > 24))) || (decide ((List.length p0.Kids : Int) > 100)))))]) (G2 := [F5 (C4 p2 1), (1, A4 p0)]) 48 ?_
 refine zi h (fun h => ?_) fun h => ?_
 refine za [6] ?_
 cases h
 exact aH zr
 refine aC ?_
 refine aN ?_
 refine zx fun _ => ?_
 refine zk 2 ?_
 obtain ⟨y2, he, h⟩ := aB h
 refine zc fok131 (wR n _ y2 he) ?_
 clear he
 refine zk 1 ?_
 refine ze [1, 2, 3, 7] ?_
 refine za [1, 2, 3, 7, 63] ?_
 refine zi h (fun h => ?_) fun h => ?_
 refine za [6] ?_
 cases h
 exact aH zr
 refine aC ?_
 refine aN ?_
 refine zx fun _ => ?_
 refine zk 2 ?_
 obtain ⟨y3, he, h⟩ := aB h
 refine zc fok132 (Bx n _ y3 he) ?_
 clear he
 refine zk 1 ?_
 refine ze [1, 2, 3, 8] ?_
 refine za [1, 2, 3, 8, 69] ?_
 refine zi h (fun h => ?_) fun h => ?_
 refine za [6] ?_
 cases h
 exact aH zr
 refine aC ?_
 refine za [1, 2, 3, 9] ?_
 refine aV h (fun A j => ∀ u, j u = some r → A (mk [C7 1 p1, I5, L5] [F5 (C4 p2 1), (1, A4 p0)] 2)) (fun u h => ?_) (fun j4 Aj4 hj4 h => ?_)
 refine aV h (fun A j => ∀ v22, j v22 = some r → A (mk [] [F5 v22] 1)) (fun v22 h => ?_) (fun j13 Aj13 hj13 h => ?_)
 refine za [6] ?_
 cases h
 exact aH zr
 refine zx fun _ => ?_
 refine zk 2 ?_
 refine zl bB p0.Kids ?_
 refine zk 1 ?_
 refine ze [1, 2, 93, 94, 95] ?_
 refine aI ?_
 refine bH (fun n s => ∃ v16 v17, fS p0 self_view_validate p1 j13 n v16 v17 = some r ∧ s = mk [C7 1 p1, I5, (93, .c (G3 p0.Kids)), (94, .c (I (List.length p0.Kids : Int))), C7 95 v16] [F5 v17] 1) n _ (zv [(0, 0)] [1, 2, 93, 94, 95] 1) ⟨_, _, h, rfl⟩ (fun s ⟨v16, v17, h, _⟩ => nomatch h) ?_
 rintro n s ⟨v16, v17, h, rfl⟩
 rw [fS] at h
 refine za [1, 2, 93, 94, 95, 96] ?_
 refine aN ?_
 refine zi h (fun h => ?_) fun h => ?_
 refine aC ?_
 refine aN ?_
 refine aI ?_
 refine zx fun _ => ?_
 obtain ⟨e18, he, h⟩ := aB h
 refine dR (v := .c (D8 e18)) (foot := []) (eG (enc := bB) (sz := 5) (l := p0.Kids) (ix := v16) he (by kernel_rfl) (gW e18) (by kernel_rfl)) (by kernel_rfl) rfl rfl ?_
 clear he
 refine zk 3 ?_
 refine ze [1, 2, 13, 93, 94, 95] ?_
 refine zx fun _ => ?_
 refine zk 4 ?_
 obtain ⟨y19, he, h⟩ := aB h
 refine zo [(0, 0)] Xg (ih_view_validate _ _ _ y19 he) ?_
 clear he
 refine zk 1 ?_
 refine ze [1, 2, 14, 93, 94, 95] ?_
 refine za [1, 2, 14, 93, 94, 95, 105] ?_
 refine zi h (fun h => ?_) fun h => ?_
 refine za [6] ?_
 cases h
 exact aH zr
 refine aC ?_
 refine aY ?_
 refine zb ?_
 exact eU (zv [(0, 0)] [1, 2, 93, 94, 95] 1) (⟨_, _, h, rfl⟩)
 exact aJ (zv [(0, 0)] [] 1) (bI (hj13 _ h))
 refine zx fun _ => ?_
 refine zk 2 ?_
 refine zl bB p0.Kids ?_
 refine zk 1 ?_
 refine mF [1, 2, 3, 9, 73, 74, 75] (L2 := [C7 1 p1, I5, L5, F0 9 60, (73, .c (G3 p0.Kids)), (74, .c (I (List.length p0.Kids : Int))), I3 75]) (G2 := [F5 (C4 p2 1), (1, A4 p0), (60, .map false (List.map (eM Value.string eB) ([] : List (ByteArray × Bool))))]) 66 ?_
 refine aI ?_
 refine bH (fun n s => ∃ v7 v8, fP p0 p2 j4 p1 n v7 v8 = some r ∧ s = mk [C7 1 p1, I5, L5, F0 9 2, (73, .c (G3 p0.Kids)), (74, .c (I (List.length p0.Kids : Int))), C7 75 v7] [F5 (C4 p2 1), (1, A4 p0), (2, .map false (L7 v8))] 3) n _ (zv [(0, 0), (1, 1), (60, 2)] [1, 2, 3, 9, 73, 74, 75] 3) ⟨_, _, h, rfl⟩ (fun s ⟨v7, v8, h, _⟩ => nomatch h) ?_
 rintro n s ⟨v7, v8, h, rfl⟩
 rw [fP] at h
 refine za [1, 2, 3, 9, 73, 74, 75, 76] ?_
 refine aN ?_
 refine zi h (fun h => ?_) fun h => ?_
 refine aC ?_
 refine aN ?_
 refine aI ?_
 refine zx fun _ => ?_
 obtain ⟨e9, he, h⟩ := aB h
 refine dR (v := .c (D8 e9)) (foot := []) (eG (enc := bB) (sz := 5) (l := p0.Kids) (ix := v7) he (by kernel_rfl) (gW e9) (by kernel_rfl)) (by kernel_rfl) rfl rfl ?_
 clear he
 refine zk 3 ?_
 refine ze [1, 2, 3, 9, 11, 73, 74, 75] ?_
 refine aN ?_
 refine zx fun _ => ?_
 refine zk 4 ?_
 refine zE (.c (.mapr 2)) ?_
 refine zE (C3 6 1) ?_
 refine zE (E5 e9.Key) ?_
 obtain ⟨y10, he, h⟩ := aB h
 refine Dz (e := [(!(cS e9.Key (⟨#[]⟩ : ByteArray)))]) [(83, .c (.mapr 2), some 1), (85, E5 e9.Key, some 1)] (v := .c (Bo y10.1)) (foot := [2]) (by kernel_rfl) (by kernel_rfl) (by kernel_rfl) (fun hg => dH (kf := Value.string) (enc := eB) (l := v8) (k := e9.Key) (ok := false) (kk := .str) (j := ⟨.boo, 1, 1, [.bool false]⟩) (p := y10) (v := .c (Bo y10.1)) (cM he hg) (by kernel_rfl) Kf (by kernel_rfl) (by kernel_rfl) (by kernel_rfl)) rfl rfl ?_
 clear he
 refine zP (.bool ((!(cS e9.Key (⟨#[]⟩ : ByteArray))) && y10.1)) ?_
 refine ze [1, 2, 3, 9, 11, 73, 74, 75, 87] ?_
 refine zi h (fun h => ?_) fun h => ?_
 refine za [6] ?_
 cases h
 exact aH zr
 refine aC ?_
 refine zy fun _ => ?_
 refine zk 3 ?_
 refine kI (kf := Value.string) (enc := eB) (l := v8) (k := e9.Key) (v := true) (n := 2) (ag := false) (kk := .str) (by kernel_rfl) Kf (by kernel_rfl) (by kernel_rfl) rfl rfl ?_
 refine bY ?_
 refine aY ?_
 refine zb ?_
 exact eU (zv [(0, 0), (1, 1), (2, 2)] [1, 2, 3, 9, 73, 74, 75] 3) (⟨_, _, h, rfl⟩)
 exact aJ (zv [(0, 0), (1, 1)] [1, 2, 3] 2) (bI (hj4 _ h))
def fZ : Nat → aG → Int → Int → Option (Int × Int)
 | 0, _, _, _ => none
 | n + 1, p0, p1, p2 => jS (fun a0 a1 a2 => fZ n a0 a1 a2) n p0 p1 p2
theorem zW (n : Nat) : (∀ (p0 : aG) (p1 : Int) (p2 : Int) (r : (Int × Int)), fZ n p0 p1 p2 = some r → dJ E 115 1 [A8 p0, A7 p1, C3 0 0] [F5 p2] (A7 r.1) [F5 r.2]) := by
 induction n with
 | zero => intro p0 p1 p2 r h; rw [fZ] at h; cases h
 | succ n ih => intro p0 p1 p2 r h; rw [fZ] at h; exact uF _ ih n _ _ _ r h
def kJ  (n : Nat) (p0 : aG) : Option Int := (fZ n p0 1 0).bind fun (y1 : (Int × Int)) => some y1.1
theorem zV  (n : Nat) (p0 : aG) (r : Int) (h : kJ n p0 = some r) : dJ E 95 0 [A8 p0] [] (A7 r) [] := by
 refine gY Tryz.func95 rfl ?_
 unfold kJ at h
 refine za [1] ?_
 refine za [1, 3] ?_
 refine zx fun _ => ?_
 refine zk 1 ?_
 obtain ⟨y1, he, h⟩ := aB h
 refine zo [(0, 2)] Xg (zW n _ _ _ y1 he) ?_
 clear he
 refine zk 1 ?_
 refine ze [2] ?_
 cases h
 exact aH zr
def lN  (n : Nat) (p0 : bA) : Option ((List (Int × aP)) × aG × Int) := (qM n p0).bind fun (y1 : ((List (Int × aP)) × Bool)) => (if (!y1.2) = true then some (([] : List (Int × aP)), (aG.mk 0 (⟨#[]⟩ : ByteArray) ([] : List aZ) ([] : List cN) ([] : List aG)), 12) else (gC n y1.1 p0.Root).bind fun (y2 : aG) => (kJ n y2).bind fun (y3 : Int) => some (y1.1, y2, y3))
theorem tX  (n : Nat) (p0 : bA) (r : ((J8) × aG × Int)) (h : lN n p0 = some r) : dJ E 57 0 [E2 p0] [] (.tup [L8 r.1, A8 r.2.1, A7 r.2.2]) [] := by
 refine gY Tryz.func57 rfl ?_
 unfold lN at h
 refine za [1, 3] ?_
 refine zx fun _ => ?_
 refine zk 1 ?_
 obtain ⟨y1, he, h⟩ := aB h
 refine zc fok93 (Gm n _ y1 he) ?_
 clear he
 refine zk 5 ?_
 refine ze [1, 3, 5, 6] ?_
 refine aN ?_
 refine za [1, 3, 5, 14] ?_
 refine zi h (fun h => ?_) fun h => ?_
 refine za [2, 3, 4] ?_
 refine aJ (pS 2 true (L2 := [L3, (2, .c (.lmap true (List.map (eM (A6) aM) ([] : List (Int × aP))))), (4, .c (I 12))]) (by kernel_rfl) (by kernel_rfl)) ?_
 cases h
 exact aH zr
 refine aC ?_
 refine zx fun _ => ?_
 refine zk 3 ?_
 obtain ⟨y2, he, h⟩ := aB h
 refine zc aAi (yD n _ _ y2 he) ?_
 clear he
 refine zk 2 ?_
 refine ze [3, 5, 7] ?_
 refine Fu [[], [], [], [2], [0, 3, 2], [1, 4, 0, 3, 2], [3, 5, 0, 1, 2, 4]] fun _ => ?_
 refine zk 3 ?_
 obtain ⟨y3, he, h⟩ := aB h
 refine zc fok95 (zV n _ y3 he) ?_
 clear he
 refine zk 3 ?_
 refine mF [2, 3, 4] (L2 := [L3, (2, L8 y1.1), C7 4 y3]) (G2 := [(0, B1 p0), (2, A4 y2), (17, A4 y2)]) 26 ?_
 cases h
 exact aH zr
def qC  (n : Nat) (p0 : bA) : Option Int := (lN n p0).bind fun (y1 : ((List (Int × aP)) × aG × Int)) => some y1.2.2
theorem Gl  (n : Nat) (p0 : bA) (r : Int) (h : qC n p0 = some r) : dJ E 26 0 [E2 p0] [] (A7 r) [] := by
 refine gY Tryz.func26 rfl ?_
 unfold qC at h
 refine za [1] ?_
 refine zx fun _ => ?_
 refine zk 1 ?_
 obtain ⟨y1, he, h⟩ := aB h
 refine zc aAm (tX n _ y1 he) ?_
 clear he
 refine zk 8 ?_
 refine ze [5] ?_
 refine za [2] ?_
 cases h
 exact aH zr
def oZ (self_view_value : aD → Option aD) (self_view_values : (List aD) → Option (List aD)) (n : Nat) (p0 : aD) : Option aD := (self_view_values p0.L).bind fun (y1 : (List aD)) => some (aD.mk p0.Kind p0.N p0.S y1)
theorem xD (self_view_value : aD → Option aD) (self_view_values : (List aD) → Option (List aD)) (ih_view_value : ∀ (p0 : aD) (r : aD), self_view_value p0 = some r → dJ E 114 0 [B2 p0] [] (B2 r) []) (ih_view_values : ∀ (p0 : (List aD)) (r : (List aD)), self_view_values p0 = some r → dJ E 129 0 [K1 p0] [] (K1 r) []) (n : Nat) (p0 : aD) (r : aD) (h : oZ self_view_value self_view_values n p0 = some r) : dJ E 114 0 [B2 p0] [] (B2 r) [] := by
 refine gY Tryz.func114 rfl ?_
 unfold oZ at h
 refine za [1, 2] ?_
 refine zx fun _ => ?_
 refine zk 2 ?_
 obtain ⟨y1, he, h⟩ := aB h
 refine zc fok129 (ih_view_values _ y1 he) ?_
 clear he
 refine zk 2 ?_
 refine ze [1, 2] ?_
 refine za [2] ?_
 cases h
 exact aH zr
def nK (p0 : (List aD)) (self_view_value : aD → Option aD) (j1 : List aD → Option (List aD)) : Nat → List aD → Int → Option (List aD)
 | 0, _, _ => none
 | n + 1, v5, v6 => (if (decide (v6 < (List.length p0 : Int))) = true then (idx p0 v6).bind fun (e7 : aD) => (self_view_value e7).bind fun (y8 : aD) => (pE 56 v5 [y8]).bind fun (l9 : List aD) => nK p0 self_view_value j1 n l9 (IntKind.wrap .i64 (v6 + 1)) else j1 v5)
def oA (self_view_value : aD → Option aD) (self_view_values : (List aD) → Option (List aD)) (n : Nat) (p0 : (List aD)) : Option (List aD) := (aR (fun (v12 : List aD) => some v12) (fun (j1 : List aD → Option (List aD)) => nK p0 self_view_value j1 n ([] : List aD) 0))
theorem wF (self_view_value : aD → Option aD) (self_view_values : (List aD) → Option (List aD)) (ih_view_value : ∀ (p0 : aD) (r : aD), self_view_value p0 = some r → dJ E 114 0 [B2 p0] [] (B2 r) []) (ih_view_values : ∀ (p0 : (List aD)) (r : (List aD)), self_view_values p0 = some r → dJ E 129 0 [K1 p0] [] (K1 r) []) (n : Nat) (p0 : (List aD)) (r : (List aD)) (h : oA self_view_value self_view_values n p0 = some r) : dJ E 129 0 [K1 p0] [] (K1 r) [] := by
 refine gY Tryz.func129 rfl ?_
 unfold oA at h
 refine za [0] ?_
 refine za [0, 3] ?_
 refine aV h (fun A j => ∀ v12, j v12 = some r → A (mk [(3, .c (K6 0 v12))] [B7 0 152 4 v12] 1)) (fun v12 h => ?_) (fun j1 Aj1 hj1 h => ?_)
 refine za [2] ?_
 cases h
 exact aH zr
 refine zx fun _ => ?_
 refine zk 1 ?_
 refine zl aL p0 ?_
 refine zk 1 ?_
 refine ze [3, 6, 7, 8] ?_
 refine aI ?_
 refine bH (fun n s => ∃ v5 v6, nK p0 self_view_value j1 n v5 v6 = some r ∧ s = mk [(3, .c (K6 0 v5)), (6, K1 p0), (7, .c (I (List.length p0 : Int))), C7 8 v6] [B7 0 152 4 v5] 1) n _ (dY.trans (mY (L2 := [(3, .c (.app 5 (List.map aL ([] : List aD)))), (6, K1 p0), (7, .c (I (List.length p0 : Int))), I3 8]) (G2 := [(5, .tok 152 4 (List.length ([] : List aD)))]) (lim2 := 6) 3 152 4 (by kernel_rfl) (by kernel_rfl) (by kernel_rfl) (by kernel_rfl)) (zv [(5, 0)] [3, 6, 7, 8] 1)) ⟨_, _, h, rfl⟩ (fun s ⟨v5, v6, h, _⟩ => nomatch h) ?_
 rintro n s ⟨v5, v6, h, rfl⟩
 rw [nK] at h
 refine za [3, 6, 7, 8, 9] ?_
 refine aN ?_
 refine zi h (fun h => ?_) fun h => ?_
 refine aC ?_
 refine aN ?_
 refine aI ?_
 refine zx fun _ => ?_
 obtain ⟨e7, he, h⟩ := aB h
 refine dR (v := .c (I4 e7)) (foot := []) (eG (enc := aL) (sz := 4) (l := p0) (ix := v6) he (by kernel_rfl) (dO e7) (by kernel_rfl)) (by kernel_rfl) rfl rfl ?_
 clear he
 refine zk 3 ?_
 refine ze [3, 5, 6, 7, 8] ?_
 refine zy fun _ => ?_
 refine zk 2 ?_
 obtain ⟨y8, he, h⟩ := aB h
 refine zc Xq (ih_view_value _ y8 he) ?_
 clear he
 refine qZ (e := 152) (sz := 4) (len := 1) (r := [I y8.Kind, I y8.N, Sx y8.S, C2 y8.L]) (l' := List.map aL [y8]) (nm := 9) (by kernel_rfl) (by simp only [List.map_cons, List.map_nil, dO]; kernel_rfl) (by kernel_rfl) (by kernel_rfl) rfl rfl rfl ?_
 obtain ⟨l9, he, h⟩ := aB h
 refine cE (enc := aL) (l := v5) (els := [y8]) (r := l9) (old := some 0) (e := 152) (sz := 4) (bytes := 56) (k := (G8 v5)) (nm := 10) he (by kernel_rfl) (by kernel_rfl) (fun x => by rw [dO]; rfl) (by kernel_rfl) (by kernel_rfl) rfl rfl rfl ?_
 clear he
 refine zk 1 ?_
 refine bY ?_
 refine aY ?_
 refine zb ?_
 exact eU (zv [(10, 0)] [3, 6, 7, 8] 1) (⟨_, _, h, rfl⟩)
 exact aJ (zv [(0, 0)] [3] 1) (bI (hj1 _ h))
mutual
def lD : Nat → aD → Option aD
 | 0, _ => none
 | n + 1, p0 => oZ (fun a0 => lD n a0) (fun a0 => oP n a0) n p0
def oP : Nat → (List aD) → Option (List aD)
 | 0, _ => none
 | n + 1, p0 => oA (fun a0 => lD n a0) (fun a0 => oP n a0) n p0
end
theorem Bt (n : Nat) : (∀ (p0 : aD) (r : aD), lD n p0 = some r → dJ E 114 0 [B2 p0] [] (B2 r) []) ∧ (∀ (p0 : (List aD)) (r : (List aD)), oP n p0 = some r → dJ E 129 0 [K1 p0] [] (K1 r) []) := by
 induction n with
 | zero => refine ⟨fun p0 r h => (by rw [lD] at h; cases h), fun p0 r h => (by rw [oP] at h; cases h)⟩
 | succ n ih =>
  obtain ⟨i0, i1⟩ := ih
  refine ⟨fun p0 r h => (by rw [lD] at h; exact xD _ _ i0 i1 n _ r h), fun p0 r h => (by rw [oP] at h; exact wF _ _ i0 i1 n _ r h)⟩
theorem Gb (n : Nat) : (∀ (p0 : aD) (r : aD), lD n p0 = some r → dJ E 114 0 [B2 p0] [] (B2 r) []) := (Bt n).1
def eQ (p0 : (List aZ)) (p1 : ByteArray) (j1 : Unit → Option (aD × Bool)) : Nat → Int → Option (aD × Bool)
 | 0, _ => none
 | n + 1, v4 => (if (decide (v4 < (List.length p0 : Int))) = true then (idx p0 v4).bind fun (e5 : aZ) => (if (cS e5.Name p1) = true then (lD n e5.Value).bind fun (y6 : aD) => some (y6, true) else eQ p0 p1 j1 n (IntKind.wrap .i64 (v4 + 1))) else j1 ())
def rQ  (n : Nat) (p0 : (List aZ)) (p1 : ByteArray) : Option (aD × Bool) := (aR (fun (_ : Unit) => some ((aD.mk 0 0 (⟨#[]⟩ : ByteArray) ([] : List aD)), false)) (fun (j1 : Unit → Option (aD × Bool)) => eQ p0 p1 j1 n 0))
theorem Jd  (n : Nat) (p0 : (List aZ)) (p1 : ByteArray) (r : (aD × Bool)) (h : rQ n p0 p1 = some r) : dJ E 91 0 [.c (B6 p0), E5 p1] [] (.tup [B2 r.1, B3 r.2]) [] := by
 refine gY Tryz.func91 rfl ?_
 unfold rQ at h
 refine za [0, 1, 4] ?_
 refine aV h (fun A j => ∀ u, j u = some r → A (mk [K2] [(0, .blk 152 [I 0, I 0, Sx (⟨#[]⟩ : ByteArray), cJ])] 1)) (fun u h => ?_) (fun j1 Aj1 hj1 h => ?_)
 refine za [4, 5] ?_
 cases h
 exact aH zr
 refine zx fun _ => ?_
 refine zk 1 ?_
 refine zl aQ p0 ?_
 refine zk 1 ?_
 refine ze [1, 4, 8, 9, 10] ?_
 refine aI ?_
 refine bH (fun n s => ∃ v4, eQ p0 p1 j1 n v4 = some r ∧ s = mk [(1, E5 p1), K2, (8, .c (B6 p0)), (9, .c (I (List.length p0 : Int))), C7 10 v4] [(0, .blk 152 [I 0, I 0, Sx (⟨#[]⟩ : ByteArray), cJ])] 1) n _ (zv [(0, 0)] [1, 4, 8, 9, 10] 1) ⟨_, h, rfl⟩ (fun s ⟨v4, h, _⟩ => nomatch h) ?_
 rintro n s ⟨v4, h, rfl⟩
 rw [eQ] at h
 refine za [1, 4, 8, 9, 10, 11] ?_
 refine aN ?_
 refine zi h (fun h => ?_) fun h => ?_
 refine aC ?_
 refine aN ?_
 refine aI ?_
 refine zx fun _ => ?_
 obtain ⟨e5, he, h⟩ := aB h
 refine zd aQ he ?_
 clear he
 refine zk 3 ?_
 refine ze [1, 4, 7, 8, 9, 10] ?_
 refine za [1, 4, 7, 8, 9, 10, 17] ?_
 refine zi h (fun h => ?_) fun h => ?_
 refine zx fun _ => ?_
 refine zk 2 ?_
 obtain ⟨y6, he, h⟩ := aB h
 refine zc Xq (Gb n _ y6 he) ?_
 clear he
 refine zk 2 ?_
 refine ze [4, 5] ?_
 cases h
 exact aH zr
 refine aC ?_
 refine aY ?_
 refine zb ?_
 exact eU (zv [(0, 0)] [1, 4, 8, 9, 10] 1) (⟨_, h, rfl⟩)
 exact aJ (zv [(0, 0)] [4] 1) (bI (hj1 _ h))
def mV  (n : Nat) (p0 : (List aZ)) (p1 : ByteArray) : Option ByteArray := (rQ n p0 p1).bind fun (y1 : (aD × Bool)) => (if (y1.1.Kind == 3) = true then some y1.1.S else some (⟨#[]⟩ : ByteArray))
theorem Iu  (n : Nat) (p0 : (List aZ)) (p1 : ByteArray) (r : ByteArray) (h : mV n p0 p1 = some r) : dJ E 69 0 [.c (B6 p0), E5 p1] [] (E5 r) [] := by
 refine gY Tryz.func69 rfl ?_
 unfold mV at h
 refine za [0, 1] ?_
 refine aN ?_
 refine zx fun _ => ?_
 refine zk 2 ?_
 obtain ⟨y1, he, h⟩ := aB h
 refine zc fok91 (Jd n _ _ y1 he) ?_
 clear he
 refine zk 6 ?_
 refine ze [5] ?_
 refine za [5, 15] ?_
 refine zi h (fun h => ?_) fun h => ?_
 refine za [4] ?_
 cases h
 exact aH zr
 refine aC ?_
 refine za [4] ?_
 cases h
 exact aH zr
theorem Zt : Ps E 101 cO (fun x => .agg (cO x)) := ⟨Tryz.f101, _, 2, _, _, _, _, _, _, _, _, _, Tryz.func101, rfl, rfl, by decide, rfl, fun D l y => by kernel_rfl, fun D l y i => by kernel_rfl, fun D l y i => by kernel_rfl, rfl, fun D l y i => by kernel_rfl, rfl, rfl, rfl, fun D l y i => by kernel_rfl, fun x => rfl, rfl, fun D l y i x => by kernel_rfl, rfl, rfl, rfl, rfl, rfl, fun D l y i b => by kernel_rfl, fun x => rfl⟩
def cX  (n : Nat) (p0 : (List aT)) : Option (List aT) := some p0
theorem iH  (n : Nat) (p0 : (List aT)) (r : (List aT)) (h : cX n p0 = some r) : dJ E 70 0 [.c (I2 p0)] [] (.c (.fn 101 [.imm [I2 r]])) [] := by
 refine gY Tryz.func70 rfl ?_
 unfold cX at h
 refine za [1] ?_
 refine za [2] ?_
 refine aJ (wB 0 (T := 40) (l := [I2 p0]) (l2 := [I2 p0]) (L2 := [(2, .c (.fn 101 [.imm [I2 p0]]))]) (G2 := []) (by kernel_rfl) (by kernel_rfl) (by kernel_rfl) (by kernel_rfl)) ?_
 cases h
 exact aH zr
def iS (n : Nat) (v12 : List (Int × aP)) (v13 : List (Int × ByteArray)) : List (Nat × aT) → List (Int × Int) → Option iY
 | [], v18 => some (iY.mk v12 v13 v18)
 | (i15, e16) :: t17, v18 => iS n v12 v13 t17 (iF e16.ID e16.States v18)
def jL (p0 : bA) (j1 : List (Int × aP) → List (Int × ByteArray) → Option iY) (p1 : (List aT)) : Nat → Int → List (Int × aP) → List (Int × ByteArray) → Option iY
 | 0, _, _, _ => none
 | n + 1, v4, v5, v6 => (if (decide (v4 < (List.length p0.Nodes : Int))) = true then (idx p0.Nodes v4).bind fun (e7 : aP) => (mV n e7.Attrs (⟨#[99, 108, 97, 115, 115]⟩ : ByteArray)).bind fun (y8 : ByteArray) => jL p0 j1 p1 n (IntKind.wrap .i64 (v4 + 1)) (iF e7.ID e7 v5) (iF e7.ID y8 v6) else j1 v5 v6)
def rU  (n : Nat) (p0 : bA) (p1 : (List aT)) : Option iY := (aR (fun (v12 : List (Int × aP)) (v13 : List (Int × ByteArray)) => (cX n p1).bind fun (y14 : (List aT)) => (He y14).bind fun (_ : Unit) => iS n v12 v13 (zH y14 (List.length y14)) ([] : List (Int × Int))) (fun (j1 : List (Int × aP) → List (Int × ByteArray) → Option iY) => jL p0 j1 p1 n 0 ([] : List (Int × aP)) ([] : List (Int × ByteArray))))
theorem Ja  (n : Nat) (p0 : bA) (p1 : (List aT)) (r : iY) (h : rU n p0 p1 = some r) : dJ E 36 0 [E2 p0, .c (I2 p1)] [] (J2 r) [] := by
 refine gY Tryz.func36 rfl ?_
 unfold rU at h
 refine za [1, 2, 4] ?_
 refine za [1, 2, 4, 5] ?_
 refine aV h (fun A j => ∀ v12 v13, j v12 v13 = some r → A (mk [(1, .c (I2 p1)), K2, A2 5 1 0] [(0, .blk 92 [.v (.map none), .v (.map none), .v (.map none)]), I9, (2, .map true (H0 v12)), (3, .map false (List.map (eM (A6) eS) v13)), (4, .map false (List.map (eM (A6) aO) ([] : List (Int × Int))))] 5)) (fun v12 v13 h => ?_) (fun j1 Aj1 hj1 h => ?_)
 refine aN ?_
 refine zx fun _ => ?_
 refine zk 1 ?_
 obtain ⟨y14, he, h⟩ := aB h
 refine zc fok70 (iH n _ y14 he) ?_
 clear he
 refine ze [4, 5, 35] ?_
 refine aI ?_
 refine aJ (xM rfl [(0, 0), (1, 1), (2, 2), (3, 3), (4, 4)] [4, 5, 35] (L2 := [K2, A2 5 1 0, (35, .c (.fn 101 [.imm [I2 y14]]))]) (G2 := [(0, .blk 92 [.v (.map none), .v (.map none), .v (.map none)]), I9, (2, .map true (H0 v12)), (3, .map false (List.map (eM (A6) eS) v13)), (4, .map false (List.map (eM (A6) aO) ([] : List (Int × Int))))]) (lim2 := 5) (by kernel_rfl)) ?_
 obtain ⟨_, he, h⟩ := aB h
 refine aAc (l := y14) fok101 Zt (by kernel_rfl) (Wb he) (by kernel_rfl) (fun t G1 lim1 => ∃ (v18 : List (Int × Int)), iS n v12 v13 t v18 = some r ∧ G1 = [(0, .blk 92 [.v (.map none), .v (.map none), .v (.map none)]), I9, (2, .map true (H0 v12)), (3, .map false (List.map (eM (A6) eS) v13)), (4, .map false (List.map (eM (A6) aO) v18))] ∧ lim1 = 5) ⟨_, h, rfl, rfl⟩ (fun lp x t17 G1 lim1 hJ => ?_) (fun G1 lim1 hJ => ?_)
 obtain ⟨i15, e16⟩ := x
 obtain ⟨v18, h, rfl, rfl⟩ := hJ
 rw [iS] at h
 show AW _ _ (mk [K2, A2 5 1 0, (35, .c (.fn 101 [.imm [I2 y14]])), (36, .c (I (i15 : Int))), (37, .agg [I e16.ID, I e16.States])] [(0, .blk 92 [.v (.map none), .v (.map none), .v (.map none)]), I9, (2, .map true (H0 v12)), (3, .map false (List.map (eM (A6) eS) v13)), (4, .map false (List.map (eM (A6) aO) v18))] 5) _
 refine zb ?_
 refine aI ?_
 refine aY ?_
 refine zy fun _ => ?_
 refine zk 6 ?_
 refine kI (kf := (A6)) (enc := aO) (l := v18) (k := e16.ID) (v := e16.States) (n := 4) (ag := false) (kk := .int .i64) (by kernel_rfl) gS (by kernel_rfl) (by kernel_rfl) rfl rfl ?_
 refine bY ?_
 exact eU (zv (L2 := []) [(0, 0), (1, 1), (2, 2), (3, 3), (4, 4)] [] 5) (⟨_, _, ⟨_, h, rfl, rfl⟩, rfl, rfl⟩)
 obtain ⟨v18, h, rfl, rfl⟩ := hJ
 rw [iS] at h
 refine za [4] ?_
 refine aJ (sB 2 (ag := true) (l := List.map (eM (A6) aM) v12) (L2 := [K2]) (G2 := [(0, .blk 92 [B8 v12, .mapr 3, .mapr 4]), (1, .blk 92 [B8 v12, .mapr 3, .mapr 4]), (3, .map false (List.map (eM (A6) eS) v13)), (4, .map false (List.map (eM (A6) aO) v18))]) (by kernel_rfl) (by kernel_rfl) (by kernel_rfl)) ?_
 refine aJ (sB 3 (ag := false) (l := List.map (eM (A6) eS) v13) (L2 := [K2]) (G2 := [(0, .blk 92 [B8 v12, D2 v13, .mapr 4]), (1, .blk 92 [B8 v12, D2 v13, .mapr 4]), (4, .map false (List.map (eM (A6) aO) v18))]) (by kernel_rfl) (by kernel_rfl) (by kernel_rfl)) ?_
 refine aJ (sB 4 (ag := false) (l := List.map (eM (A6) aO) v18) (L2 := [K2]) (G2 := [(0, .blk 92 [B8 v12, D2 v13, D9 v18]), (1, .blk 92 [B8 v12, D2 v13, D9 v18])]) (by kernel_rfl) (by kernel_rfl) (by kernel_rfl)) ?_
 cases h
 exact aH zr
 refine zx fun _ => ?_
 refine zk 2 ?_
 refine zl aM p0.Nodes ?_
 refine zk 1 ?_
 refine ze [1, 4, 5, 15, 16, 17] ?_
 refine aI ?_
 refine bH (fun n s => ∃ v4 v5 v6, jL p0 j1 p1 n v4 v5 v6 = some r ∧ s = mk [(1, .c (I2 p1)), K2, A2 5 1 0, (15, F4 p0.Nodes), (16, .c (I (List.length p0.Nodes : Int))), C7 17 v4] [(0, .blk 92 [.v (.map none), .v (.map none), .v (.map none)]), I9, (2, .map true (H0 v5)), (3, .map false (List.map (eM (A6) eS) v6)), (4, .map false (List.map (eM (A6) aO) ([] : List (Int × Int))))] 5) n _ (zv [(1, 0), (6, 1), (2, 2), (3, 3), (4, 4)] [1, 4, 5, 15, 16, 17] 5) ⟨_, _, _, h, rfl⟩ (fun s ⟨v4, v5, v6, h, _⟩ => nomatch h) ?_
 rintro n s ⟨v4, v5, v6, h, rfl⟩
 rw [jL] at h
 refine za [1, 4, 5, 15, 16, 17, 18] ?_
 refine aN ?_
 refine zi h (fun h => ?_) fun h => ?_
 refine aC ?_
 refine aN ?_
 refine aI ?_
 refine zx fun _ => ?_
 obtain ⟨e7, he, h⟩ := aB h
 refine zd aM he ?_
 clear he
 refine zk 3 ?_
 refine ze [1, 4, 5, 7, 15, 16, 17] ?_
 refine Tm [[], [0], [], [2], [], [4], [], [6], [], [], [9], [10, 9], [1, 3, 8, 11, 0, 2, 10, 9], [5, 7, 11, 12, 0, 1, 2, 3, 4, 6, 8, 9, 10]] fun _ => ?_
 refine zk 11 ?_
 obtain ⟨y8, he, h⟩ := aB h
 refine zc fok69 (Iu n _ _ y8 he) ?_
 clear he
 refine kI (kf := (A6)) (enc := aM) (l := v5) (k := e7.ID) (v := e7) (n := 2) (ag := true) (kk := .int .i64) (by kernel_rfl) gS (by kernel_rfl) (by kernel_rfl) rfl rfl ?_
 refine kI (kf := (A6)) (enc := eS) (l := v6) (k := e7.ID) (v := y8) (n := 3) (ag := false) (kk := .int .i64) (by kernel_rfl) gS (by kernel_rfl) (by kernel_rfl) rfl rfl ?_
 refine bY ?_
 refine aY ?_
 refine zb ?_
 exact eU (zv [(0, 0), (1, 1), (2, 2), (3, 3), (4, 4)] [1, 4, 5, 15, 16, 17] 5) (⟨_, _, _, h, rfl⟩)
 exact aJ (zv [(0, 0), (1, 1), (2, 2), (3, 3), (4, 4)] [1, 4, 5] 5) (bI (hj1 _ _ h))
def iK (p0 : bT) (j18 : Int → Option dD) (v17 : Int) : Nat → Int → Int → Option dD
 | 0, _, _ => none
 | n + 1, v21, v22 => (if (decide (v21 < 2)) = true then (aR (fun (v25 : Int) => iK p0 j18 v17 n (IntKind.wrap .i64 (v21 + 1)) v25) (fun (j23 : Int → Option dD) => (idx (dD.toL (dD.mk p0.Kind p0.UnderKind)) v21).bind fun (e24 : Int) => (if (e24 != 0) = true then j23 (IntKind.wrap .i64 (v22 + 1)) else j23 v22))) else j18 v22)
def eK (j12 : Int → Option dD) (p0 : bT) : Nat → Int → Int → Option dD
 | 0, _, _ => none
 | n + 1, v13, v14 => (if (v13 != 0) = true then eK j12 p0 n (mD .i64 v13 (IntKind.wrap .i64 (v13 - 1))) (IntKind.wrap .i64 (v14 + 1)) else j12 v14)
def iJ (p0 : bT) (j1 : Int → Option dD) : Nat → Int → Int → Option dD
 | 0, _, _ => none
 | n + 1, v4, v5 => (if (decide (v4 < 2)) = true then (aR (fun (v8 : Int) => iJ p0 j1 n (IntKind.wrap .i64 (v4 + 1)) v8) (fun (j6 : Int → Option dD) => (idx (cB.toL (cB.mk p0.Class p0.UnderClass)) v4).bind fun (e7 : ByteArray) => (if (!(cS e7 (⟨#[]⟩ : ByteArray))) = true then j6 (IntKind.wrap .i64 (v5 + 1)) else j6 v5))) else j1 v5)
def jW  (n : Nat) (p0 : bT) : Option dD := (aR (fun (v11 : Int) => (aR (fun (v17 : Int) => (aR (fun (v28 : Int) => some (dD.mk v17 v28)) (fun (j18 : Int → Option dD) => iK p0 j18 v17 n 0 0))) (fun (j12 : Int → Option dD) => eK j12 p0 n p0.States v11))) (fun (j1 : Int → Option dD) => iJ p0 j1 n 0 0))
theorem tW  (n : Nat) (p0 : bT) (r : dD) (h : jW n p0 = some r) : dJ E 39 0 [E6 p0] [] (.agg [I r.x0, I r.x1]) [] := by
 refine gY Tryz.func39 rfl ?_
 unfold jW at h
 refine za [1, 2] ?_
 refine za [1, 2, 3] ?_
 refine aV h (fun A j => ∀ v11, j v11 = some r → A (mk [M0, L0, L3] [(0, A9 p0), (1, K8), (2, .blk 97 [I v11, I 0])] 3)) (fun v11 h => ?_) (fun j1 Aj1 hj1 h => ?_)
 refine aV h (fun A j => ∀ v17, j v17 = some r → A (mk [M0, L0, L3] [(0, A9 p0), (1, K8), (2, .blk 97 [I v17, I 0])] 3)) (fun v17 h => ?_) (fun j12 Aj12 hj12 h => ?_)
 refine aV h (fun A j => ∀ v28, j v28 = some r → A (mk [I5, L5] [(0, K8), (1, .blk 97 [I v17, I v28])] 2)) (fun v28 h => ?_) (fun j18 Aj18 hj18 h => ?_)
 refine za [2] ?_
 cases h
 exact aH zr
 refine za [2, 3, 40, 41] ?_
 refine aI ?_
 refine bH (fun n s => ∃ v21 v22, iK p0 j18 v17 n v21 v22 = some r ∧ s = mk [I5, L5, (40, .agg [I p0.Kind, I p0.UnderKind]), C7 41 v21] [(0, K8), (1, .blk 97 [I v17, I v22])] 2) n _ (zv [(1, 0), (2, 1)] [2, 3, 40, 41] 2) ⟨_, _, h, rfl⟩ (fun s ⟨v21, v22, h, _⟩ => nomatch h) ?_
 rintro n s ⟨v21, v22, h, rfl⟩
 rw [iK] at h
 refine za [2, 3, 40, 41, 42] ?_
 refine aN ?_
 refine zi h (fun h => ?_) fun h => ?_
 refine aC ?_
 refine aV h (fun A j => ∀ v25, j v25 = some r → A (mk [I5, L5, (40, .agg [I p0.Kind, I p0.UnderKind]), C7 41 v21] [(0, K8), (1, .blk 97 [I v17, I v25])] 2)) (fun v25 h => ?_) (fun j23 Aj23 hj23 h => ?_)
 refine aY ?_
 refine zb ?_
 exact eU (zv [(0, 0), (1, 1)] [2, 3, 40, 41] 2) (⟨_, _, h, rfl⟩)
 refine aI ?_
 refine zx fun _ => ?_
 obtain ⟨e24, he, h⟩ := aB h
 refine dR (v := .c (I e24)) (foot := []) (Ch (enc := aO) (xs := (dD.toL (dD.mk p0.Kind p0.UnderKind))) (ix := v21) (e := e24) (len := 2) (j := ⟨.int .i64, 1, 8, [.int .i64 0]⟩) (v := .c (I e24)) he (by kernel_rfl) (by kernel_rfl) (fun x => by kernel_rfl) (by decide) (by kernel_rfl)) (by kernel_rfl) rfl rfl ?_
 clear he
 refine zk 1 ?_
 refine ze [2, 3, 8, 40, 41] ?_
 refine za [2, 3, 40, 41, 45] ?_
 refine zi h (fun h => ?_) fun h => ?_
 refine aY ?_
 refine zb ?_
 exact eU (zv [(0, 0), (1, 1)] [2, 3, 40, 41] 2) (hj23 _ h)
 exact aJ (zv [(0, 0), (1, 1)] [2, 3, 40, 41] 2) (aC (hj23 _ h))
 exact aJ (zv [(0, 0), (1, 1)] [2, 3] 2) (bI (hj18 _ h))
 refine za [1, 2, 3, 6] ?_
 refine aI ?_
 refine bH (fun n s => ∃ v13 v14, eK j12 p0 n v13 v14 = some r ∧ s = mk [M0, L0, L3, C7 6 v13] [(0, A9 p0), (1, K8), (2, .blk 97 [I v14, I 0])] 3) n _ (zv [(0, 0), (1, 1), (2, 2)] [1, 2, 3, 6] 3) ⟨_, _, h, rfl⟩ (fun s ⟨v13, v14, h, _⟩ => nomatch h) ?_
 rintro n s ⟨v13, v14, h, rfl⟩
 rw [eK] at h
 refine aN ?_
 refine za [1, 2, 3, 6, 27] ?_
 refine zi h (fun h => ?_) fun h => ?_
 refine aC ?_
 refine aN ?_
 refine aI ?_
 refine zb ?_
 refine aY ?_
 refine zb ?_
 exact eU (zv [(0, 0), (1, 1), (2, 2)] [1, 2, 3, 6] 3) (⟨_, _, h, rfl⟩)
 exact aJ (zv [(0, 0), (1, 1), (2, 2)] [1, 2, 3] 3) (bI (hj12 _ h))
 refine za [1, 2, 3, 13, 14] ?_
 refine aI ?_
 refine bH (fun n s => ∃ v4 v5, iJ p0 j1 n v4 v5 = some r ∧ s = mk [M0, L0, L3, (13, .agg [Sx p0.Class, Sx p0.UnderClass]), C7 14 v4] [(0, A9 p0), (1, K8), (2, .blk 97 [I v5, I 0])] 3) n _ (zv [(0, 0), (1, 1), (2, 2)] [1, 2, 3, 13, 14] 3) ⟨_, _, h, rfl⟩ (fun s ⟨v4, v5, h, _⟩ => nomatch h) ?_
 rintro n s ⟨v4, v5, h, rfl⟩
 rw [iJ] at h
 refine za [1, 2, 3, 13, 14, 15] ?_
 refine aN ?_
 refine zi h (fun h => ?_) fun h => ?_
 refine aC ?_
 refine aV h (fun A j => ∀ v8, j v8 = some r → A (mk [M0, L0, L3, (13, .agg [Sx p0.Class, Sx p0.UnderClass]), C7 14 v4] [(0, A9 p0), (1, K8), (2, .blk 97 [I v8, I 0])] 3)) (fun v8 h => ?_) (fun j6 Aj6 hj6 h => ?_)
 refine aY ?_
 refine zb ?_
 exact eU (zv [(0, 0), (1, 1), (2, 2)] [1, 2, 3, 13, 14] 3) (⟨_, _, h, rfl⟩)
 refine aI ?_
 refine zx fun _ => ?_
 obtain ⟨e7, he, h⟩ := aB h
 refine dR (v := .c (Sx e7)) (foot := []) (Ch (enc := eS) (xs := (cB.toL (cB.mk p0.Class p0.UnderClass))) (ix := v4) (e := e7) (len := 2) (j := ⟨.str, 1, 16, [.string ⟨#[]⟩]⟩) (v := .c (Sx e7)) he (by kernel_rfl) (by kernel_rfl) (fun x => by kernel_rfl) (by decide) (by kernel_rfl)) (by kernel_rfl) rfl rfl ?_
 clear he
 refine zk 1 ?_
 refine ze [1, 2, 3, 5, 13, 14] ?_
 refine za [1, 2, 3, 13, 14, 18] ?_
 refine zi h (fun h => ?_) fun h => ?_
 refine aY ?_
 refine zb ?_
 exact eU (zv [(0, 0), (1, 1), (2, 2)] [1, 2, 3, 13, 14] 3) (hj6 _ h)
 exact aJ (zv [(0, 0), (1, 1), (2, 2)] [1, 2, 3, 13, 14] 3) (aC (hj6 _ h))
 exact aJ (zv [(0, 0), (1, 1), (2, 2)] [1, 2, 3] 3) (bI (hj1 _ h))
def mC  (n : Nat) (p0 : Int) : Option Bool := some (p0 != p0)
theorem rZ  (n : Nat) (p0 : Int) (r : Bool) (h : mC n p0 = some r) : dJ E 104 0 [A7 p0] [] (B3 r) [] := by
 refine gY Tryz.func104 rfl ?_
 unfold mC at h
 refine za [0] ?_
 refine za [2] ?_
 cases h
 exact aH zr
def gM  (n : Nat) (p0 : Int) (p1 : Int) : Option Int := (mC n p0).bind fun (y1 : Bool) => (mC n p1).bind fun (y2 : Bool) => (if y1 = true then (if y2 = true then some 0 else some (-1 : Int)) else (if y2 = true then some 1 else (if (decide (p0 < p1)) = true then some (-1 : Int) else (if (decide (p0 > p1)) = true then some 1 else some 0))))
theorem xI  (n : Nat) (p0 : Int) (p1 : Int) (r : Int) (h : gM n p0 p1 = some r) : dJ E 72 0 [A7 p0, A7 p1] [] (A7 r) [] := by
 refine gY Tryz.func72 rfl ?_
 unfold gM at h
 refine za [0, 1] ?_
 refine zx fun _ => ?_
 refine zk 1 ?_
 obtain ⟨y1, he, h⟩ := aB h
 refine zc Tt (rZ n _ y1 he) ?_
 clear he
 refine zk 1 ?_
 refine ze [0, 1, 5] ?_
 refine zx fun _ => ?_
 refine zk 1 ?_
 obtain ⟨y2, he, h⟩ := aB h
 refine zc Tt (rZ n _ y2 he) ?_
 clear he
 refine zk 1 ?_
 refine ze [0, 1, 5, 6] ?_
 refine aN ?_
 refine za [0, 1, 6, 11] ?_
 refine zi h (fun h => ?_) fun h => ?_
 refine aN ?_
 refine za [12] ?_
 refine zi h (fun h => ?_) fun h => ?_
 refine za [4] ?_
 cases h
 exact aH zr
 refine aC ?_
 refine za [4] ?_
 cases h
 exact aH zr
 refine aC ?_
 refine aN ?_
 refine za [0, 1, 13] ?_
 refine zi h (fun h => ?_) fun h => ?_
 refine za [4] ?_
 cases h
 exact aH zr
 refine aC ?_
 refine aN ?_
 refine za [0, 1, 16] ?_
 refine zi h (fun h => ?_) fun h => ?_
 refine za [4] ?_
 cases h
 exact aH zr
 refine aC ?_
 refine aN ?_
 refine za [19] ?_
 refine zi h (fun h => ?_) fun h => ?_
 refine za [4] ?_
 cases h
 exact aH zr
 refine aC ?_
 refine za [4] ?_
 cases h
 exact aH zr
def fN (p0 : (List Int)) (p1 : (List Int)) (j1 : Unit → Option Int) : Nat → Int → Option Int
 | 0, _ => none
 | n + 1, v5 => (if (decide (v5 < (List.length p0 : Int))) = true then (idx p0 v5).bind fun (e6 : Int) => (if (decide (v5 ≥ (List.length p1 : Int))) = true then some 1 else (idx p1 v5).bind fun (e7 : Int) => (gM n e6 e7).bind fun (y8 : Int) => (if (y8 != 0) = true then some y8 else fN p0 p1 j1 n (IntKind.wrap .i64 (v5 + 1)))) else j1 ())
def fC  (n : Nat) (p0 : (List Int)) (p1 : (List Int)) : Option Int := (aR (fun (_ : Unit) => (if (decide ((List.length p0 : Int) < (List.length p1 : Int))) = true then some (-1 : Int) else some 0)) (fun (j1 : Unit → Option Int) => fN p0 p1 j1 n 0))
theorem qR  (n : Nat) (p0 : (K9)) (p1 : (K9)) (r : Int) (h : fC n p0 p1 = some r) : dJ E 40 0 [.c (C1 p0), .c (C1 p1)] [] (A7 r) [] := by
 refine gY Tryz.func40 rfl ?_
 unfold fC at h
 refine za [0, 1] ?_
 refine aV h (fun A j => ∀ u, j u = some r → A (mk [I8 0 p0, I8 1 p1] [] 0)) (fun u h => ?_) (fun j1 Aj1 hj1 h => ?_)
 refine aN ?_
 refine zx fun _ => ?_
 refine zk 1 ?_
 refine zl aO p0 ?_
 refine zk 1 ?_
 refine zl aO p1 ?_
 refine zk 1 ?_
 refine ze [35] ?_
 refine zi h (fun h => ?_) fun h => ?_
 refine za [4] ?_
 cases h
 exact aH zr
 refine aC ?_
 refine za [4] ?_
 cases h
 exact aH zr
 refine zx fun _ => ?_
 refine zk 1 ?_
 refine zl aO p0 ?_
 refine zk 1 ?_
 refine ze [0, 1, 9, 10, 11] ?_
 refine aI ?_
 refine bH (fun n s => ∃ v5, fN p0 p1 j1 n v5 = some r ∧ s = mk [I8 0 p0, I8 1 p1, I8 9 p0, (10, .c (I (List.length p0 : Int))), C7 11 v5] [] 0) n _ (zv [] [0, 1, 9, 10, 11] 0) ⟨_, h, rfl⟩ (fun s ⟨v5, h, _⟩ => nomatch h) ?_
 rintro n s ⟨v5, h, rfl⟩
 rw [fN] at h
 refine za [0, 1, 9, 10, 11, 12] ?_
 refine aN ?_
 refine zi h (fun h => ?_) fun h => ?_
 refine aC ?_
 refine aN ?_
 refine aI ?_
 refine zx fun _ => ?_
 refine zk 1 ?_
 obtain ⟨e6, he, h⟩ := aB h
 refine zd aO he ?_
 clear he
 refine zk 3 ?_
 refine ze [0, 1, 5, 6, 9, 10, 11] ?_
 refine aN ?_
 refine zx fun _ => ?_
 refine zk 2 ?_
 refine zl aO p1 ?_
 refine zk 1 ?_
 refine ze [0, 1, 5, 6, 9, 10, 11, 19] ?_
 refine zi h (fun h => ?_) fun h => ?_
 refine za [4] ?_
 cases h
 exact aH zr
 refine aC ?_
 refine zx fun _ => ?_
 refine zk 2 ?_
 obtain ⟨e7, he, h⟩ := aB h
 refine zd aO he ?_
 clear he
 refine zk 2 ?_
 refine mF [0, 1, 6, 7, 9, 10, 11] (L2 := [I8 0 p0, I8 1 p1, I8 9 p0, (10, .c (I (List.length p0 : Int))), C7 11 v5, C7 6 e6, C7 7 e7]) (G2 := []) 15 ?_
 refine zx fun _ => ?_
 refine zk 2 ?_
 obtain ⟨y8, he, h⟩ := aB h
 refine zc fok72 (xI n _ _ y8 he) ?_
 clear he
 refine zk 1 ?_
 refine ze [0, 1, 8, 9, 10, 11] ?_
 refine za [0, 1, 8, 9, 10, 11, 28] ?_
 refine zi h (fun h => ?_) fun h => ?_
 refine za [4] ?_
 cases h
 exact aH zr
 refine aC ?_
 refine aY ?_
 refine zb ?_
 exact eU (zv [] [0, 1, 9, 10, 11] 0) (⟨_, h, rfl⟩)
 exact aJ (zv [] [0, 1] 0) (bI (hj1 _ h))
def kG  (n : Nat) (p0 : Int) (p1 : Int) (p2 : bE) : Option Int := (idx p2.Rules p0).bind fun (e1 : bT) => (jW n e1).bind fun (y2 : dD) => (idx p2.Rules p1).bind fun (e3 : bT) => (jW n e3).bind fun (y4 : dD) => (fC n [y2.x0, y2.x1] [y4.x0, y4.x1]).bind fun (y5 : Int) => some y5
theorem wU  (n : Nat) (p0 : Int) (p1 : Int) (p2 : bE) (r : Int) (h : kG n p0 p1 p2 = some r) : dJ E 38 0 [A7 p0, A7 p1, .c (.imm [D4 p2.Rules])] [] (A7 r) [] := by
 refine gY Tryz.func38 rfl ?_
 unfold kG at h
 refine za [0, 1, 2] ?_
 refine Fu [[], [0], [], [1, 2, 0], [3, 1, 2, 0], [4, 3, 1, 2, 0], [], [6], [], [7, 8, 6], [9, 7, 8, 6], [10, 5, 9, 7, 8, 6, 4, 3, 1, 2, 0], [], [], [12, 5, 11, 0, 1, 2, 3, 4, 10, 13, 9, 7, 8, 6], [13, 11, 14, 0, 1, 2, 3, 4, 5, 6, 7, 8, 9, 10, 12]] fun _ => ?_
 refine zk 3 ?_
 obtain ⟨e1, he, h⟩ := aB h
 refine zd bG he ?_
 clear he
 refine zk 1 ?_
 obtain ⟨y2, he, h⟩ := aB h
 refine zc aAl (tW n _ y2 he) ?_
 clear he
 refine zk 3 ?_
 obtain ⟨e3, he, h⟩ := aB h
 refine zd bG he ?_
 clear he
 refine zk 1 ?_
 obtain ⟨y4, he, h⟩ := aB h
 refine zc aAl (tW n _ y4 he) ?_
 clear he
 refine zk 4 ?_
 refine mF [6, 7] (L2 := [A2 6 13 0, A2 7 14 0]) (G2 := [(13, .blk 97 [I y2.x0, I y2.x1]), (14, .blk 97 [I y4.x0, I y4.x1])]) 17 ?_
 refine aJ (wB 13 (T := 97) (l := [I y2.x0, I y2.x1]) (l2 := [I y2.x0, I y2.x1]) (L2 := [(6, .c (.imm [I y2.x0, I y2.x1])), A2 7 14 0]) (G2 := [(14, .blk 97 [I y4.x0, I y4.x1])]) (by kernel_rfl) (by kernel_rfl) (by kernel_rfl) (by kernel_rfl)) ?_
 refine aJ (wB 14 (T := 97) (l := [I y4.x0, I y4.x1]) (l2 := [I y4.x0, I y4.x1]) (L2 := [(6, .c (.imm [I y2.x0, I y2.x1])), (7, .c (.imm [I y4.x0, I y4.x1]))]) (G2 := []) (by kernel_rfl) (by kernel_rfl) (by kernel_rfl) (by kernel_rfl)) ?_
 refine Fu [[], [], [0, 1], [2, 0, 1]] fun _ => ?_
 refine zw (v := .c (C1 [y2.x0, y2.x1])) [] (Ei (l := [I y2.x0, I y2.x1]) (len := 2) (sz := 1) (r := List.map aO [y2.x0, y2.x1]) (by kernel_rfl) (by kernel_rfl) (by kernel_rfl)) ?_
 refine zw (v := .c (C1 [y4.x0, y4.x1])) [] (Ei (l := [I y4.x0, I y4.x1]) (len := 2) (sz := 1) (r := List.map aO [y4.x0, y4.x1]) (by kernel_rfl) (by kernel_rfl) (by kernel_rfl)) ?_
 obtain ⟨y5, he, h⟩ := aB h
 refine zc fok40 (qR n _ _ y5 he) ?_
 clear he
 refine zk 1 ?_
 refine ze [5] ?_
 cases h
 exact aH zr
end Go.Proofs.YtojkihhnioeggaaGreatDoor.S
