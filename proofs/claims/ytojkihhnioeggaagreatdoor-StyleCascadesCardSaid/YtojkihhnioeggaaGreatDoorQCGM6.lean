import Derived.Test.YtojkihhnioeggaaGreatDoorQCGM5
set_option linter.unusedVariables false
set_option linter.unusedSimpArgs false
set_option maxRecDepth 100000
set_option maxHeartbeats 4000000
namespace Go.Proofs.YtojkihhnioeggaaGreatDoor.S
open Go Go.Bm
def gE (p0 : aL) (self_view_validate : aL → Int → Int → Option (Int × Int)) (p1 : Int) (j13 : Int → Option (Int × Int)) : Nat → Int → Int → Option (Int × Int)
 | 0, _, _ => none
 | n + 1, v16, v17 => (if (decide (v16 < (List.length p0.Kids : Int))) = true then (idx p0.Kids v16).bind fun (e18 : aL) => (self_view_validate e18 (IntKind.wrap .i64 (p1 + 1)) v17).bind fun (y19 : (Int × Int)) => (if (y19.1 != 0) = true then some (y19.1, y19.2) else gE p0 self_view_validate p1 j13 n (IntKind.wrap .i64 (v16 + 1)) y19.2) else j13 v17)
def gB (p0 : aL) (p2 : Int) (j4 : Unit → Option (Int × Int)) (p1 : Int) : Nat → Int → List (ByteArray × Bool) → Option (Int × Int)
 | 0, _, _ => none
 | n + 1, v7, v8 => (if (decide (v7 < (List.length p0.Kids : Int))) = true then (idx p0.Kids v7).bind fun (e9 : aL) => (gd [(!(bQ e9.Key (⟨#[]⟩ : ByteArray)))] (some (eO e9.Key v8, kU e9.Key v8))).bind fun (y10 : (Bool × Bool)) => (if ((!(bQ e9.Key (⟨#[]⟩ : ByteArray))) && y10.1) = true then some (6, (IntKind.wrap .i64 (p2 + 1))) else gB p0 p2 j4 p1 n (IntKind.wrap .i64 (v7 + 1)) (iU e9.Key true v8)) else j4 ())
def kN (self_view_validate : aL → Int → Int → Option (Int × Int)) (n : Nat) (p0 : aL) (p1 : Int) (p2 : Int) : Option (Int × Int) := (if (decide (p1 > 16)) = true then some (8, (IntKind.wrap .i64 (p2 + 1))) else (if (decide ((IntKind.wrap .i64 (p2 + 1)) > 400)) = true then some (2, (IntKind.wrap .i64 (p2 + 1))) else (if ((decide (p0.Kind < 1)) || (decide (p0.Kind > 13))) = true then some (9, (IntKind.wrap .i64 (p2 + 1))) else (yU n p0.Key).bind fun (y1 : Bool) => (if (!y1) = true then some (4, (IntKind.wrap .i64 (p2 + 1))) else (if (((decide ((List.length p0.Attrs : Int) > 24)) || (decide ((List.length p0.Actions : Int) > 24))) || (decide ((List.length p0.Kids : Int) > 100))) = true then some (2, (IntKind.wrap .i64 (p2 + 1))) else (nB n p0.Attrs).bind fun (y2 : Int) => (if (y2 != 0) = true then some (y2, (IntKind.wrap .i64 (p2 + 1))) else (nT n p0.Actions).bind fun (y3 : Int) => (if (y3 != 0) = true then some (y3, (IntKind.wrap .i64 (p2 + 1))) else (aS (fun (_ : Unit) => (aS (fun (v22 : Int) => some (0, v22)) (fun (j13 : Int → Option (Int × Int)) => gE p0 self_view_validate p1 j13 n 0 (IntKind.wrap .i64 (p2 + 1))))) (fun (j4 : Unit → Option (Int × Int)) => gB p0 p2 j4 p1 n 0 ([] : List (ByteArray × Bool)))))))))))
theorem uX (self_view_validate : aL → Int → Int → Option (O6)) (ih_view_validate : ∀ (p0 : aL) (p1 : Int) (p2 : Int) (r : (O6)), self_view_validate p0 p1 p2 = some r → cW E 115 1 [B2 p0, B7 p1, B9 0 0] [G3 p2] (B7 r.1) [G3 r.2]) (n : Nat) (p0 : aL) (p1 : Int) (p2 : Int) (r : (O6)) (h : kN self_view_validate n p0 p1 p2 = some r) : cW E 115 1 [B2 p0, B7 p1, B9 0 0] [G3 p2] (B7 r.1) [G3 r.2] := by
 refine eV Tryz.func115 rfl ?_
 unfold kN at h
 refine za [1, 2, 3] ?_
 refine za [1, 2, 3] ?_
 refine aI ?_
 refine aG ?_
 refine za [1, 2, 3, 20] ?_
 refine zi h (fun h => ?_) fun h => ?_
 refine za [6] ?_
 cases h
 exact aD zr
 refine za [1, 2, 3, 23] ?_
 refine zi h (fun h => ?_) fun h => ?_
 refine za [6] ?_
 cases h
 exact aD zr
 refine zx fun _ => ?_
 refine zk 4 ?_
 refine zE (B9 1 0) ?_
 refine zE (B7 p0.Kind) ?_
 refine zE (J5 p0.Kind 13) ?_
 refine zP (.bool (A3 p0.Kind 1 13)) ?_
 refine zk 1 ?_
 refine jY [1, 2, 3, 28] (L2 := [A6 1 p1, J0, N5, (28, B3 (A3 p0.Kind 1 13))]) (G2 := [G3 (D9 p2 1), (1, B0 p0)]) 26 ?_
 refine zi h (fun h => ?_) fun h => ?_
 refine za [6] ?_
 cases h
 exact aD zr
 refine zx fun _ => ?_
 refine zk 2 ?_
 obtain ⟨y1, he, h⟩ := aC h
 refine zc fok130 (Oi n _ y1 he) ?_
 clear he
 refine zk 2 ?_
 refine ze [1, 2, 3, 37] ?_
 refine zi h (fun h => ?_) fun h => ?_
 refine za [6] ?_
 cases h
 exact aD zr
 refine zx fun _ => ?_
 refine zk 2 ?_
 refine zl aM p0.Attrs ?_
 refine zk 2 ?_
 refine zE (B9 1 3) ?_
 refine zE (P0 p0.Actions) ?_
 refine jZ (e := [(!(decide ((List.length p0.Attrs : Int) > 24)))]) [(49, P0 p0.Actions, some 1)] (v := .c (I (List.length p0.Actions : Int))) (foot := []) (by kernel_rfl) (by kernel_rfl) (by kernel_rfl) (fun hg => lN (enc := aF) (l := p0.Actions) (by kernel_rfl)) rfl rfl ?_
 refine zE (.c (Bo (decide ((List.length p0.Actions : Int) > 24)))) ?_
 refine zP (.bool ((decide ((List.length p0.Attrs : Int) > 24)) || (decide ((List.length p0.Actions : Int) > 24)))) ?_
 refine zk 1 ?_
 refine zE (B9 1 4) ?_
 refine zE (.c (G6 p0.Kids)) ?_
 refine jZ (e := [(!((decide ((List.length p0.Attrs : Int) > 24)) || (decide ((List.length p0.Actions : Int) > 24))))]) [(55, .c (G6 p0.Kids), some 1)] (v := .c (I (List.length p0.Kids : Int))) (foot := []) (by kernel_rfl) (by kernel_rfl) (by kernel_rfl) (fun hg => lN (enc := bC) (l := p0.Kids) (by kernel_rfl)) rfl rfl ?_
 refine zE (.c (Bo (decide ((List.length p0.Kids : Int) > 100)))) ?_
 refine zP (.bool (((decide ((List.length p0.Attrs : Int) > 24)) || (decide ((List.length p0.Actions : Int) > 24))) || (decide ((List.length p0.Kids : Int) > 100)))) ?_
 refine zk 1 ?_
 refine jY [1, 2, 3, 42] (L2 := [A6 1 p1, J0, N5, (42, .c (Bo (((decide ((List.length p0.Attrs : Int) > 24)) || (decide ((List.length p0.Actions : Int) > 24))) || (decide ((List.length p0.Kids : Int) > 100)))))]) (G2 := [G3 (D9 p2 1), (1, B0 p0)]) 48 ?_
 refine zi h (fun h => ?_) fun h => ?_
 refine za [6] ?_
 cases h
 exact aD zr
 refine aB ?_
 refine aI ?_
 refine zx fun _ => ?_
 refine zk 2 ?_
 obtain ⟨y2, he, h⟩ := aC h
 refine zc fok131 (xQ n _ y2 he) ?_
 clear he
 refine zk 1 ?_
 refine ze [1, 2, 3, 7] ?_
 refine za [1, 2, 3, 7, 63] ?_
 refine zi h (fun h => ?_) fun h => ?_
 refine za [6] ?_
 cases h
 exact aD zr
 refine aB ?_
 refine aI ?_
 refine zx fun _ => ?_
 refine zk 2 ?_
 obtain ⟨y3, he, h⟩ := aC h
 refine zc fok132 (Cz n _ y3 he) ?_
 clear he
 refine zk 1 ?_
 refine ze [1, 2, 3, 8] ?_
 refine za [1, 2, 3, 8, 69] ?_
 refine zi h (fun h => ?_) fun h => ?_
 refine za [6] ?_
 cases h
 exact aD zr
 refine aB ?_
 refine za [1, 2, 3, 9] ?_
 refine aQ h (fun A j => ∀ u, j u = some r → A (mk [A6 1 p1, J0, N5] [G3 (D9 p2 1), (1, B0 p0)] 2)) (fun u h => ?_) (fun j4 Aj4 hj4 h => ?_)
 refine aQ h (fun A j => ∀ v22, j v22 = some r → A (mk [] [G3 v22] 1)) (fun v22 h => ?_) (fun j13 Aj13 hj13 h => ?_)
 refine za [6] ?_
 cases h
 exact aD zr
 refine zx fun _ => ?_
 refine zk 2 ?_
 refine zl bC p0.Kids ?_
 refine zk 1 ?_
 refine ze [1, 2, 93, 94, 95] ?_
 refine aG ?_
 refine bA (fun n s => ∃ v16 v17, gE p0 self_view_validate p1 j13 n v16 v17 = some r ∧ s = mk [A6 1 p1, J0, (93, .c (G6 p0.Kids)), (94, .c (I (List.length p0.Kids : Int))), A6 95 v16] [G3 v17] 1) n _ (zv [(0, 0)] [1, 2, 93, 94, 95] 1) ⟨_, _, h, rfl⟩ (fun s ⟨v16, v17, h, _⟩ => nomatch h) ?_
 rintro n s ⟨v16, v17, h, rfl⟩
 rw [gE] at h
 refine za [1, 2, 93, 94, 95, 96] ?_
 refine aI ?_
 refine zi h (fun h => ?_) fun h => ?_
 refine aB ?_
 refine aI ?_
 refine aG ?_
 refine zx fun _ => ?_
 obtain ⟨e18, he, h⟩ := aC h
 refine cZ (v := .c (E9 e18)) (foot := []) (dN (enc := bC) (sz := 5) (l := p0.Kids) (ix := v16) he (by kernel_rfl) (gD e18) (by kernel_rfl)) (by kernel_rfl) rfl rfl ?_
 clear he
 refine zk 3 ?_
 refine ze [1, 2, 13, 93, 94, 95] ?_
 refine zx fun _ => ?_
 refine zk 4 ?_
 obtain ⟨y19, he, h⟩ := aC h
 refine zo [(0, 0)] Ys (ih_view_validate _ _ _ y19 he) ?_
 clear he
 refine zk 1 ?_
 refine ze [1, 2, 14, 93, 94, 95] ?_
 refine za [1, 2, 14, 93, 94, 95, 105] ?_
 refine zi h (fun h => ?_) fun h => ?_
 refine za [6] ?_
 cases h
 exact aD zr
 refine aB ?_
 refine aW ?_
 refine zb ?_
 exact dF (zv [(0, 0)] [1, 2, 93, 94, 95] 1) (⟨_, _, h, rfl⟩)
 exact aH (zv [(0, 0)] [] 1) (bG (hj13 _ h))
 refine zx fun _ => ?_
 refine zk 2 ?_
 refine zl bC p0.Kids ?_
 refine zk 1 ?_
 refine jY [1, 2, 3, 9, 73, 74, 75] (L2 := [A6 1 p1, J0, N5, F6 9 60, (73, .c (G6 p0.Kids)), (74, .c (I (List.length p0.Kids : Int))), I5 75]) (G2 := [G3 (D9 p2 1), (1, B0 p0), (60, .map false (List.map (eM Value.string eB) ([] : List (ByteArray × Bool))))]) 66 ?_
 refine aG ?_
 refine bA (fun n s => ∃ v7 v8, gB p0 p2 j4 p1 n v7 v8 = some r ∧ s = mk [A6 1 p1, J0, N5, F6 9 2, (73, .c (G6 p0.Kids)), (74, .c (I (List.length p0.Kids : Int))), A6 75 v7] [G3 (D9 p2 1), (1, B0 p0), (2, .map false (O5 v8))] 3) n _ (zv [(0, 0), (1, 1), (60, 2)] [1, 2, 3, 9, 73, 74, 75] 3) ⟨_, _, h, rfl⟩ (fun s ⟨v7, v8, h, _⟩ => nomatch h) ?_
 rintro n s ⟨v7, v8, h, rfl⟩
 rw [gB] at h
 refine za [1, 2, 3, 9, 73, 74, 75, 76] ?_
 refine aI ?_
 refine zi h (fun h => ?_) fun h => ?_
 refine aB ?_
 refine aI ?_
 refine aG ?_
 refine zx fun _ => ?_
 obtain ⟨e9, he, h⟩ := aC h
 refine cZ (v := .c (E9 e9)) (foot := []) (dN (enc := bC) (sz := 5) (l := p0.Kids) (ix := v7) he (by kernel_rfl) (gD e9) (by kernel_rfl)) (by kernel_rfl) rfl rfl ?_
 clear he
 refine zk 3 ?_
 refine ze [1, 2, 3, 9, 11, 73, 74, 75] ?_
 refine aI ?_
 refine zx fun _ => ?_
 refine zk 4 ?_
 refine zE (.c (.mapr 2)) ?_
 refine zE (B9 6 1) ?_
 refine zE (F0 e9.Key) ?_
 obtain ⟨y10, he, h⟩ := aC h
 refine Fg (e := [(!(bQ e9.Key (⟨#[]⟩ : ByteArray)))]) [(83, .c (.mapr 2), some 1), (85, F0 e9.Key, some 1)] (v := .c (Bo y10.1)) (foot := [2]) (by kernel_rfl) (by kernel_rfl) (by kernel_rfl) (fun hg => dK (kf := Value.string) (enc := eB) (l := v8) (k := e9.Key) (ok := false) (kk := .str) (j := ⟨.boo, 1, 1, [.bool false]⟩) (p := y10) (v := .c (Bo y10.1)) (bR he hg) (by kernel_rfl) Lr (by kernel_rfl) (by kernel_rfl) (by kernel_rfl)) rfl rfl ?_
 clear he
 refine zP (.bool ((!(bQ e9.Key (⟨#[]⟩ : ByteArray))) && y10.1)) ?_
 refine ze [1, 2, 3, 9, 11, 73, 74, 75, 87] ?_
 refine zi h (fun h => ?_) fun h => ?_
 refine za [6] ?_
 cases h
 exact aD zr
 refine aB ?_
 refine zy fun _ => ?_
 refine zk 3 ?_
 refine lB (kf := Value.string) (enc := eB) (l := v8) (k := e9.Key) (v := true) (n := 2) (ag := false) (kk := .str) (by kernel_rfl) Lr (by kernel_rfl) (by kernel_rfl) rfl rfl ?_
 refine bV ?_
 refine aW ?_
 refine zb ?_
 exact dF (zv [(0, 0), (1, 1), (2, 2)] [1, 2, 3, 9, 73, 74, 75] 3) (⟨_, _, h, rfl⟩)
 exact aH (zv [(0, 0), (1, 1)] [1, 2, 3] 2) (bG (hj4 _ h))
def gM : Nat → aL → Int → Int → Option (Int × Int)
 | 0, _, _, _ => none
 | n + 1, p0, p1, p2 => kN (fun a0 a1 a2 => gM n a0 a1 a2) n p0 p1 p2
theorem Bd (n : Nat) : (∀ (p0 : aL) (p1 : Int) (p2 : Int) (r : (O6)), gM n p0 p1 p2 = some r → cW E 115 1 [B2 p0, B7 p1, B9 0 0] [G3 p2] (B7 r.1) [G3 r.2]) := by
 induction n with
 | zero => intro p0 p1 p2 r h; rw [gM] at h; cases h
 | succ n ih => intro p0 p1 p2 r h; rw [gM] at h; exact uX _ ih n _ _ _ r h
def lC  (n : Nat) (p0 : aL) : Option Int := (gM n p0 1 0).bind fun (y1 : (Int × Int)) => some y1.1
theorem Bc  (n : Nat) (p0 : aL) (r : Int) (h : lC n p0 = some r) : cW E 95 0 [B2 p0] [] (B7 r) [] := by
 refine eV Tryz.func95 rfl ?_
 unfold lC at h
 refine za [1] ?_
 refine za [1, 3] ?_
 refine zx fun _ => ?_
 refine zk 1 ?_
 obtain ⟨y1, he, h⟩ := aC h
 refine zo [(0, 2)] Ys (Bd n _ _ _ y1 he) ?_
 clear he
 refine zk 1 ?_
 refine ze [2] ?_
 cases h
 exact aD zr
def mE  (n : Nat) (p0 : bB) : Option ((List (Int × aR)) × aL × Int) := (rD n p0).bind fun (y1 : ((List (Int × aR)) × Bool)) => (if (!y1.2) = true then some (([] : List (Int × aR)), (aL.mk 0 (⟨#[]⟩ : ByteArray) ([] : List bF) ([] : List cR) ([] : List aL)), 12) else (gP n y1.1 p0.Root).bind fun (y2 : aL) => (lC n y2).bind fun (y3 : Int) => some (y1.1, y2, y3))
theorem uP  (n : Nat) (p0 : bB) (r : ((M4) × aL × Int)) (h : mE n p0 = some r) : cW E 57 0 [C0 p0] [] (.tup [O7 r.1, B2 r.2.1, B7 r.2.2]) [] := by
 refine eV Tryz.func57 rfl ?_
 unfold mE at h
 refine za [1, 3] ?_
 refine zx fun _ => ?_
 refine zk 1 ?_
 obtain ⟨y1, he, h⟩ := aC h
 refine zc fok93 (Hw n _ y1 he) ?_
 clear he
 refine zk 5 ?_
 refine ze [1, 3, 5, 6] ?_
 refine aI ?_
 refine za [1, 3, 5, 14] ?_
 refine zi h (fun h => ?_) fun h => ?_
 refine za [2, 3, 4] ?_
 refine aH (qI 2 true (L2 := [N0, (2, .c (.lmap true (List.map (eM (B4) aE) ([] : List (Int × aR))))), (4, .c (I 12))]) (by kernel_rfl) (by kernel_rfl)) ?_
 cases h
 exact aD zr
 refine aB ?_
 refine zx fun _ => ?_
 refine zk 3 ?_
 obtain ⟨y2, he, h⟩ := aC h
 refine zc fok94 (zB n _ _ y2 he) ?_
 clear he
 refine zk 2 ?_
 refine ze [3, 5, 7] ?_
 refine xI [[], [], [], [2], [0, 3, 2], [1, 4, 0, 3, 2], [3, 5, 0, 1, 2, 4]] fun _ => ?_
 refine zk 3 ?_
 obtain ⟨y3, he, h⟩ := aC h
 refine zc fok95 (Bc n _ y3 he) ?_
 clear he
 refine zk 3 ?_
 refine jY [2, 3, 4] (L2 := [N0, (2, O7 y1.1), A6 4 y3]) (G2 := [I1 0 p0, (2, B0 y2), (17, B0 y2)]) 26 ?_
 cases h
 exact aD zr
def qU  (n : Nat) (p0 : bB) : Option Int := (mE n p0).bind fun (y1 : ((List (Int × aR)) × aL × Int)) => some y1.2.2
theorem Hv  (n : Nat) (p0 : bB) (r : Int) (h : qU n p0 = some r) : cW E 26 0 [C0 p0] [] (B7 r) [] := by
 refine eV Tryz.func26 rfl ?_
 unfold qU at h
 refine za [1] ?_
 refine zx fun _ => ?_
 refine zk 1 ?_
 obtain ⟨y1, he, h⟩ := aC h
 refine zc fok57 (uP n _ y1 he) ?_
 clear he
 refine zk 8 ?_
 refine ze [5] ?_
 refine za [2] ?_
 cases h
 exact aD zr
def pS (self_view_value : aJ → Option aJ) (self_view_values : (List aJ) → Option (List aJ)) (n : Nat) (p0 : aJ) : Option aJ := (self_view_values p0.L).bind fun (y1 : (List aJ)) => some (aJ.mk p0.Kind p0.N p0.S y1)
theorem yC (self_view_value : aJ → Option aJ) (self_view_values : (List aJ) → Option (List aJ)) (ih_view_value : ∀ (p0 : aJ) (r : aJ), self_view_value p0 = some r → cW E 114 0 [B8 p0] [] (B8 r) []) (ih_view_values : ∀ (p0 : (List aJ)) (r : (List aJ)), self_view_values p0 = some r → cW E 129 0 [M7 p0] [] (M7 r) []) (n : Nat) (p0 : aJ) (r : aJ) (h : pS self_view_value self_view_values n p0 = some r) : cW E 114 0 [B8 p0] [] (B8 r) [] := by
 refine eV Tryz.func114 rfl ?_
 unfold pS at h
 refine za [1, 2] ?_
 refine zx fun _ => ?_
 refine zk 2 ?_
 obtain ⟨y1, he, h⟩ := aC h
 refine zc fok129 (ih_view_values _ y1 he) ?_
 clear he
 refine zk 2 ?_
 refine ze [1, 2] ?_
 refine za [2] ?_
 cases h
 exact aD zr
def oC (p0 : (List aJ)) (self_view_value : aJ → Option aJ) (j1 : List aJ → Option (List aJ)) : Nat → List aJ → Int → Option (List aJ)
 | 0, _, _ => none
 | n + 1, v5, v6 => (if (decide (v6 < (List.length p0 : Int))) = true then (idx p0 v6).bind fun (e7 : aJ) => (self_view_value e7).bind fun (y8 : aJ) => (pV 56 v5 [y8]).bind fun (l9 : List aJ) => oC p0 self_view_value j1 n l9 (IntKind.wrap .i64 (v6 + 1)) else j1 v5)
def oS (self_view_value : aJ → Option aJ) (self_view_values : (List aJ) → Option (List aJ)) (n : Nat) (p0 : (List aJ)) : Option (List aJ) := (aS (fun (v12 : List aJ) => some v12) (fun (j1 : List aJ → Option (List aJ)) => oC p0 self_view_value j1 n ([] : List aJ) 0))
theorem xC (self_view_value : aJ → Option aJ) (self_view_values : (List aJ) → Option (List aJ)) (ih_view_value : ∀ (p0 : aJ) (r : aJ), self_view_value p0 = some r → cW E 114 0 [B8 p0] [] (B8 r) []) (ih_view_values : ∀ (p0 : (List aJ)) (r : (List aJ)), self_view_values p0 = some r → cW E 129 0 [M7 p0] [] (M7 r) []) (n : Nat) (p0 : (List aJ)) (r : (List aJ)) (h : oS self_view_value self_view_values n p0 = some r) : cW E 129 0 [M7 p0] [] (M7 r) [] := by
 refine eV Tryz.func129 rfl ?_
 unfold oS at h
 refine za [0] ?_
 refine za [0, 3] ?_
 refine aQ h (fun A j => ∀ v12, j v12 = some r → A (mk [(3, .c (N4 0 v12))] [C4 0 152 4 v12] 1)) (fun v12 h => ?_) (fun j1 Aj1 hj1 h => ?_)
 refine za [2] ?_
 cases h
 exact aD zr
 refine zx fun _ => ?_
 refine zk 1 ?_
 refine zl aP p0 ?_
 refine zk 1 ?_
 refine ze [3, 6, 7, 8] ?_
 refine aG ?_
 refine bA (fun n s => ∃ v5 v6, oC p0 self_view_value j1 n v5 v6 = some r ∧ s = mk [(3, .c (N4 0 v5)), (6, M7 p0), (7, .c (I (List.length p0 : Int))), A6 8 v6] [C4 0 152 4 v5] 1) n _ (dT.trans (mO (L2 := [(3, .c (.app 5 (List.map aP ([] : List aJ)))), (6, M7 p0), (7, .c (I (List.length p0 : Int))), I5 8]) (G2 := [(5, .tok 152 4 (List.length ([] : List aJ)))]) (lim2 := 6) 3 152 4 (by kernel_rfl) (by kernel_rfl) (by kernel_rfl) (by kernel_rfl)) (zv [(5, 0)] [3, 6, 7, 8] 1)) ⟨_, _, h, rfl⟩ (fun s ⟨v5, v6, h, _⟩ => nomatch h) ?_
 rintro n s ⟨v5, v6, h, rfl⟩
 rw [oC] at h
 refine za [3, 6, 7, 8, 9] ?_
 refine aI ?_
 refine zi h (fun h => ?_) fun h => ?_
 refine aB ?_
 refine aI ?_
 refine aG ?_
 refine zx fun _ => ?_
 obtain ⟨e7, he, h⟩ := aC h
 refine cZ (v := .c (J7 e7)) (foot := []) (dN (enc := aP) (sz := 4) (l := p0) (ix := v6) he (by kernel_rfl) (dR e7) (by kernel_rfl)) (by kernel_rfl) rfl rfl ?_
 clear he
 refine zk 3 ?_
 refine ze [3, 5, 6, 7, 8] ?_
 refine zy fun _ => ?_
 refine zk 2 ?_
 obtain ⟨y8, he, h⟩ := aC h
 refine zc Zc (ih_view_value _ y8 he) ?_
 clear he
 refine qR (e := 152) (sz := 4) (len := 1) (r := [I y8.Kind, I y8.N, Sx y8.S, D2 y8.L]) (l' := List.map aP [y8]) (nm := 9) (by kernel_rfl) (by simp only [List.map_cons, List.map_nil, dR]; kernel_rfl) (by kernel_rfl) (by kernel_rfl) rfl rfl rfl ?_
 obtain ⟨l9, he, h⟩ := aC h
 refine cH (enc := aP) (l := v5) (els := [y8]) (r := l9) (old := some 0) (e := 152) (sz := 4) (bytes := 56) (k := (H1 v5)) (nm := 10) he (by kernel_rfl) (by kernel_rfl) (fun x => by rw [dR]; rfl) (by kernel_rfl) (by kernel_rfl) rfl rfl rfl ?_
 clear he
 refine zk 1 ?_
 refine bV ?_
 refine aW ?_
 refine zb ?_
 exact dF (zv [(10, 0)] [3, 6, 7, 8] 1) (⟨_, _, h, rfl⟩)
 exact aH (zv [(0, 0)] [3] 1) (bG (hj1 _ h))
mutual
def lS : Nat → aJ → Option aJ
 | 0, _ => none
 | n + 1, p0 => pS (fun a0 => lS n a0) (fun a0 => pL n a0) n p0
def pL : Nat → (List aJ) → Option (List aJ)
 | 0, _ => none
 | n + 1, p0 => oS (fun a0 => lS n a0) (fun a0 => pL n a0) n p0
end
theorem Cw (n : Nat) : (∀ (p0 : aJ) (r : aJ), lS n p0 = some r → cW E 114 0 [B8 p0] [] (B8 r) []) ∧ (∀ (p0 : (List aJ)) (r : (List aJ)), pL n p0 = some r → cW E 129 0 [M7 p0] [] (M7 r) []) := by
 induction n with
 | zero => refine ⟨fun p0 r h => (by rw [lS] at h; cases h), fun p0 r h => (by rw [pL] at h; cases h)⟩
 | succ n ih =>
  obtain ⟨i0, i1⟩ := ih
  refine ⟨fun p0 r h => (by rw [lS] at h; exact yC _ _ i0 i1 n _ r h), fun p0 r h => (by rw [pL] at h; exact xC _ _ i0 i1 n _ r h)⟩
theorem Hj (n : Nat) : (∀ (p0 : aJ) (r : aJ), lS n p0 = some r → cW E 114 0 [B8 p0] [] (B8 r) []) := (Cw n).1
def eT (p0 : (List bF)) (p1 : ByteArray) (j1 : Unit → Option (aJ × Bool)) : Nat → Int → Option (aJ × Bool)
 | 0, _ => none
 | n + 1, v4 => (if (decide (v4 < (List.length p0 : Int))) = true then (idx p0 v4).bind fun (e5 : bF) => (if (bQ e5.Name p1) = true then (lS n e5.Value).bind fun (y6 : aJ) => some (y6, true) else eT p0 p1 j1 n (IntKind.wrap .i64 (v4 + 1))) else j1 ())
def sC  (n : Nat) (p0 : (List bF)) (p1 : ByteArray) : Option (aJ × Bool) := (aS (fun (_ : Unit) => some ((aJ.mk 0 0 (⟨#[]⟩ : ByteArray) ([] : List aJ)), false)) (fun (j1 : Unit → Option (aJ × Bool)) => eT p0 p1 j1 n 0))
theorem Kq  (n : Nat) (p0 : (List bF)) (p1 : ByteArray) (r : (aJ × Bool)) (h : sC n p0 p1 = some r) : cW E 91 0 [.c (C7 p0), F0 p1] [] (.tup [B8 r.1, B3 r.2]) [] := by
 refine eV Tryz.func91 rfl ?_
 unfold sC at h
 refine za [0, 1, 4] ?_
 refine aQ h (fun A j => ∀ u, j u = some r → A (mk [I7] [(0, .blk 152 [I 0, I 0, Sx (⟨#[]⟩ : ByteArray), cE])] 1)) (fun u h => ?_) (fun j1 Aj1 hj1 h => ?_)
 refine za [4, 5] ?_
 cases h
 exact aD zr
 refine zx fun _ => ?_
 refine zk 1 ?_
 refine zl aM p0 ?_
 refine zk 1 ?_
 refine ze [1, 4, 8, 9, 10] ?_
 refine aG ?_
 refine bA (fun n s => ∃ v4, eT p0 p1 j1 n v4 = some r ∧ s = mk [(1, F0 p1), I7, (8, .c (C7 p0)), (9, .c (I (List.length p0 : Int))), A6 10 v4] [(0, .blk 152 [I 0, I 0, Sx (⟨#[]⟩ : ByteArray), cE])] 1) n _ (zv [(0, 0)] [1, 4, 8, 9, 10] 1) ⟨_, h, rfl⟩ (fun s ⟨v4, h, _⟩ => nomatch h) ?_
 rintro n s ⟨v4, h, rfl⟩
 rw [eT] at h
 refine za [1, 4, 8, 9, 10, 11] ?_
 refine aI ?_
 refine zi h (fun h => ?_) fun h => ?_
 refine aB ?_
 refine aI ?_
 refine aG ?_
 refine zx fun _ => ?_
 obtain ⟨e5, he, h⟩ := aC h
 refine zd aM he ?_
 clear he
 refine zk 3 ?_
 refine ze [1, 4, 7, 8, 9, 10] ?_
 refine za [1, 4, 7, 8, 9, 10, 17] ?_
 refine zi h (fun h => ?_) fun h => ?_
 refine zx fun _ => ?_
 refine zk 2 ?_
 obtain ⟨y6, he, h⟩ := aC h
 refine zc Zc (Hj n _ y6 he) ?_
 clear he
 refine zk 2 ?_
 refine ze [4, 5] ?_
 cases h
 exact aD zr
 refine aB ?_
 refine aW ?_
 refine zb ?_
 exact dF (zv [(0, 0)] [1, 4, 8, 9, 10] 1) (⟨_, h, rfl⟩)
 exact aH (zv [(0, 0)] [4] 1) (bG (hj1 _ h))
def nK  (n : Nat) (p0 : (List bF)) (p1 : ByteArray) : Option ByteArray := (sC n p0 p1).bind fun (y1 : (aJ × Bool)) => (if (y1.1.Kind == 3) = true then some y1.1.S else some (⟨#[]⟩ : ByteArray))
theorem Kf  (n : Nat) (p0 : (List bF)) (p1 : ByteArray) (r : ByteArray) (h : nK n p0 p1 = some r) : cW E 69 0 [.c (C7 p0), F0 p1] [] (F0 r) [] := by
 refine eV Tryz.func69 rfl ?_
 unfold nK at h
 refine za [0, 1] ?_
 refine aI ?_
 refine zx fun _ => ?_
 refine zk 2 ?_
 obtain ⟨y1, he, h⟩ := aC h
 refine zc fok91 (Kq n _ _ y1 he) ?_
 clear he
 refine zk 6 ?_
 refine ze [5] ?_
 refine za [5, 15] ?_
 refine zi h (fun h => ?_) fun h => ?_
 refine za [4] ?_
 cases h
 exact aD zr
 refine aB ?_
 refine za [4] ?_
 cases h
 exact aD zr
theorem back101 : Ri E 101 aV (fun x => .agg (aV x)) := ⟨Tryz.f101, _, 2, _, _, _, _, _, _, _, _, _, Tryz.func101, rfl, rfl, by decide, rfl, fun D l y => by kernel_rfl, fun D l y i => by kernel_rfl, fun D l y i => by kernel_rfl, rfl, fun D l y i => by kernel_rfl, rfl, rfl, rfl, fun D l y i => by kernel_rfl, fun x => rfl, rfl, fun D l y i x => by kernel_rfl, rfl, rfl, rfl, rfl, rfl, fun D l y i b => by kernel_rfl, fun x => rfl⟩
def cY  (n : Nat) (p0 : (List aT)) : Option (List aT) := some p0
theorem iW  (n : Nat) (p0 : (List aT)) (r : (List aT)) (h : cY n p0 = some r) : cW E 70 0 [D6 p0] [] (O2 r) [] := by
 refine eV Tryz.func70 rfl ?_
 unfold cY at h
 refine za [1] ?_
 refine za [2] ?_
 refine aH (wX 0 (T := 40) (l := [.lit (List.map aV p0)]) (l2 := [.lit (List.map aV p0)]) (L2 := [(2, O2 p0)]) (G2 := []) (by kernel_rfl) (by kernel_rfl) (by kernel_rfl) (by kernel_rfl)) ?_
 cases h
 exact aD zr
def jE (n : Nat) (v12 : List (Int × aR)) (v13 : List (Int × ByteArray)) : List (Nat × aT) → List (Int × Int) → Option jJ
 | [], v18 => some (jJ.mk v12 v13 v18)
 | (i15, e16) :: t17, v18 => jE n v12 v13 t17 (iU e16.ID e16.States v18)
def kF (p0 : bB) (j1 : List (Int × aR) → List (Int × ByteArray) → Option jJ) (p1 : (List aT)) : Nat → Int → List (Int × aR) → List (Int × ByteArray) → Option jJ
 | 0, _, _, _ => none
 | n + 1, v4, v5, v6 => (if (decide (v4 < (List.length p0.Nodes : Int))) = true then (idx p0.Nodes v4).bind fun (e7 : aR) => (nK n e7.Attrs (⟨#[99, 108, 97, 115, 115]⟩ : ByteArray)).bind fun (y8 : ByteArray) => kF p0 j1 p1 n (IntKind.wrap .i64 (v4 + 1)) (iU e7.ID e7 v5) (iU e7.ID y8 v6) else j1 v5 v6)
def sH  (n : Nat) (p0 : bB) (p1 : (List aT)) : Option jJ := (aS (fun (v12 : List (Int × aR)) (v13 : List (Int × ByteArray)) => (cY n p1).bind fun (y14 : (List aT)) => (Ir y14).bind fun (_ : Unit) => jE n v12 v13 (Ak y14 (List.length y14)) ([] : List (Int × Int))) (fun (j1 : List (Int × aR) → List (Int × ByteArray) → Option jJ) => kF p0 j1 p1 n 0 ([] : List (Int × aR)) ([] : List (Int × ByteArray))))
theorem Kl  (n : Nat) (p0 : bB) (p1 : (List aT)) (r : jJ) (h : sH n p0 p1 = some r) : cW E 36 0 [C0 p0, D6 p1] [] (L8 r) [] := by
 refine eV Tryz.func36 rfl ?_
 unfold sH at h
 refine za [1, 2, 4] ?_
 refine za [1, 2, 4, 5] ?_
 refine aQ h (fun A j => ∀ v12 v13, j v12 v13 = some r → A (mk [(1, D6 p1), I7, O3] [(0, .blk 92 [.v (.map none), .v (.map none), .v (.map none)]), L4, (2, .map true (I4 v12)), (3, .map false (List.map (eM (B4) eS) v13)), (4, .map false (List.map (eM (B4) aN) ([] : List (O6))))] 5)) (fun v12 v13 h => ?_) (fun j1 Aj1 hj1 h => ?_)
 refine aI ?_
 refine zx fun _ => ?_
 refine zk 1 ?_
 obtain ⟨y14, he, h⟩ := aC h
 refine zc fok70 (iW n _ y14 he) ?_
 clear he
 refine ze [4, 5, 35] ?_
 refine aG ?_
 refine aH (uY rfl [(0, 0), (1, 1), (2, 2), (3, 3), (4, 4)] [4, 5, 35] (L2 := [I7, O3, (35, O2 y14)]) (G2 := [(0, .blk 92 [.v (.map none), .v (.map none), .v (.map none)]), L4, (2, .map true (I4 v12)), (3, .map false (List.map (eM (B4) eS) v13)), (4, .map false (List.map (eM (B4) aN) ([] : List (O6))))]) (lim2 := 5) (by kernel_rfl)) ?_
 obtain ⟨_, he, h⟩ := aC h
 refine aw_back (l := y14) fok101 back101 (by kernel_rfl) (Xn he) (by kernel_rfl) (fun t G1 lim1 => ∃ (v18 : List (O6)), jE n v12 v13 t v18 = some r ∧ G1 = [(0, .blk 92 [.v (.map none), .v (.map none), .v (.map none)]), L4, (2, .map true (I4 v12)), (3, .map false (List.map (eM (B4) eS) v13)), (4, .map false (List.map (eM (B4) aN) v18))] ∧ lim1 = 5) ⟨_, h, rfl, rfl⟩ (fun lp x t17 G1 lim1 hJ => ?_) (fun G1 lim1 hJ => ?_)
 obtain ⟨i15, e16⟩ := x
 obtain ⟨v18, h, rfl, rfl⟩ := hJ
 rw [jE] at h
 show AW _ _ (mk [I7, O3, (35, O2 y14), (36, .c (I (i15 : Int))), (37, .agg [I e16.ID, I e16.States])] [(0, .blk 92 [.v (.map none), .v (.map none), .v (.map none)]), L4, (2, .map true (I4 v12)), (3, .map false (List.map (eM (B4) eS) v13)), (4, .map false (List.map (eM (B4) aN) v18))] 5) _
 refine zb ?_
 refine aG ?_
 refine aW ?_
 refine zy fun _ => ?_
 refine zk 6 ?_
 refine lB (kf := (B4)) (enc := aN) (l := v18) (k := e16.ID) (v := e16.States) (n := 4) (ag := false) (kk := .int .i64) (by kernel_rfl) iD (by kernel_rfl) (by kernel_rfl) rfl rfl ?_
 refine bV ?_
 exact dF (zv (L2 := []) [(0, 0), (1, 1), (2, 2), (3, 3), (4, 4)] [] 5) (⟨_, _, ⟨_, h, rfl, rfl⟩, rfl, rfl⟩)
 obtain ⟨v18, h, rfl, rfl⟩ := hJ
 rw [jE] at h
 refine za [4] ?_
 refine aH (sP 2 (ag := true) (l := List.map (eM (B4) aE) v12) (L2 := [I7]) (G2 := [(0, .blk 92 [C8 v12, .mapr 3, .mapr 4]), (1, .blk 92 [C8 v12, .mapr 3, .mapr 4]), (3, .map false (List.map (eM (B4) eS) v13)), (4, .map false (List.map (eM (B4) aN) v18))]) (by kernel_rfl) (by kernel_rfl) (by kernel_rfl)) ?_
 refine aH (sP 3 (ag := false) (l := List.map (eM (B4) eS) v13) (L2 := [I7]) (G2 := [(0, .blk 92 [C8 v12, E2 v13, .mapr 4]), (1, .blk 92 [C8 v12, E2 v13, .mapr 4]), (4, .map false (List.map (eM (B4) aN) v18))]) (by kernel_rfl) (by kernel_rfl) (by kernel_rfl)) ?_
 refine aH (sP 4 (ag := false) (l := List.map (eM (B4) aN) v18) (L2 := [I7]) (G2 := [(0, .blk 92 [C8 v12, E2 v13, F1 v18]), (1, .blk 92 [C8 v12, E2 v13, F1 v18])]) (by kernel_rfl) (by kernel_rfl) (by kernel_rfl)) ?_
 cases h
 exact aD zr
 refine zx fun _ => ?_
 refine zk 2 ?_
 refine zl aE p0.Nodes ?_
 refine zk 1 ?_
 refine ze [1, 4, 5, 15, 16, 17] ?_
 refine aG ?_
 refine bA (fun n s => ∃ v4 v5 v6, kF p0 j1 p1 n v4 v5 v6 = some r ∧ s = mk [(1, D6 p1), I7, O3, (15, F4 p0.Nodes), (16, .c (I (List.length p0.Nodes : Int))), A6 17 v4] [(0, .blk 92 [.v (.map none), .v (.map none), .v (.map none)]), L4, (2, .map true (I4 v5)), (3, .map false (List.map (eM (B4) eS) v6)), (4, .map false (List.map (eM (B4) aN) ([] : List (O6))))] 5) n _ (zv [(1, 0), (6, 1), (2, 2), (3, 3), (4, 4)] [1, 4, 5, 15, 16, 17] 5) ⟨_, _, _, h, rfl⟩ (fun s ⟨v4, v5, v6, h, _⟩ => nomatch h) ?_
 rintro n s ⟨v4, v5, v6, h, rfl⟩
 rw [kF] at h
 refine za [1, 4, 5, 15, 16, 17, 18] ?_
 refine aI ?_
 refine zi h (fun h => ?_) fun h => ?_
 refine aB ?_
 refine aI ?_
 refine aG ?_
 refine zx fun _ => ?_
 obtain ⟨e7, he, h⟩ := aC h
 refine zd aE he ?_
 clear he
 refine zk 3 ?_
 refine ze [1, 4, 5, 7, 15, 16, 17] ?_
 refine Rg [[], [0], [], [2], [], [4], [], [6], [], [], [9], [10, 9], [1, 3, 8, 11, 0, 2, 10, 9], [5, 7, 11, 12, 0, 1, 2, 3, 4, 6, 8, 9, 10]] fun _ => ?_
 refine zk 11 ?_
 obtain ⟨y8, he, h⟩ := aC h
 refine zc fok69 (Kf n _ _ y8 he) ?_
 clear he
 refine lB (kf := (B4)) (enc := aE) (l := v5) (k := e7.ID) (v := e7) (n := 2) (ag := true) (kk := .int .i64) (by kernel_rfl) iD (by kernel_rfl) (by kernel_rfl) rfl rfl ?_
 refine lB (kf := (B4)) (enc := eS) (l := v6) (k := e7.ID) (v := y8) (n := 3) (ag := false) (kk := .int .i64) (by kernel_rfl) iD (by kernel_rfl) (by kernel_rfl) rfl rfl ?_
 refine bV ?_
 refine aW ?_
 refine zb ?_
 exact dF (zv [(0, 0), (1, 1), (2, 2), (3, 3), (4, 4)] [1, 4, 5, 15, 16, 17] 5) (⟨_, _, _, h, rfl⟩)
 exact aH (zv [(0, 0), (1, 1), (2, 2), (3, 3), (4, 4)] [1, 4, 5] 5) (bG (hj1 _ _ h))
def iY (p0 : bZ) (j18 : Int → Option dH) (v17 : Int) : Nat → Int → Int → Option dH
 | 0, _, _ => none
 | n + 1, v21, v22 => (if (decide (v21 < 2)) = true then (aS (fun (v25 : Int) => iY p0 j18 v17 n (IntKind.wrap .i64 (v21 + 1)) v25) (fun (j23 : Int → Option dH) => (idx (dH.toL (dH.mk p0.Kind p0.UnderKind)) v21).bind fun (e24 : Int) => (if (e24 != 0) = true then j23 (IntKind.wrap .i64 (v22 + 1)) else j23 v22))) else j18 v22)
def eK (j12 : Int → Option dH) (p0 : bZ) : Nat → Int → Int → Option dH
 | 0, _, _ => none
 | n + 1, v13, v14 => (if (v13 != 0) = true then eK j12 p0 n (jW .i64 v13 (IntKind.wrap .i64 (v13 - 1))) (IntKind.wrap .i64 (v14 + 1)) else j12 v14)
def iX (p0 : bZ) (j1 : Int → Option dH) : Nat → Int → Int → Option dH
 | 0, _, _ => none
 | n + 1, v4, v5 => (if (decide (v4 < 2)) = true then (aS (fun (v8 : Int) => iX p0 j1 n (IntKind.wrap .i64 (v4 + 1)) v8) (fun (j6 : Int → Option dH) => (idx (cJ.toL (cJ.mk p0.Class p0.UnderClass)) v4).bind fun (e7 : ByteArray) => (if (!(bQ e7 (⟨#[]⟩ : ByteArray))) = true then j6 (IntKind.wrap .i64 (v5 + 1)) else j6 v5))) else j1 v5)
def kS  (n : Nat) (p0 : bZ) : Option dH := (aS (fun (v11 : Int) => (aS (fun (v17 : Int) => (aS (fun (v28 : Int) => some (dH.mk v17 v28)) (fun (j18 : Int → Option dH) => iY p0 j18 v17 n 0 0))) (fun (j12 : Int → Option dH) => eK j12 p0 n p0.States v11))) (fun (j1 : Int → Option dH) => iX p0 j1 n 0 0))
theorem uO  (n : Nat) (p0 : bZ) (r : dH) (h : kS n p0 = some r) : cW E 39 0 [D7 p0] [] (.agg [I r.x0, I r.x1]) [] := by
 refine eV Tryz.func39 rfl ?_
 unfold kS at h
 refine za [1, 2] ?_
 refine za [1, 2, 3] ?_
 refine aQ h (fun A j => ∀ v11, j v11 = some r → A (mk [H3, O0, N0] [K5 0 p0, (1, N8), (2, .blk 97 [I v11, I 0])] 3)) (fun v11 h => ?_) (fun j1 Aj1 hj1 h => ?_)
 refine aQ h (fun A j => ∀ v17, j v17 = some r → A (mk [H3, O0, N0] [K5 0 p0, (1, N8), (2, .blk 97 [I v17, I 0])] 3)) (fun v17 h => ?_) (fun j12 Aj12 hj12 h => ?_)
 refine aQ h (fun A j => ∀ v28, j v28 = some r → A (mk [J0, N5] [(0, N8), (1, .blk 97 [I v17, I v28])] 2)) (fun v28 h => ?_) (fun j18 Aj18 hj18 h => ?_)
 refine za [2] ?_
 cases h
 exact aD zr
 refine za [2, 3, 40, 41] ?_
 refine aG ?_
 refine bA (fun n s => ∃ v21 v22, iY p0 j18 v17 n v21 v22 = some r ∧ s = mk [J0, N5, (40, .agg [I p0.Kind, I p0.UnderKind]), A6 41 v21] [(0, N8), (1, .blk 97 [I v17, I v22])] 2) n _ (zv [(1, 0), (2, 1)] [2, 3, 40, 41] 2) ⟨_, _, h, rfl⟩ (fun s ⟨v21, v22, h, _⟩ => nomatch h) ?_
 rintro n s ⟨v21, v22, h, rfl⟩
 rw [iY] at h
 refine za [2, 3, 40, 41, 42] ?_
 refine aI ?_
 refine zi h (fun h => ?_) fun h => ?_
 refine aB ?_
 refine aQ h (fun A j => ∀ v25, j v25 = some r → A (mk [J0, N5, (40, .agg [I p0.Kind, I p0.UnderKind]), A6 41 v21] [(0, N8), (1, .blk 97 [I v17, I v25])] 2)) (fun v25 h => ?_) (fun j23 Aj23 hj23 h => ?_)
 refine aW ?_
 refine zb ?_
 exact dF (zv [(0, 0), (1, 1)] [2, 3, 40, 41] 2) (⟨_, _, h, rfl⟩)
 refine aG ?_
 refine zx fun _ => ?_
 obtain ⟨e24, he, h⟩ := aC h
 refine cZ (v := .c (I e24)) (foot := []) (wV (enc := aN) (xs := (dH.toL (dH.mk p0.Kind p0.UnderKind))) (ix := v21) (e := e24) (len := 2) (j := ⟨.int .i64, 1, 8, [.int .i64 0]⟩) (v := .c (I e24)) he (by kernel_rfl) (by kernel_rfl) (fun x => by kernel_rfl) (by decide) (by kernel_rfl)) (by kernel_rfl) rfl rfl ?_
 clear he
 refine zk 1 ?_
 refine ze [2, 3, 8, 40, 41] ?_
 refine za [2, 3, 40, 41, 45] ?_
 refine zi h (fun h => ?_) fun h => ?_
 refine aW ?_
 refine zb ?_
 exact dF (zv [(0, 0), (1, 1)] [2, 3, 40, 41] 2) (hj23 _ h)
 exact aH (zv [(0, 0), (1, 1)] [2, 3, 40, 41] 2) (aB (hj23 _ h))
 exact aH (zv [(0, 0), (1, 1)] [2, 3] 2) (bG (hj18 _ h))
 refine za [1, 2, 3, 6] ?_
 refine aG ?_
 refine bA (fun n s => ∃ v13 v14, eK j12 p0 n v13 v14 = some r ∧ s = mk [H3, O0, N0, A6 6 v13] [K5 0 p0, (1, N8), (2, .blk 97 [I v14, I 0])] 3) n _ (zv [(0, 0), (1, 1), (2, 2)] [1, 2, 3, 6] 3) ⟨_, _, h, rfl⟩ (fun s ⟨v13, v14, h, _⟩ => nomatch h) ?_
 rintro n s ⟨v13, v14, h, rfl⟩
 rw [eK] at h
 refine aI ?_
 refine za [1, 2, 3, 6, 27] ?_
 refine zi h (fun h => ?_) fun h => ?_
 refine aB ?_
 refine aI ?_
 refine aG ?_
 refine zb ?_
 refine aW ?_
 refine zb ?_
 exact dF (zv [(0, 0), (1, 1), (2, 2)] [1, 2, 3, 6] 3) (⟨_, _, h, rfl⟩)
 exact aH (zv [(0, 0), (1, 1), (2, 2)] [1, 2, 3] 3) (bG (hj12 _ h))
 refine za [1, 2, 3, 13, 14] ?_
 refine aG ?_
 refine bA (fun n s => ∃ v4 v5, iX p0 j1 n v4 v5 = some r ∧ s = mk [H3, O0, N0, (13, .agg [Sx p0.Class, Sx p0.UnderClass]), A6 14 v4] [K5 0 p0, (1, N8), (2, .blk 97 [I v5, I 0])] 3) n _ (zv [(0, 0), (1, 1), (2, 2)] [1, 2, 3, 13, 14] 3) ⟨_, _, h, rfl⟩ (fun s ⟨v4, v5, h, _⟩ => nomatch h) ?_
 rintro n s ⟨v4, v5, h, rfl⟩
 rw [iX] at h
 refine za [1, 2, 3, 13, 14, 15] ?_
 refine aI ?_
 refine zi h (fun h => ?_) fun h => ?_
 refine aB ?_
 refine aQ h (fun A j => ∀ v8, j v8 = some r → A (mk [H3, O0, N0, (13, .agg [Sx p0.Class, Sx p0.UnderClass]), A6 14 v4] [K5 0 p0, (1, N8), (2, .blk 97 [I v8, I 0])] 3)) (fun v8 h => ?_) (fun j6 Aj6 hj6 h => ?_)
 refine aW ?_
 refine zb ?_
 exact dF (zv [(0, 0), (1, 1), (2, 2)] [1, 2, 3, 13, 14] 3) (⟨_, _, h, rfl⟩)
 refine aG ?_
 refine zx fun _ => ?_
 obtain ⟨e7, he, h⟩ := aC h
 refine cZ (v := .c (Sx e7)) (foot := []) (wV (enc := eS) (xs := (cJ.toL (cJ.mk p0.Class p0.UnderClass))) (ix := v4) (e := e7) (len := 2) (j := ⟨.str, 1, 16, [.string ⟨#[]⟩]⟩) (v := .c (Sx e7)) he (by kernel_rfl) (by kernel_rfl) (fun x => by kernel_rfl) (by decide) (by kernel_rfl)) (by kernel_rfl) rfl rfl ?_
 clear he
 refine zk 1 ?_
 refine ze [1, 2, 3, 5, 13, 14] ?_
 refine za [1, 2, 3, 13, 14, 18] ?_
 refine zi h (fun h => ?_) fun h => ?_
 refine aW ?_
 refine zb ?_
 exact dF (zv [(0, 0), (1, 1), (2, 2)] [1, 2, 3, 13, 14] 3) (hj6 _ h)
 exact aH (zv [(0, 0), (1, 1), (2, 2)] [1, 2, 3, 13, 14] 3) (aB (hj6 _ h))
 exact aH (zv [(0, 0), (1, 1), (2, 2)] [1, 2, 3] 3) (bG (hj1 _ h))
def mX  (n : Nat) (p0 : Int) : Option Bool := some (p0 != p0)
theorem sN  (n : Nat) (p0 : Int) (r : Bool) (h : mX n p0 = some r) : cW E 104 0 [B7 p0] [] (B3 r) [] := by
 refine eV Tryz.func104 rfl ?_
 unfold mX at h
 refine za [0] ?_
 refine za [2] ?_
 cases h
 exact aD zr
def hY  (n : Nat) (p0 : Int) (p1 : Int) : Option Int := (mX n p0).bind fun (y1 : Bool) => (mX n p1).bind fun (y2 : Bool) => (if y1 = true then (if y2 = true then some 0 else some (-1 : Int)) else (if y2 = true then some 1 else (if (decide (p0 < p1)) = true then some (-1 : Int) else (if (decide (p0 > p1)) = true then some 1 else some 0))))
theorem yH  (n : Nat) (p0 : Int) (p1 : Int) (r : Int) (h : hY n p0 p1 = some r) : cW E 72 0 [B7 p0, B7 p1] [] (B7 r) [] := by
 refine eV Tryz.func72 rfl ?_
 unfold hY at h
 refine za [0, 1] ?_
 refine zx fun _ => ?_
 refine zk 1 ?_
 obtain ⟨y1, he, h⟩ := aC h
 refine zc Vf (sN n _ y1 he) ?_
 clear he
 refine zk 1 ?_
 refine ze [0, 1, 5] ?_
 refine zx fun _ => ?_
 refine zk 1 ?_
 obtain ⟨y2, he, h⟩ := aC h
 refine zc Vf (sN n _ y2 he) ?_
 clear he
 refine zk 1 ?_
 refine ze [0, 1, 5, 6] ?_
 refine aI ?_
 refine za [0, 1, 6, 11] ?_
 refine zi h (fun h => ?_) fun h => ?_
 refine aI ?_
 refine za [12] ?_
 refine zi h (fun h => ?_) fun h => ?_
 refine za [4] ?_
 cases h
 exact aD zr
 refine aB ?_
 refine za [4] ?_
 cases h
 exact aD zr
 refine aB ?_
 refine aI ?_
 refine za [0, 1, 13] ?_
 refine zi h (fun h => ?_) fun h => ?_
 refine za [4] ?_
 cases h
 exact aD zr
 refine aB ?_
 refine aI ?_
 refine za [0, 1, 16] ?_
 refine zi h (fun h => ?_) fun h => ?_
 refine za [4] ?_
 cases h
 exact aD zr
 refine aB ?_
 refine aI ?_
 refine za [19] ?_
 refine zi h (fun h => ?_) fun h => ?_
 refine za [4] ?_
 cases h
 exact aD zr
 refine aB ?_
 refine za [4] ?_
 cases h
 exact aD zr
def fZ (p0 : (List Int)) (p1 : (List Int)) (j1 : Unit → Option Int) : Nat → Int → Option Int
 | 0, _ => none
 | n + 1, v5 => (if (decide (v5 < (List.length p0 : Int))) = true then (idx p0 v5).bind fun (e6 : Int) => (if (decide (v5 ≥ (List.length p1 : Int))) = true then some 1 else (idx p1 v5).bind fun (e7 : Int) => (hY n e6 e7).bind fun (y8 : Int) => (if (y8 != 0) = true then some y8 else fZ p0 p1 j1 n (IntKind.wrap .i64 (v5 + 1)))) else j1 ())
def fH  (n : Nat) (p0 : (List Int)) (p1 : (List Int)) : Option Int := (aS (fun (_ : Unit) => (if (decide ((List.length p0 : Int) < (List.length p1 : Int))) = true then some (-1 : Int) else some 0)) (fun (j1 : Unit → Option Int) => fZ p0 p1 j1 n 0))
theorem rH  (n : Nat) (p0 : (K3)) (p1 : (K3)) (r : Int) (h : fH n p0 p1 = some r) : cW E 40 0 [.c (D4 p0), .c (D4 p1)] [] (B7 r) [] := by
 refine eV Tryz.func40 rfl ?_
 unfold fH at h
 refine za [0, 1] ?_
 refine aQ h (fun A j => ∀ u, j u = some r → A (mk [J6 0 p0, J6 1 p1] [] 0)) (fun u h => ?_) (fun j1 Aj1 hj1 h => ?_)
 refine aI ?_
 refine zx fun _ => ?_
 refine zk 1 ?_
 refine zl aN p0 ?_
 refine zk 1 ?_
 refine zl aN p1 ?_
 refine zk 1 ?_
 refine ze [35] ?_
 refine zi h (fun h => ?_) fun h => ?_
 refine za [4] ?_
 cases h
 exact aD zr
 refine aB ?_
 refine za [4] ?_
 cases h
 exact aD zr
 refine zx fun _ => ?_
 refine zk 1 ?_
 refine zl aN p0 ?_
 refine zk 1 ?_
 refine ze [0, 1, 9, 10, 11] ?_
 refine aG ?_
 refine bA (fun n s => ∃ v5, fZ p0 p1 j1 n v5 = some r ∧ s = mk [J6 0 p0, J6 1 p1, J6 9 p0, (10, .c (I (List.length p0 : Int))), A6 11 v5] [] 0) n _ (zv [] [0, 1, 9, 10, 11] 0) ⟨_, h, rfl⟩ (fun s ⟨v5, h, _⟩ => nomatch h) ?_
 rintro n s ⟨v5, h, rfl⟩
 rw [fZ] at h
 refine za [0, 1, 9, 10, 11, 12] ?_
 refine aI ?_
 refine zi h (fun h => ?_) fun h => ?_
 refine aB ?_
 refine aI ?_
 refine aG ?_
 refine zx fun _ => ?_
 refine zk 1 ?_
 obtain ⟨e6, he, h⟩ := aC h
 refine zd aN he ?_
 clear he
 refine zk 3 ?_
 refine ze [0, 1, 5, 6, 9, 10, 11] ?_
 refine aI ?_
 refine zx fun _ => ?_
 refine zk 2 ?_
 refine zl aN p1 ?_
 refine zk 1 ?_
 refine ze [0, 1, 5, 6, 9, 10, 11, 19] ?_
 refine zi h (fun h => ?_) fun h => ?_
 refine za [4] ?_
 cases h
 exact aD zr
 refine aB ?_
 refine zx fun _ => ?_
 refine zk 2 ?_
 obtain ⟨e7, he, h⟩ := aC h
 refine zd aN he ?_
 clear he
 refine zk 2 ?_
 refine jY [0, 1, 6, 7, 9, 10, 11] (L2 := [J6 0 p0, J6 1 p1, J6 9 p0, (10, .c (I (List.length p0 : Int))), A6 11 v5, A6 6 e6, A6 7 e7]) (G2 := []) 15 ?_
 refine zx fun _ => ?_
 refine zk 2 ?_
 obtain ⟨y8, he, h⟩ := aC h
 refine zc fok72 (yH n _ _ y8 he) ?_
 clear he
 refine zk 1 ?_
 refine ze [0, 1, 8, 9, 10, 11] ?_
 refine za [0, 1, 8, 9, 10, 11, 28] ?_
 refine zi h (fun h => ?_) fun h => ?_
 refine za [4] ?_
 cases h
 exact aD zr
 refine aB ?_
 refine aW ?_
 refine zb ?_
 exact dF (zv [] [0, 1, 9, 10, 11] 0) (⟨_, h, rfl⟩)
 exact aH (zv [] [0, 1] 0) (bG (hj1 _ h))
def kZ  (n : Nat) (p0 : Int) (p1 : Int) (p2 : bK) : Option Int := (idx p2.Rules p0).bind fun (e1 : bZ) => (kS n e1).bind fun (y2 : dH) => (idx p2.Rules p1).bind fun (e3 : bZ) => (kS n e3).bind fun (y4 : dH) => (fH n [y2.x0, y2.x1] [y4.x0, y4.x1]).bind fun (y5 : Int) => some y5
theorem xT  (n : Nat) (p0 : Int) (p1 : Int) (p2 : bK) (r : Int) (h : kZ n p0 p1 p2 = some r) : cW E 38 0 [B7 p0, B7 p1, .c (.imm [C5 p2.Rules])] [] (B7 r) [] := by
 refine eV Tryz.func38 rfl ?_
 unfold kZ at h
 refine za [0, 1, 2] ?_
 refine xI [[], [0], [], [1, 2, 0], [3, 1, 2, 0], [4, 3, 1, 2, 0], [], [6], [], [7, 8, 6], [9, 7, 8, 6], [10, 5, 9, 7, 8, 6, 4, 3, 1, 2, 0], [], [], [12, 5, 11, 0, 1, 2, 3, 4, 10, 13, 9, 7, 8, 6], [13, 11, 14, 0, 1, 2, 3, 4, 5, 6, 7, 8, 9, 10, 12]] fun _ => ?_
 refine zk 3 ?_
 obtain ⟨e1, he, h⟩ := aC h
 refine zd aY he ?_
 clear he
 refine zk 1 ?_
 obtain ⟨y2, he, h⟩ := aC h
 refine zc fok39 (uO n _ y2 he) ?_
 clear he
 refine zk 3 ?_
 obtain ⟨e3, he, h⟩ := aC h
 refine zd aY he ?_
 clear he
 refine zk 1 ?_
 obtain ⟨y4, he, h⟩ := aC h
 refine zc fok39 (uO n _ y4 he) ?_
 clear he
 refine zk 4 ?_
 refine jY [6, 7] (L2 := [A1 6 13 0, A1 7 14 0]) (G2 := [(13, .blk 97 [I y2.x0, I y2.x1]), (14, .blk 97 [I y4.x0, I y4.x1])]) 17 ?_
 refine aH (wX 13 (T := 97) (l := [I y2.x0, I y2.x1]) (l2 := [I y2.x0, I y2.x1]) (L2 := [(6, .c (.imm [I y2.x0, I y2.x1])), A1 7 14 0]) (G2 := [(14, .blk 97 [I y4.x0, I y4.x1])]) (by kernel_rfl) (by kernel_rfl) (by kernel_rfl) (by kernel_rfl)) ?_
 refine aH (wX 14 (T := 97) (l := [I y4.x0, I y4.x1]) (l2 := [I y4.x0, I y4.x1]) (L2 := [(6, .c (.imm [I y2.x0, I y2.x1])), (7, .c (.imm [I y4.x0, I y4.x1]))]) (G2 := []) (by kernel_rfl) (by kernel_rfl) (by kernel_rfl) (by kernel_rfl)) ?_
 refine xI [[], [], [0, 1], [2, 0, 1]] fun _ => ?_
 refine zw (v := .c (D4 [y2.x0, y2.x1])) [] (Fp (l := [I y2.x0, I y2.x1]) (len := 2) (sz := 1) (r := List.map aN [y2.x0, y2.x1]) (by kernel_rfl) (by kernel_rfl) (by kernel_rfl)) ?_
 refine zw (v := .c (D4 [y4.x0, y4.x1])) [] (Fp (l := [I y4.x0, I y4.x1]) (len := 2) (sz := 1) (r := List.map aN [y4.x0, y4.x1]) (by kernel_rfl) (by kernel_rfl) (by kernel_rfl)) ?_
 obtain ⟨y5, he, h⟩ := aC h
 refine zc fok40 (rH n _ _ y5 he) ?_
 clear he
 refine zk 1 ?_
 refine ze [5] ?_
 cases h
 exact aD zr
end Go.Proofs.YtojkihhnioeggaaGreatDoor.S
