import Derived.Test.YtojkihhnioeggaaGreatDoorQUGM4
set_option linter.unusedVariables false
set_option linter.unusedSimpArgs false
set_option maxRecDepth 100000
set_option maxHeartbeats 4000000
namespace Go.Proofs.YtojkihhnioeggaaGreatDoor.S
open Go Go.Bm
def rF (p0 : ByteArray) (j1 : Unit → Option Bool) : Nat → Int → Option Bool
 | 0, _ => none
 | n + 1, v3 => (if (decide (v3 < (ByteArray.size p0 : Int))) = true then (xW p0 v3).bind fun (u4 : Int) => (if ((((((decide (u4 < 97)) || (decide (u4 > 122))) && ((decide (u4 < 65)) || (decide (u4 > 90)))) && ((decide (u4 < 48)) || (decide (u4 > 57)))) && (u4 != 45)) && (u4 != 95)) = true then some false else rF p0 j1 n (IntKind.wrap .i64 (v3 + 1))) else j1 ())
def yP  (n : Nat) (p0 : ByteArray) : Option Bool := (aS (fun (_ : Unit) => some (decide ((ByteArray.size p0 : Int) ≤ 24))) (fun (j1 : Unit → Option Bool) => rF p0 j1 n 0))
theorem Np  (n : Nat) (p0 : ByteArray) (r : Bool) (h : yP n p0 = some r) : dI E 130 0 [F1 p0] [] (B2 r) [] := by
 refine gT Tryz.func130 rfl ?_
 unfold yP at h
 refine za [0] ?_
 refine aX h (fun A j => ∀ u, j u = some r → A (mk [(0, F1 p0)] [] 0)) (fun u h => ?_) (fun j1 Aj1 hj1 h => ?_)
 refine za [2] ?_
 cases h
 exact aI zr
 refine za [0, 6, 7] ?_
 refine aK ?_
 refine bJ (fun n s => ∃ v3, rF p0 j1 n v3 = some r ∧ s = mk [(0, F1 p0), (6, .c (I (ByteArray.size p0 : Int))), C6 7 v3] [] 0) n _ (zv [] [0, 6, 7] 0) ⟨_, h, rfl⟩ (fun s ⟨v3, h, _⟩ => nomatch h) ?_
 rintro n s ⟨v3, h, rfl⟩
 rw [rF] at h
 refine za [0, 6, 7, 8] ?_
 refine aO ?_
 refine zi h (fun h => ?_) fun h => ?_
 refine aC ?_
 refine aO ?_
 refine aK ?_
 refine za [0, 3, 6, 7] ?_
 refine zx fun _ => ?_
 refine zk 2 ?_
 obtain ⟨u4, he, h⟩ := aB h
 refine zs he ?_
 clear he
 refine zk 1 ?_
 refine ze [0, 4, 6, 7] ?_
 refine zx fun _ => ?_
 refine zk 3 ?_
 refine zE (I5 u4) ?_
 refine zE (L3 u4 122) ?_
 refine zP (.bool (G0 u4)) ?_
 refine zk 1 ?_
 refine zE (I5 u4) ?_
 refine zE (J5 u4 65) ?_
 refine zF [G0 u4] (J5 u4 65) ?_
 refine zE (I5 u4) ?_
 refine zE (L3 u4 90) ?_
 refine zP (.bool (J0 u4)) ?_
 refine zP (.bool ((G0 u4) && (J0 u4))) ?_
 refine zk 1 ?_
 refine zE (I5 u4) ?_
 refine zE (J5 u4 48) ?_
 refine zF [(G0 u4) && (J0 u4)] (J5 u4 48) ?_
 refine zE (I5 u4) ?_
 refine zE (L3 u4 57) ?_
 refine zP (.bool (L7 u4)) ?_
 refine zP (.bool (((G0 u4) && (J0 u4)) && (L7 u4))) ?_
 refine Zd 1 (L' := [(0, F1 p0), (6, .c (I (ByteArray.size p0 : Int))), C6 7 v3, (4, I5 u4), (13, I5 u4), (14, J5 u4 97), (15, J5 u4 97), (16, .cnd [!(D9 u4 97)] (I5 u4)), (17, .cnd [!(D9 u4 97)] (L3 u4 122)), (18, B2 (G0 u4)), (19, B2 (G0 u4)), (20, .cnd [G0 u4] (I5 u4)), (21, .cnd [G0 u4] (J5 u4 65)), (22, .cnd [G0 u4] (J5 u4 65)), (23, .cnd [G0 u4, !(D9 u4 65)] (I5 u4)), (24, .cnd [G0 u4, !(D9 u4 65)] (L3 u4 90)), (25, .cnd [G0 u4] (B2 (J0 u4))), (26, B2 ((G0 u4) && (J0 u4))), (27, B2 ((G0 u4) && (J0 u4))), (28, .cnd [(G0 u4) && (J0 u4)] (I5 u4)), (29, .cnd [(G0 u4) && (J0 u4)] (J5 u4 48)), (30, .cnd [(G0 u4) && (J0 u4)] (J5 u4 48)), (31, .cnd [(G0 u4) && (J0 u4), !(D9 u4 48)] (I5 u4)), (32, .cnd [(G0 u4) && (J0 u4), !(D9 u4 48)] (L3 u4 57)), (33, .cnd [(G0 u4) && (J0 u4)] (B2 (L7 u4))), (34, B2 (((G0 u4) && (J0 u4)) && (L7 u4))), (35, B2 (((G0 u4) && (J0 u4)) && (L7 u4)))]) (G' := []) (X' := []) ?_
 refine zE (I5 u4) ?_
 refine zE (B2 (u4 != 45)) ?_
 refine zP (.bool ((((G0 u4) && (J0 u4)) && (L7 u4)) && (u4 != 45))) ?_
 refine zk 1 ?_
 refine zE (I5 u4) ?_
 refine zE (B2 (u4 != 95)) ?_
 refine zP (.bool (((((G0 u4) && (J0 u4)) && (L7 u4)) && (u4 != 45)) && (u4 != 95))) ?_
 refine ze [0, 6, 7, 42] ?_
 refine zi h (fun h => ?_) fun h => ?_
 refine za [2] ?_
 cases h
 exact aI zr
 refine aC ?_
 refine bB ?_
 refine zb ?_
 exact eZ (zv [] [0, 6, 7] 0) (⟨_, h, rfl⟩)
 exact aL (zv [] [0] 0) (bK (hj1 _ h))
def iT  (n : Nat) (p0 : aF) : Option Bool := (aS (fun (v2 : Bool) => (if v2 = true then some ((bV p0.S (⟨#[]⟩ : ByteArray)) && ((List.length p0.L : Int) == 0)) else (if (p0.Kind == 3) = true then some ((p0.N == 0) && ((List.length p0.L : Int) == 0)) else (if (p0.Kind == 4) = true then some ((p0.N == 0) && (bV p0.S (⟨#[]⟩ : ByteArray))) else some false)))) (fun (j1 : Bool → Option Bool) => (if (p0.Kind == 1) = true then j1 (p0.Kind == 1) else j1 (p0.Kind == 2))))
theorem Fa  (n : Nat) (p0 : aF) (r : Bool) (h : iT n p0 = some r) : dI E 149 0 [B5 p0] [] (B2 r) [] := by
 refine gT Tryz.func149 rfl ?_
 unfold iT at h
 refine za [1] ?_
 refine aO ?_
 refine za [1, 4] ?_
 refine aK ?_
 refine aX h (fun A j => ∀ v2, j v2 = some r → A (mk [N3, C6 4 p0.Kind, K2 5 v2] [(0, E1 p0)] 1)) (fun v2 h => ?_) (fun j1 Aj1 hj1 h => ?_)
 refine zi h (fun h => ?_) fun h => ?_
 refine zx fun _ => ?_
 refine zk 4 ?_
 refine zE (A1 0 3) ?_
 refine zE (K8 p0.L) ?_
 refine lM (e := [(bV p0.S (⟨#[]⟩ : ByteArray))]) [(13, K8 p0.L, some 1)] (v := .c (I (List.length p0.L : Int))) (foot := []) (by kernel_rfl) (by kernel_rfl) (by kernel_rfl) (fun hg => lY (enc := aQ) (l := p0.L) (by kernel_rfl)) rfl rfl ?_
 refine zE (.c (Bo ((List.length p0.L : Int) == 0))) ?_
 refine zP (.bool ((bV p0.S (⟨#[]⟩ : ByteArray)) && ((List.length p0.L : Int) == 0))) ?_
 refine zk 1 ?_
 refine ze [2] ?_
 cases h
 exact aI zr
 refine za [1, 4, 17] ?_
 refine zi h (fun h => ?_) fun h => ?_
 refine zx fun _ => ?_
 refine zk 4 ?_
 refine zE (A1 0 3) ?_
 refine zE (K8 p0.L) ?_
 refine lM (e := [p0.N == 0]) [(24, K8 p0.L, some 1)] (v := .c (I (List.length p0.L : Int))) (foot := []) (by kernel_rfl) (by kernel_rfl) (by kernel_rfl) (fun hg => lY (enc := aQ) (l := p0.L) (by kernel_rfl)) rfl rfl ?_
 refine zE (.c (Bo ((List.length p0.L : Int) == 0))) ?_
 refine zP (.bool ((p0.N == 0) && ((List.length p0.L : Int) == 0))) ?_
 refine zk 1 ?_
 refine ze [2] ?_
 cases h
 exact aI zr
 refine za [1, 28] ?_
 refine zi h (fun h => ?_) fun h => ?_
 refine zx fun _ => ?_
 refine zk 4 ?_
 refine zE (A1 0 2) ?_
 refine zE (F1 p0.S) ?_
 refine zE (.c (Bo (bV p0.S (⟨#[]⟩ : ByteArray)))) ?_
 refine zP (.bool ((p0.N == 0) && (bV p0.S (⟨#[]⟩ : ByteArray)))) ?_
 refine zk 1 ?_
 refine ze [2] ?_
 cases h
 exact aI zr
 refine aC ?_
 refine za [2] ?_
 cases h
 exact aI zr
 refine za [1, 4, 5] ?_
 refine zi h (fun h => ?_) fun h => ?_
 exact aL (zv [(0, 0)] [1, 4, 5] 1) (aC (hj1 _ h))
 refine bB ?_
 refine zb ?_
 exact eZ (zv [(0, 0)] [1, 4, 5] 1) (hj1 _ h)
def iQ  (n : Nat) (p0 : Int) : Option Bool := some ((decide (p0 ≥ (-1099511627776 : Int))) && (decide (p0 ≤ 1099511627776)))
theorem Dn  (n : Nat) (p0 : Int) (r : Bool) (h : iQ n p0 = some r) : dI E 150 0 [A6 p0] [] (B2 r) [] := by
 refine gT Tryz.func150 rfl ?_
 unfold iQ at h
 refine za [0] ?_
 refine zx fun _ => ?_
 refine zk 3 ?_
 refine zE (A6 p0) ?_
 refine zE (B2 (I7 p0 1099511627776)) ?_
 refine zP (.bool ((decide (p0 ≥ (-1099511627776 : Int))) && (I7 p0 1099511627776))) ?_
 refine zk 1 ?_
 refine ze [2] ?_
 cases h
 exact aI zr
def oU  (n : Nat) (p0 : aV) : Option aV := some (aV.mk 4 [p0])
theorem qJ  (n : Nat) (p0 : aV) (r : aV) (h : oU n p0 = some r) : dI E 153 0 [C3 p0] [] (C3 r) [] := by
 refine gT Tryz.func153 rfl ?_
 unfold oU at h
 refine za [1, 2] ?_
 refine zx fun _ => ?_
 refine zk 1 ?_
 refine rG (e := 190) (sz := 2) (len := 1) (r := [I p0.Kind, E9 p0.Of]) (l' := List.map bI [p0]) (nm := 3) (by kernel_rfl) (by simp only [List.map_cons, List.map_nil, gB]; kernel_rfl) (by kernel_rfl) (by kernel_rfl) rfl rfl rfl ?_
 refine zk 2 ?_
 refine ze [2] ?_
 cases h
 exact aI zr
def qS (self_expr_join : aV → aV → Option (aV × Bool)) (n : Nat) (p0 : aV) (p1 : aV) : Option (aV × Bool) := (if (p0.Kind != p1.Kind) = true then some ((aV.mk 0 ([] : List aV)), false) else (if ((List.length p0.Of : Int) == 0) = true then some (p1, true) else (if ((List.length p1.Of : Int) == 0) = true then some (p0, true) else (idx p0.Of 0).bind fun (e1 : aV) => (idx p1.Of 0).bind fun (e2 : aV) => (self_expr_join e1 e2).bind fun (y3 : (aV × Bool)) => (if (!y3.2) = true then some ((aV.mk 0 ([] : List aV)), false) else (oU n y3.1).bind fun (y4 : aV) => some (y4, true)))))
theorem zO (self_expr_join : aV → aV → Option (aV × Bool)) (ih_expr_join : ∀ (p0 : aV) (p1 : aV) (r : (aV × Bool)), self_expr_join p0 p1 = some r → dI E 155 0 [C3 p0, C3 p1] [] (.tup [C3 r.1, B2 r.2]) []) (n : Nat) (p0 : aV) (p1 : aV) (r : (aV × Bool)) (h : qS self_expr_join n p0 p1 = some r) : dI E 155 0 [C3 p0, C3 p1] [] (.tup [C3 r.1, B2 r.2]) [] := by
 refine gT Tryz.func155 rfl ?_
 unfold qS at h
 refine za [2, 3, 4] ?_
 refine aO ?_
 refine aK ?_
 refine za [2, 3, 4, 8] ?_
 refine zi h (fun h => ?_) fun h => ?_
 refine za [4, 5] ?_
 cases h
 exact aI zr
 refine zx fun _ => ?_
 refine zk 2 ?_
 refine zl bI p0.Of ?_
 refine zk 2 ?_
 refine ze [2, 3, 4, 15] ?_
 refine zi h (fun h => ?_) fun h => ?_
 refine za [4, 5] ?_
 cases h
 exact aI zr
 refine zx fun _ => ?_
 refine zk 2 ?_
 refine zl bI p1.Of ?_
 refine zk 2 ?_
 refine ze [2, 3, 4, 21] ?_
 refine zi h (fun h => ?_) fun h => ?_
 refine za [4, 5] ?_
 cases h
 exact aI zr
 refine aC ?_
 refine Dm [[], [0], [1, 0], [2, 1, 0], [], [4], [5, 4], [6, 5, 4], [3, 7, 2, 1, 0, 6, 5, 4], [8, 3, 7, 2, 1, 0, 6, 5, 4], [9, 8, 3, 7, 2, 1, 0, 6, 5, 4], [9, 8, 3, 7, 2, 1, 0, 6, 5, 4], [], [12, 10, 8, 0, 1, 2, 3, 4, 5, 6, 7, 9], [11, 13, 0, 1, 2, 3, 4, 5, 6, 7, 8, 9, 10, 12]] fun _ => ?_
 refine zk 2 ?_
 obtain ⟨e1, he, h⟩ := aB h
 refine dT (v := .c (K7 e1)) (foot := []) (eK (enc := bI) (sz := 2) (l := p0.Of) (ix := 0) he (by kernel_rfl) (gB e1) (by kernel_rfl)) (by kernel_rfl) rfl rfl ?_
 clear he
 refine zk 3 ?_
 obtain ⟨e2, he, h⟩ := aB h
 refine dT (v := .c (K7 e2)) (foot := []) (eK (enc := bI) (sz := 2) (l := p1.Of) (ix := 0) he (by kernel_rfl) (gB e2) (by kernel_rfl)) (by kernel_rfl) rfl rfl ?_
 clear he
 refine zk 1 ?_
 obtain ⟨y3, he, h⟩ := aB h
 refine zc Xq (ih_expr_join _ _ y3 he) ?_
 clear he
 refine zk 6 ?_
 refine mC [4, 6, 7] (L2 := [C0 4 2 0, C0 6 32 0, K2 7 y3.2]) (G2 := [(0, I4 p0), (1, I4 p1), (2, G4), (32, I4 y3.1)]) 35 ?_
 refine aO ?_
 refine za [4, 6, 40] ?_
 refine zi h (fun h => ?_) fun h => ?_
 refine za [4, 5] ?_
 cases h
 exact aI zr
 refine aC ?_
 refine zx fun _ => ?_
 refine zk 1 ?_
 obtain ⟨y4, he, h⟩ := aB h
 refine zc Pb (qJ n _ y4 he) ?_
 clear he
 refine zk 2 ?_
 refine ze [4, 5] ?_
 cases h
 exact aI zr
def rY : Nat → aV → aV → Option (aV × Bool)
 | 0, _, _ => none
 | n + 1, p0, p1 => qS (fun a0 a1 => rY n a0 a1) n p0 p1
theorem Lc (n : Nat) : (∀ (p0 : aV) (p1 : aV) (r : (aV × Bool)), rY n p0 p1 = some r → dI E 155 0 [C3 p0, C3 p1] [] (.tup [C3 r.1, B2 r.2]) []) := by
 induction n with
 | zero => intro p0 p1 r h; rw [rY] at h; cases h
 | succ n ih => intro p0 p1 r h; rw [rY] at h; exact zO _ ih n _ _ r h
def nR (l3 : List aV) (j2 : Int → List aV → Option (aV × Bool)) : Nat → Int → Int → List aV → Option (aV × Bool)
 | 0, _, _, _ => none
 | n + 1, v6, v7, v8 => (if (decide (v6 < (List.length l3 : Int))) = true then (idx l3 v6).bind fun (e9 : aV) => (rY n (aV.mk v7 v8) e9).bind fun (y10 : (aV × Bool)) => (if (!y10.2) = true then some ((aV.mk 0 ([] : List aV)), false) else nR l3 j2 n (IntKind.wrap .i64 (v6 + 1)) y10.1.Kind y10.1.Of) else j2 v7 v8)
def nA  (n : Nat) (p0 : (List aV)) : Option (aV × Bool) := (if ((List.length p0 : Int) == 0) = true then some ((aV.mk 4 ([] : List aV)), true) else (idx p0 0).bind fun (e1 : aV) => (aS (fun (v14 : Int) (v15 : List aV) => (oU n (aV.mk v14 v15)).bind fun (y16 : aV) => some (y16, true)) (fun (j2 : Int → List aV → Option (aV × Bool)) => (Tp p0 1 (List.length p0 : Int)).bind fun (l3 : List aV) => nR l3 j2 n 0 e1.Kind e1.Of)))
theorem Dk  (n : Nat) (p0 : (List aV)) (r : (aV × Bool)) (h : nA n p0 = some r) : dI E 152 0 [.c (E9 p0)] [] (.tup [C3 r.1, B2 r.2]) [] := by
 refine gT Tryz.func152 rfl ?_
 unfold nA at h
 refine za [0, 2] ?_
 refine aO ?_
 refine zx fun _ => ?_
 refine zk 1 ?_
 refine zl bI p0 ?_
 refine zk 1 ?_
 refine ze [0, 2, 10] ?_
 refine zi h (fun h => ?_) fun h => ?_
 refine za [2, 3] ?_
 cases h
 exact aI zr
 refine aC ?_
 refine zx fun _ => ?_
 refine zk 1 ?_
 obtain ⟨e1, he, h⟩ := aB h
 refine dT (v := .c (K7 e1)) (foot := []) (eK (enc := bI) (sz := 2) (l := p0) (ix := 0) he (by kernel_rfl) (gB e1) (by kernel_rfl)) (by kernel_rfl) rfl rfl ?_
 clear he
 refine zk 3 ?_
 refine ze [0, 2, 4] ?_
 refine aX h (fun A j => ∀ v14 v15, j v14 v15 = some r → A (mk [J3, I3] [(0, G4), (1, .blk 190 [I v14, E9 v15])] 2)) (fun v14 v15 h => ?_) (fun j2 Aj2 hj2 h => ?_)
 refine zx fun _ => ?_
 refine zk 1 ?_
 obtain ⟨y16, he, h⟩ := aB h
 refine zc Pb (qJ n _ y16 he) ?_
 clear he
 refine zk 2 ?_
 refine ze [2, 3] ?_
 cases h
 exact aI zr
 refine zx fun _ => ?_
 refine zk 1 ?_
 obtain ⟨l3, he, h⟩ := aB h
 refine zw (v := .c (E9 l3)) [] (Il (enc := bI) (l := p0) (p := 1) (q := (List.length p0 : Int)) (sz := 2) he (by kernel_rfl) (fun x => by rw [gB]; rfl)) ?_
 clear he
 refine zl bI l3 ?_
 refine zk 1 ?_
 refine mC [2, 4, 16, 17, 18] (L2 := [J3, C0 4 8 0, (16, .c (E9 l3)), (17, .c (I (List.length l3 : Int))), I9 18]) (G2 := [(0, G4), (8, I4 e1)]) 14 ?_
 refine aK ?_
 refine bJ (fun n s => ∃ v6 v7 v8, nR l3 j2 n v6 v7 v8 = some r ∧ s = mk [J3, I3, (16, .c (E9 l3)), (17, .c (I (List.length l3 : Int))), C6 18 v6] [(0, G4), (1, .blk 190 [I v7, E9 v8])] 2) n _ (zv [(0, 0), (8, 1)] [2, 4, 16, 17, 18] 2) ⟨_, _, _, h, rfl⟩ (fun s ⟨v6, v7, v8, h, _⟩ => nomatch h) ?_
 rintro n s ⟨v6, v7, v8, h, rfl⟩
 rw [nR] at h
 refine za [2, 4, 16, 17, 18, 19] ?_
 refine aO ?_
 refine zi h (fun h => ?_) fun h => ?_
 refine aC ?_
 refine aO ?_
 refine aK ?_
 refine zx fun _ => ?_
 obtain ⟨e9, he, h⟩ := aB h
 refine dT (v := .c (K7 e9)) (foot := []) (eK (enc := bI) (sz := 2) (l := l3) (ix := v6) he (by kernel_rfl) (gB e9) (by kernel_rfl)) (by kernel_rfl) rfl rfl ?_
 clear he
 refine zk 3 ?_
 refine ze [2, 4, 6, 16, 17, 18] ?_
 refine za [2, 4, 6, 16, 17, 18] ?_
 refine zx fun _ => ?_
 refine zk 2 ?_
 obtain ⟨y10, he, h⟩ := aB h
 refine zc Xq (Lc n _ _ y10 he) ?_
 clear he
 refine zk 5 ?_
 refine ze [2, 4, 7, 16, 17, 18] ?_
 refine za [2, 4, 16, 17, 18, 29] ?_
 refine zi h (fun h => ?_) fun h => ?_
 refine za [2, 3] ?_
 cases h
 exact aI zr
 refine aC ?_
 refine bB ?_
 refine zb ?_
 exact eZ (zv [(0, 0), (1, 1)] [2, 4, 16, 17, 18] 2) (⟨_, _, _, h, rfl⟩)
 exact aL (zv [(0, 0), (1, 1)] [2, 4] 2) (bK (hj2 _ _ h))
def jG (p0 : aF) (self_expr_check : aF → Int → Int → Option (aV × Int × Int)) (p1 : Int) (j6 : List aV → Int → Option (aV × Int × Int)) : Nat → List aV → Int → Int → Option (aV × Int × Int)
 | 0, _, _, _ => none
 | n + 1, v10, v11, v12 => (if (decide (v11 < (List.length p0.L : Int))) = true then (idx p0.L v11).bind fun (e13 : aF) => (self_expr_check e13 (IntKind.wrap .i64 (p1 + 1)) v12).bind fun (y14 : (aV × Int × Int)) => (if (y14.2.1 != 0) = true then some ((aV.mk 0 ([] : List aV)), y14.2.1, y14.2.2) else (pD 32 v10 [y14.1]).bind fun (l15 : List aV) => jG p0 self_expr_check p1 j6 n l15 (IntKind.wrap .i64 (v11 + 1)) y14.2.2) else j6 v10 v12)
def eR (self_expr_check : aF → Int → Int → Option (aV × Int × Int)) (n : Nat) (p0 : aF) (p1 : Int) (p2 : Int) : Option (aV × Int × Int) := (if ((p0.Kind == 4) && (decide (p1 ≥ 16))) = true then some ((aV.mk 0 ([] : List aV)), 8, p2) else (iT n p0).bind fun (y1 : Bool) => (if (!y1) = true then some ((aV.mk 0 ([] : List aV)), 9, (IntKind.wrap .i64 (p2 + 1))) else (aS (fun (v4 : Bool) => (if v4 = true then some ((aV.mk 0 ([] : List aV)), 1, (IntKind.wrap .i64 (p2 + 1))) else (if (((decide ((ByteArray.size p0.S : Int) > 2000)) || (decide ((List.length p0.L : Int) > 100))) || (decide ((IntKind.wrap .i64 (p2 + 1)) > 1000))) = true then some ((aV.mk 0 ([] : List aV)), 2, (IntKind.wrap .i64 (p2 + 1))) else (utf8_ValidString n p0.S).bind fun (y5 : Bool) => (if (!y5) = true then some ((aV.mk 0 ([] : List aV)), 3, (IntKind.wrap .i64 (p2 + 1))) else (if (p0.Kind != 4) = true then some ((aV.mk p0.Kind ([] : List aV)), 0, (IntKind.wrap .i64 (p2 + 1))) else (aS (fun (v19 : List aV) (v20 : Int) => (nA n v19).bind fun (y21 : (aV × Bool)) => (if (!y21.2) = true then some ((aV.mk 0 ([] : List aV)), 5, v20) else some (y21.1, 0, v20))) (fun (j6 : List aV → Int → Option (aV × Int × Int)) => jG p0 self_expr_check p1 j6 n ([] : List aV) 0 (IntKind.wrap .i64 (p2 + 1))))))))) (fun (j2 : Bool → Option (aV × Int × Int)) => (gd [(p0.Kind == 1)] (iQ n p0.N)).bind fun (y3 : Bool) => (if ((p0.Kind == 1) && (!y3)) = true then j2 ((p0.Kind == 1) && (!y3)) else j2 (((p0.Kind == 2) && (p0.N != 0)) && (p0.N != 1)))))))
theorem xI (self_expr_check : aF → Int → Int → Option (aV × Int × Int)) (ih_expr_check : ∀ (p0 : aF) (p1 : Int) (p2 : Int) (r : (aV × Int × Int)), self_expr_check p0 p1 p2 = some r → dI E 147 1 [B5 p0, A6 p1, A1 0 0] [G3 p2] (.tup [C3 r.1, A6 r.2.1]) [G3 r.2.2]) (n : Nat) (p0 : aF) (p1 : Int) (p2 : Int) (r : (aV × Int × Int)) (h : eR self_expr_check n p0 p1 p2 = some r) : dI E 147 1 [B5 p0, A6 p1, A1 0 0] [G3 p2] (.tup [C3 r.1, A6 r.2.1]) [G3 r.2.2] := by
 refine gT Tryz.func147 rfl ?_
 unfold eR at h
 refine za [1, 2, 3, 6] ?_
 refine aO ?_
 refine zx fun _ => ?_
 refine zk 4 ?_
 refine zE (A6 p1) ?_
 refine zE (B2 (I8 p1 16)) ?_
 refine zP (.bool ((p0.Kind == 4) && (I8 p1 16))) ?_
 refine ze [1, 2, 3, 6, 21] ?_
 refine zi h (fun h => ?_) fun h => ?_
 refine za [6, 7] ?_
 cases h
 exact aI zr
 refine aC ?_
 refine za [1, 2, 3, 6] ?_
 refine aO ?_
 refine aK ?_
 refine zx fun _ => ?_
 refine zk 1 ?_
 obtain ⟨y1, he, h⟩ := aB h
 refine zc fok149 (Fa n _ y1 he) ?_
 clear he
 refine zk 2 ?_
 refine ze [1, 2, 3, 6, 28] ?_
 refine zi h (fun h => ?_) fun h => ?_
 refine za [6, 7] ?_
 cases h
 exact aI zr
 refine aX h (fun A j => ∀ v4, j v4 = some r → A (mk [C6 1 p1, J3, M9, C0 6 2 0, K2 33 v4] [G3 (D2 p2 1), (1, E1 p0), (2, G4)] 3)) (fun v4 h => ?_) (fun j2 Aj2 hj2 h => ?_)
 refine zi h (fun h => ?_) fun h => ?_
 refine za [6, 7] ?_
 cases h
 exact aI zr
 refine zx fun _ => ?_
 refine zk 5 ?_
 refine zE (A1 1 3) ?_
 refine zE (K8 p0.L) ?_
 refine lM (e := [(!(decide ((ByteArray.size p0.S : Int) > 2000)))]) [(64, K8 p0.L, some 1)] (v := .c (I (List.length p0.L : Int))) (foot := []) (by kernel_rfl) (by kernel_rfl) (by kernel_rfl) (fun hg => lY (enc := aQ) (l := p0.L) (by kernel_rfl)) rfl rfl ?_
 refine zE (.c (Bo (decide ((List.length p0.L : Int) > 100)))) ?_
 refine zP (.bool ((decide ((ByteArray.size p0.S : Int) > 2000)) || (decide ((List.length p0.L : Int) > 100)))) ?_
 refine zk 1 ?_
 refine zE (A1 0 0) ?_
 refine zE (A1 0 0) ?_
 refine zE (A6 (D2 p2 1)) ?_
 refine zE (B2 (decide ((D2 p2 1) > 1000))) ?_
 refine zP (.bool (((decide ((ByteArray.size p0.S : Int) > 2000)) || (decide ((List.length p0.L : Int) > 100))) || (decide ((D2 p2 1) > 1000)))) ?_
 refine zk 1 ?_
 refine mC [1, 2, 3, 6, 57] (L2 := [C6 1 p1, J3, M9, C0 6 2 0, (57, .c (Bo (((decide ((ByteArray.size p0.S : Int) > 2000)) || (decide ((List.length p0.L : Int) > 100))) || (decide ((D2 p2 1) > 1000)))))]) (G2 := [G3 (D2 p2 1), (1, E1 p0), (2, G4)]) 20 ?_
 refine zi h (fun h => ?_) fun h => ?_
 refine za [6, 7] ?_
 cases h
 exact aI zr
 refine zx fun _ => ?_
 refine zk 2 ?_
 obtain ⟨y5, he, h⟩ := aB h
 refine zc fok151 (xA n _ y5 he) ?_
 clear he
 refine zk 2 ?_
 refine ze [1, 2, 3, 6, 75] ?_
 refine zi h (fun h => ?_) fun h => ?_
 refine za [6, 7] ?_
 cases h
 exact aI zr
 refine za [1, 2, 3, 6, 81] ?_
 refine zi h (fun h => ?_) fun h => ?_
 refine za [6, 7] ?_
 cases h
 exact aI zr
 refine aC ?_
 refine za [1, 2, 3, 6, 8] ?_
 refine aX h (fun A j => ∀ v19 v20, j v19 v20 = some r → A (mk [N0, (8, .c (.app 2 (List.map bI v19)))] [G3 v20, (1, G4), B7 2 190 2 v19] 3)) (fun v19 v20 h => ?_) (fun j6 Aj6 hj6 h => ?_)
 refine zx fun _ => ?_
 refine zk 1 ?_
 obtain ⟨y21, he, h⟩ := aB h
 refine zc fok152 (Dk n _ y21 he) ?_
 clear he
 refine zk 6 ?_
 refine ze [6, 13, 14] ?_
 refine aO ?_
 refine za [6, 13, 118] ?_
 refine zi h (fun h => ?_) fun h => ?_
 refine za [6, 7] ?_
 cases h
 exact aI zr
 refine aC ?_
 refine za [6, 7] ?_
 cases h
 exact aI zr
 refine zx fun _ => ?_
 refine zk 2 ?_
 refine zl aQ p0.L ?_
 refine zk 1 ?_
 refine ze [1, 2, 6, 8, 89, 90, 91] ?_
 refine aK ?_
 refine bJ (fun n s => ∃ v10 v11 v12, jG p0 self_expr_check p1 j6 n v10 v11 v12 = some r ∧ s = mk [C6 1 p1, J3, N0, (8, .c (.app 2 (List.map bI v10))), (89, K8 p0.L), (90, .c (I (List.length p0.L : Int))), C6 91 v11] [G3 v12, (1, G4), B7 2 190 2 v10] 3) n _ (eA.trans (nC (L2 := [C6 1 p1, J3, C0 6 2 0, (8, .c (.app 34 (List.map bI ([] : List aV)))), (89, K8 p0.L), (90, .c (I (List.length p0.L : Int))), I9 91]) (G2 := [G3 (D2 p2 1), (1, E1 p0), (2, G4), (34, .tok 190 2 (List.length ([] : List aV)))]) (lim2 := 35) 8 190 2 (by kernel_rfl) (by kernel_rfl) (by kernel_rfl) (by kernel_rfl)) (zv [(0, 0), (2, 1), (34, 2)] [1, 2, 6, 8, 89, 90, 91] 3)) ⟨_, _, _, h, rfl⟩ (fun s ⟨v10, v11, v12, h, _⟩ => nomatch h) ?_
 rintro n s ⟨v10, v11, v12, h, rfl⟩
 rw [jG] at h
 refine za [1, 2, 6, 8, 89, 90, 91, 92] ?_
 refine aO ?_
 refine zi h (fun h => ?_) fun h => ?_
 refine aC ?_
 refine aO ?_
 refine aK ?_
 refine zx fun _ => ?_
 obtain ⟨e13, he, h⟩ := aB h
 refine dT (v := .c (J2 e13)) (foot := []) (eK (enc := aQ) (sz := 4) (l := p0.L) (ix := v11) he (by kernel_rfl) (dR e13) (by kernel_rfl)) (by kernel_rfl) rfl rfl ?_
 clear he
 refine zk 3 ?_
 refine ze [1, 2, 6, 8, 10, 89, 90, 91] ?_
 refine zx fun _ => ?_
 refine zk 4 ?_
 obtain ⟨y14, he, h⟩ := aB h
 refine zo [(0, 0)] We (ih_expr_check _ _ _ y14 he) ?_
 clear he
 refine zk 6 ?_
 refine ze [1, 2, 6, 8, 11, 12, 89, 90, 91] ?_
 refine aO ?_
 refine za [1, 2, 6, 8, 11, 12, 89, 90, 91, 104] ?_
 refine zi h (fun h => ?_) fun h => ?_
 refine za [6, 7] ?_
 cases h
 exact aI zr
 refine aC ?_
 refine zy fun _ => ?_
 refine zk 2 ?_
 refine rG (e := 190) (sz := 2) (len := 1) (r := [I y14.1.Kind, E9 y14.1.Of]) (l' := List.map bI [y14.1]) (nm := 23) (by kernel_rfl) (by simp only [List.map_cons, List.map_nil, gB]; kernel_rfl) (by kernel_rfl) (by kernel_rfl) rfl rfl rfl ?_
 obtain ⟨l15, he, h⟩ := aB h
 refine cH (enc := bI) (l := v10) (els := [y14.1]) (r := l15) (old := some 2) (e := 190) (sz := 2) (bytes := 32) (k := (H4 v10)) (nm := 24) he (by kernel_rfl) (by kernel_rfl) (fun x => by rw [gB]; rfl) (by kernel_rfl) (by kernel_rfl) rfl rfl rfl ?_
 clear he
 refine zk 1 ?_
 refine cF ?_
 refine bB ?_
 refine zb ?_
 exact eZ (zv [(0, 0), (1, 1), (24, 2)] [1, 2, 6, 8, 89, 90, 91] 3) (⟨_, _, _, h, rfl⟩)
 exact aL (zv [(0, 0), (1, 1), (2, 2)] [6, 8] 3) (bK (hj6 _ _ h))
 refine zx fun _ => ?_
 refine zk 4 ?_
 refine zE (A1 1 1) ?_
 refine zE (A6 p0.N) ?_
 obtain ⟨y3, he, h⟩ := aB h
 refine Om [p0.Kind == 1] fok150 (fun hg => Dn n _ y3 (cD he hg)) ?_
 clear he
 refine zE (B2 (!y3)) ?_
 refine zP (.bool ((p0.Kind == 1) && (!y3))) ?_
 refine zk 1 ?_
 refine mC [1, 2, 3, 6, 33] (L2 := [C6 1 p1, J3, M9, C0 6 2 0, (33, B2 ((p0.Kind == 1) && (!y3)))]) (G2 := [G3 (D2 p2 1), (1, E1 p0), (2, G4)]) 31 ?_
 refine zi h (fun h => ?_) fun h => ?_
 exact aL (zv [(0, 0), (1, 1), (2, 2)] [1, 2, 3, 6, 33] 3) (aC (hj2 _ h))
 refine bB ?_
 refine zy fun _ => ?_
 refine zk 4 ?_
 refine zE (A1 1 1) ?_
 refine zE (A6 p0.N) ?_
 refine zE (B2 (p0.N != 0)) ?_
 refine zP (.bool ((p0.Kind == 2) && (p0.N != 0))) ?_
 refine zk 1 ?_
 refine zE (A1 1 1) ?_
 refine zE (A6 p0.N) ?_
 refine zE (B2 (p0.N != 1)) ?_
 refine zP (.bool (((p0.Kind == 2) && (p0.N != 0)) && (p0.N != 1))) ?_
 refine zk 1 ?_
 refine cF ?_
 exact eZ (zv [(0, 0), (1, 1), (2, 2)] [1, 2, 3, 6, 33] 3) (hj2 _ h)
def eD : Nat → aF → Int → Int → Option (aV × Int × Int)
 | 0, _, _, _ => none
 | n + 1, p0, p1, p2 => eR (fun a0 a1 a2 => eD n a0 a1 a2) n p0 p1 p2
theorem Gz (n : Nat) : (∀ (p0 : aF) (p1 : Int) (p2 : Int) (r : (aV × Int × Int)), eD n p0 p1 p2 = some r → dI E 147 1 [B5 p0, A6 p1, A1 0 0] [G3 p2] (.tup [C3 r.1, A6 r.2.1]) [G3 r.2.2]) := by
 induction n with
 | zero => intro p0 p1 p2 r h; rw [eD] at h; cases h
 | succ n ih => intro p0 p1 p2 r h; rw [eD] at h; exact xI _ ih n _ _ _ r h
def jV (self_expr_copyType : aV → Option aV) (n : Nat) (p0 : aV) : Option aV := (if ((List.length p0.Of : Int) == 0) = true then some (aV.mk p0.Kind ([] : List aV)) else (idx p0.Of 0).bind fun (e1 : aV) => (self_expr_copyType e1).bind fun (y2 : aV) => (oU n y2).bind fun (y3 : aV) => some y3)
theorem uM (self_expr_copyType : aV → Option aV) (ih_expr_copyType : ∀ (p0 : aV) (r : aV), self_expr_copyType p0 = some r → dI E 148 0 [C3 p0] [] (C3 r) []) (n : Nat) (p0 : aV) (r : aV) (h : jV self_expr_copyType n p0 = some r) : dI E 148 0 [C3 p0] [] (C3 r) [] := by
 refine gT Tryz.func148 rfl ?_
 unfold jV at h
 refine za [1, 2] ?_
 refine aO ?_
 refine zx fun _ => ?_
 refine zk 2 ?_
 refine zl bI p0.Of ?_
 refine zk 1 ?_
 refine ze [1, 2, 6] ?_
 refine zi h (fun h => ?_) fun h => ?_
 refine za [2] ?_
 cases h
 exact aI zr
 refine aC ?_
 refine zx fun _ => ?_
 refine zk 2 ?_
 obtain ⟨e1, he, h⟩ := aB h
 refine dT (v := .c (K7 e1)) (foot := []) (eK (enc := bI) (sz := 2) (l := p0.Of) (ix := 0) he (by kernel_rfl) (gB e1) (by kernel_rfl)) (by kernel_rfl) rfl rfl ?_
 clear he
 refine zk 1 ?_
 obtain ⟨y2, he, h⟩ := aB h
 refine zc Ve (ih_expr_copyType _ y2 he) ?_
 clear he
 obtain ⟨y3, he, h⟩ := aB h
 refine zc Pb (qJ n _ y3 he) ?_
 clear he
 refine zk 1 ?_
 refine mC [2] (L2 := [M5]) (G2 := [(0, I4 p0), (1, I4 y3)]) 13 ?_
 cases h
 exact aI zr
def gH : Nat → aV → Option aV
 | 0, _ => none
 | n + 1, p0 => jV (fun a0 => gH n a0) n p0
theorem Az (n : Nat) : (∀ (p0 : aV) (r : aV), gH n p0 = some r → dI E 148 0 [C3 p0] [] (C3 r) []) := by
 induction n with
 | zero => intro p0 r h; rw [gH] at h; cases h
 | succ n ih => intro p0 r h; rw [gH] at h; exact uM _ ih n _ r h
def lB  (n : Nat) (p0 : aF) : Option (aV × Int) := (eD n p0 0 0).bind fun (y1 : (aV × Int × Int)) => (if (y1.2.1 != 0) = true then some ((aV.mk 0 ([] : List aV)), y1.2.1) else (gH n y1.1).bind fun (y2 : aV) => some (y2, 0))
theorem Dv  (n : Nat) (p0 : aF) (r : (aV × Int)) (h : lB n p0 = some r) : dI E 144 0 [B5 p0] [] (.tup [C3 r.1, A6 r.2]) [] := by
 refine gT Tryz.func144 rfl ?_
 unfold lB at h
 refine za [1, 2] ?_
 refine za [1, 2, 4] ?_
 refine zx fun _ => ?_
 refine zk 1 ?_
 obtain ⟨y1, he, h⟩ := aB h
 refine zo [(0, 3)] We (Gz n _ _ _ y1 he) ?_
 clear he
 refine zk 6 ?_
 refine ze [2, 5, 6] ?_
 refine aO ?_
 refine za [2, 5, 6, 13] ?_
 refine zi h (fun h => ?_) fun h => ?_
 refine za [2, 3] ?_
 cases h
 exact aI zr
 refine aC ?_
 refine zx fun _ => ?_
 refine zk 1 ?_
 obtain ⟨y2, he, h⟩ := aB h
 refine zc Ve (Az n _ y2 he) ?_
 clear he
 refine zk 2 ?_
 refine ze [2, 3] ?_
 cases h
 exact aI zr
def jS  (n : Nat) (p0 : aF) : Option Int := (lB n p0).bind fun (y1 : (aV × Int)) => some y1.2
theorem xD  (n : Nat) (p0 : aF) (r : Int) (h : jS n p0 = some r) : dI E 139 0 [B5 p0] [] (A6 r) [] := by
 refine gT Tryz.func139 rfl ?_
 unfold jS at h
 refine za [1] ?_
 refine zx fun _ => ?_
 refine zk 1 ?_
 obtain ⟨y1, he, h⟩ := aB h
 refine zc fok144 (Dv n _ y1 he) ?_
 clear he
 refine zk 6 ?_
 refine ze [4] ?_
 refine za [2] ?_
 cases h
 exact aI zr
def eV (p0 : (List bD)) (j1 : Unit → Option Int) : Nat → Int → Option Int
 | 0, _ => none
 | n + 1, v6 => (if (decide (v6 < (List.length p0 : Int))) = true then (idx p0 v6).bind fun (e7 : bD) => (eH n e7.Name).bind fun (y8 : Bool) => (if (!y8) = true then some 4 else (gd [(decide (v6 > 0))] (idx p0 (IntKind.wrap .i64 (v6 - 1)))).bind fun (e9 : bD) => (if ((decide (v6 > 0)) && (!(Nv e9.Name e7.Name))) = true then some 10 else (jS n e7.Value).bind fun (y10 : Int) => (if (y10 != 0) = true then some y10 else eV p0 j1 n (IntKind.wrap .i64 (v6 + 1))))) else j1 ())
def mM  (n : Nat) (p0 : (List bD)) : Option Int := (aS (fun (_ : Unit) => some 0) (fun (j1 : Unit → Option Int) => eV p0 j1 n 0))
theorem xK  (n : Nat) (p0 : (List bD)) (r : Int) (h : mM n p0 = some r) : dI E 131 0 [.c (C7 p0)] [] (A6 r) [] := by
 refine gT Tryz.func131 rfl ?_
 unfold mM at h
 refine za [0] ?_
 refine aX h (fun A j => ∀ u, j u = some r → A (mk [] [] 0)) (fun u h => ?_) (fun j1 Aj1 hj1 h => ?_)
 refine za [2] ?_
 cases h
 exact aI zr
 refine zx fun _ => ?_
 refine zk 1 ?_
 refine zl aM p0 ?_
 refine zk 1 ?_
 refine ze [0, 6, 7, 8] ?_
 refine aK ?_
 refine bJ (fun n s => ∃ v6, eV p0 j1 n v6 = some r ∧ s = mk [(0, .c (C7 p0)), (6, .c (C7 p0)), (7, .c (I (List.length p0 : Int))), C6 8 v6] [] 0) n _ (zv [] [0, 6, 7, 8] 0) ⟨_, h, rfl⟩ (fun s ⟨v6, h, _⟩ => nomatch h) ?_
 rintro n s ⟨v6, h, rfl⟩
 rw [eV] at h
 refine za [0, 6, 7, 8, 9] ?_
 refine aO ?_
 refine zi h (fun h => ?_) fun h => ?_
 refine aC ?_
 refine aO ?_
 refine aK ?_
 refine zx fun _ => ?_
 refine zk 1 ?_
 obtain ⟨e7, he, h⟩ := aB h
 refine zd aM he ?_
 clear he
 refine zk 4 ?_
 refine ze [0, 3, 4, 6, 7, 8] ?_
 refine aO ?_
 refine aK ?_
 refine zx fun _ => ?_
 refine zk 2 ?_
 obtain ⟨y8, he, h⟩ := aB h
 refine zc Ea (kD n _ y8 he) ?_
 clear he
 refine zk 2 ?_
 refine ze [0, 3, 4, 6, 7, 8, 13] ?_
 refine zi h (fun h => ?_) fun h => ?_
 refine za [2] ?_
 cases h
 exact aI zr
 refine Dm [[], [0], [1, 0], [2, 1, 0], [2, 1, 0], [4, 2, 1, 0], [3, 5, 2, 1, 0, 4], [6, 2, 3, 5, 1, 0, 4], [7, 2, 6, 3, 5, 1, 0, 4], [2, 1, 0], [9, 2, 1, 0], [8, 10, 2, 7, 6, 3, 5, 1, 0, 4, 9], [2, 11, 1, 0, 8, 10, 7, 6, 3, 5, 4, 9], [12, 2, 11, 1, 0, 8, 10, 7, 6, 3, 5, 4, 9]] fun _ => ?_
 refine zk 3 ?_
 refine zE (.c (C7 p0)) ?_
 refine zE (A6 v6) ?_
 refine zE (A6 (F6 v6)) ?_
 obtain ⟨e9, he, h⟩ := aB h
 refine lM (e := [E2 v6 0]) [(22, .c (C7 p0), some 1), (24, A6 (F6 v6), some 1)] (v := .c (G6 e9.Name e9.Value)) (foot := []) (by kernel_rfl) (by kernel_rfl) (by kernel_rfl) (fun hg => eK (enc := aM) (sz := 5) (l := p0) (ix := (F6 v6)) (cD he hg) (by kernel_rfl) (by kernel_rfl) (by kernel_rfl)) rfl rfl ?_
 clear he
 refine zE (.c (G6 e9.Name e9.Value)) ?_
 refine zE (F1 e9.Name) ?_
 refine zE (A1 4 0) ?_
 refine zE (F1 e7.Name) ?_
 refine zE (B2 (!(Nv e9.Name e7.Name))) ?_
 refine zP (.bool ((E2 v6 0) && (!(Nv e9.Name e7.Name)))) ?_
 refine zk 1 ?_
 refine mC [0, 4, 6, 7, 8, 18] (L2 := [(0, .c (C7 p0)), (6, .c (C7 p0)), (7, .c (I (List.length p0 : Int))), C6 8 v6, C0 4 4 0, (18, B2 ((E2 v6 0) && (!(Nv e9.Name e7.Name))))]) (G2 := [(4, .blk 172 [Sx e7.Name, I e7.Value.Kind, I e7.Value.N, Sx e7.Value.S, C5 e7.Value.L])]) 26 ?_
 refine zi h (fun h => ?_) fun h => ?_
 refine za [2] ?_
 cases h
 exact aI zr
 refine aC ?_
 refine zx fun _ => ?_
 refine zk 2 ?_
 obtain ⟨y10, he, h⟩ := aB h
 refine zc Xh (xD n _ y10 he) ?_
 clear he
 refine zk 1 ?_
 refine ze [0, 5, 6, 7, 8] ?_
 refine za [0, 5, 6, 7, 8, 36] ?_
 refine zi h (fun h => ?_) fun h => ?_
 refine za [2] ?_
 cases h
 exact aI zr
 refine aC ?_
 refine bB ?_
 refine zb ?_
 exact eZ (zv [] [0, 6, 7, 8] 0) (⟨_, h, rfl⟩)
 exact aL (zv [] [] 0) (bK (hj1 _ h))
def gQ (e15 : cU) (j14 : Unit → Option Int) (p0 : (List cU)) (v13 : Int) : Nat → Int → Option Int
 | 0, _ => none
 | n + 1, v21 => (if (decide (v21 < (List.length e15.Args : Int))) = true then (idx e15.Args v21).bind fun (e22 : aF) => (jS n e22).bind fun (y23 : Int) => (if (y23 != 0) = true then some y23 else gQ e15 j14 p0 v13 n (IntKind.wrap .i64 (v21 + 1))) else j14 ())
def eP (p0 : (List cU)) (j1 : Unit → Option Int) : Nat → Int → Option Int
 | 0, _ => none
 | n + 1, v13 => (if (decide (v13 < (List.length p0 : Int))) = true then (aS (fun (_ : Unit) => eP p0 j1 n (IntKind.wrap .i64 (v13 + 1))) (fun (j14 : Unit → Option Int) => (idx p0 v13).bind fun (e15 : cU) => (eH n e15.Event).bind fun (y16 : Bool) => (gd [(!(!y16))] (eH n e15.Handler)).bind fun (y17 : Bool) => (if ((!y16) || (!y17)) = true then some 4 else (gd [(decide (v13 > 0))] (idx p0 (IntKind.wrap .i64 (v13 - 1)))).bind fun (e18 : cU) => (if ((decide (v13 > 0)) && (!(Nv e18.Event e15.Event))) = true then some 10 else (if ((decide ((ByteArray.size e15.Instance : Int) > 400)) || (decide ((List.length e15.Args : Int) > 100))) = true then some 2 else gQ e15 j14 p0 v13 n 0))))) else j1 ())
def nI  (n : Nat) (p0 : (List cU)) : Option Int := (aS (fun (_ : Unit) => some 0) (fun (j1 : Unit → Option Int) => eP p0 j1 n 0))
theorem Cn  (n : Nat) (p0 : (List cU)) (r : Int) (h : nI n p0 = some r) : dI E 132 0 [N4 p0] [] (A6 r) [] := by
 refine gT Tryz.func132 rfl ?_
 unfold nI at h
 refine za [0] ?_
 refine aX h (fun A j => ∀ u, j u = some r → A (mk [] [] 0)) (fun u h => ?_) (fun j1 Aj1 hj1 h => ?_)
 refine za [2] ?_
 cases h
 exact aI zr
 refine zx fun _ => ?_
 refine zk 1 ?_
 refine zl aD p0 ?_
 refine zk 1 ?_
 refine ze [0, 8, 9, 10] ?_
 refine aK ?_
 refine bJ (fun n s => ∃ v13, eP p0 j1 n v13 = some r ∧ s = mk [(0, N4 p0), (8, N4 p0), (9, .c (I (List.length p0 : Int))), C6 10 v13] [] 0) n _ (zv [] [0, 8, 9, 10] 0) ⟨_, h, rfl⟩ (fun s ⟨v13, h, _⟩ => nomatch h) ?_
 rintro n s ⟨v13, h, rfl⟩
 rw [eP] at h
 refine za [0, 8, 9, 10, 11] ?_
 refine aO ?_
 refine zi h (fun h => ?_) fun h => ?_
 refine aC ?_
 refine aX h (fun A j => ∀ u, j u = some r → A (mk [(0, N4 p0), (8, N4 p0), (9, .c (I (List.length p0 : Int))), C6 10 v13] [] 0)) (fun u h => ?_) (fun j14 Aj14 hj14 h => ?_)
 refine bB ?_
 refine zb ?_
 exact eZ (zv [] [0, 8, 9, 10] 0) (⟨_, h, rfl⟩)
 refine aK ?_
 refine zx fun _ => ?_
 refine zk 1 ?_
 obtain ⟨e15, he, h⟩ := aB h
 refine zd aD he ?_
 clear he
 refine zk 4 ?_
 refine ze [0, 3, 4, 8, 9, 10] ?_
 refine aO ?_
 refine aK ?_
 refine zx fun _ => ?_
 refine zk 2 ?_
 obtain ⟨y16, he, h⟩ := aB h
 refine zc Ea (kD n _ y16 he) ?_
 clear he
 refine zk 2 ?_
 refine zE (A1 4 2) ?_
 refine zE (F1 e15.Handler) ?_
 obtain ⟨y17, he, h⟩ := aB h
 refine Om [!(!y16)] Ea (fun hg => kD n _ y17 (cD he hg)) ?_
 clear he
 refine zE (B2 (!y17)) ?_
 refine zP (.bool ((!y16) || (!y17))) ?_
 refine zk 1 ?_
 refine mC [0, 3, 4, 8, 9, 10, 15] (L2 := [(0, N4 p0), (8, N4 p0), (9, .c (I (List.length p0 : Int))), C6 10 v13, C0 4 4 0, C6 3 v13, (15, B2 ((!y16) || (!y17)))]) (G2 := [(4, G5 e15)]) 18 ?_
 refine zi h (fun h => ?_) fun h => ?_
 refine za [2] ?_
 cases h
 exact aI zr
 refine Dm [[], [0], [1, 0], [2, 1, 0], [2, 1, 0], [4, 2, 1, 0], [3, 5, 2, 1, 0, 4], [6, 2, 3, 5, 1, 0, 4], [7, 2, 6, 3, 5, 1, 0, 4], [2, 1, 0], [9, 2, 1, 0], [8, 10, 2, 7, 6, 3, 5, 1, 0, 4, 9], [2, 11, 1, 0, 8, 10, 7, 6, 3, 5, 4, 9], [12, 2, 11, 1, 0, 8, 10, 7, 6, 3, 5, 4, 9]] fun _ => ?_
 refine zk 3 ?_
 refine zE (N4 p0) ?_
 refine zE (A6 v13) ?_
 refine zE (A6 (F6 v13)) ?_
 obtain ⟨e18, he, h⟩ := aB h
 refine lM (e := [E2 v13 0]) [(30, N4 p0, some 1), (32, A6 (F6 v13), some 1)] (v := .c (J6 e18)) (foot := []) (by kernel_rfl) (by kernel_rfl) (by kernel_rfl) (fun hg => eK (enc := aD) (sz := 4) (l := p0) (ix := (F6 v13)) (cD he hg) (by kernel_rfl) (by kernel_rfl) (by kernel_rfl)) rfl rfl ?_
 clear he
 refine zE (.c (J6 e18)) ?_
 refine zE (F1 e18.Event) ?_
 refine zE (A1 4 0) ?_
 refine zE (F1 e15.Event) ?_
 refine zE (B2 (!(Nv e18.Event e15.Event))) ?_
 refine zP (.bool ((E2 v13 0) && (!(Nv e18.Event e15.Event)))) ?_
 refine zk 1 ?_
 refine mC [0, 4, 8, 9, 10, 26] (L2 := [(0, N4 p0), (8, N4 p0), (9, .c (I (List.length p0 : Int))), C6 10 v13, C0 4 4 0, (26, B2 ((E2 v13 0) && (!(Nv e18.Event e15.Event))))]) (G2 := [(4, G5 e15)]) 32 ?_
 refine zi h (fun h => ?_) fun h => ?_
 refine za [2] ?_
 cases h
 exact aI zr
 refine zx fun _ => ?_
 refine zk 5 ?_
 refine zE (A1 4 3) ?_
 refine zE (K8 e15.Args) ?_
 refine lM (e := [(!(decide ((ByteArray.size e15.Instance : Int) > 400)))]) [(47, K8 e15.Args, some 1)] (v := .c (I (List.length e15.Args : Int))) (foot := []) (by kernel_rfl) (by kernel_rfl) (by kernel_rfl) (fun hg => lY (enc := aQ) (l := e15.Args) (by kernel_rfl)) rfl rfl ?_
 refine zE (.c (Bo (decide ((List.length e15.Args : Int) > 100)))) ?_
 refine zP (.bool ((decide ((ByteArray.size e15.Instance : Int) > 400)) || (decide ((List.length e15.Args : Int) > 100)))) ?_
 refine zk 1 ?_
 refine ze [0, 4, 8, 9, 10, 40] ?_
 refine zi h (fun h => ?_) fun h => ?_
 refine za [2] ?_
 cases h
 exact aI zr
 refine aC ?_
 refine zx fun _ => ?_
 refine zk 2 ?_
 refine zl aQ e15.Args ?_
 refine zk 1 ?_
 refine mC [0, 8, 9, 10, 52, 53, 54] (L2 := [(0, N4 p0), (8, N4 p0), (9, .c (I (List.length p0 : Int))), C6 10 v13, (52, K8 e15.Args), (53, .c (I (List.length e15.Args : Int))), I9 54]) (G2 := [(4, G5 e15)]) 47 ?_
 refine aK ?_
 refine bJ (fun n s => ∃ v21, gQ e15 j14 p0 v13 n v21 = some r ∧ s = mk [(0, N4 p0), (8, N4 p0), (9, .c (I (List.length p0 : Int))), C6 10 v13, (52, K8 e15.Args), (53, .c (I (List.length e15.Args : Int))), C6 54 v21] [] 0) n _ (zv [] [0, 8, 9, 10, 52, 53, 54] 0) ⟨_, h, rfl⟩ (fun s ⟨v21, h, _⟩ => nomatch h) ?_
 rintro n s ⟨v21, h, rfl⟩
 rw [gQ] at h
 refine za [0, 8, 9, 10, 52, 53, 54, 55] ?_
 refine aO ?_
 refine zi h (fun h => ?_) fun h => ?_
 refine aC ?_
 refine aO ?_
 refine aK ?_
 refine zx fun _ => ?_
 obtain ⟨e22, he, h⟩ := aB h
 refine dT (v := .c (J2 e22)) (foot := []) (eK (enc := aQ) (sz := 4) (l := e15.Args) (ix := v21) he (by kernel_rfl) (dR e22) (by kernel_rfl)) (by kernel_rfl) rfl rfl ?_
 clear he
 refine zk 3 ?_
 refine ze [0, 6, 8, 9, 10, 52, 53, 54] ?_
 refine zx fun _ => ?_
 refine zk 1 ?_
 obtain ⟨y23, he, h⟩ := aB h
 refine zc Xh (xD n _ y23 he) ?_
 clear he
 refine zk 1 ?_
 refine ze [0, 7, 8, 9, 10, 52, 53, 54] ?_
 refine za [0, 7, 8, 9, 10, 52, 53, 54, 61] ?_
 refine zi h (fun h => ?_) fun h => ?_
 refine za [2] ?_
 cases h
 exact aI zr
 refine aC ?_
 refine bB ?_
 refine zb ?_
 exact eZ (zv [] [0, 8, 9, 10, 52, 53, 54] 0) (⟨_, h, rfl⟩)
 exact aL (zv [] [0, 8, 9, 10] 0) (bK (hj14 _ h))
 exact aL (zv [] [] 0) (bK (hj1 _ h))
end Go.Proofs.YtojkihhnioeggaaGreatDoor.S
