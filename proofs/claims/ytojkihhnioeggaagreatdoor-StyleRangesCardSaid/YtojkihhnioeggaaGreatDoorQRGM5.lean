import Derived.Test.YtojkihhnioeggaaGreatDoorQRGM4
set_option linter.unusedVariables false
set_option linter.unusedSimpArgs false
set_option maxRecDepth 100000
set_option maxHeartbeats 4000000
namespace Go.Proofs.YtojkihhnioeggaaGreatDoor.S
open Go Go.Bm
def qY (p0 : ByteArray) (j1 : Unit → Option Bool) : Nat → Int → Option Bool
 | 0, _ => none
 | n + 1, v3 => (if (decide (v3 < (ByteArray.size p0 : Int))) = true then (xE p0 v3).bind fun (u4 : Int) => (if ((((((decide (u4 < 97)) || (decide (u4 > 122))) && ((decide (u4 < 65)) || (decide (u4 > 90)))) && ((decide (u4 < 48)) || (decide (u4 > 57)))) && (u4 != 45)) && (u4 != 95)) = true then some false else qY p0 j1 n (IntKind.wrap .i64 (v3 + 1))) else j1 ())
def xX  (n : Nat) (p0 : ByteArray) : Option Bool := (aR (fun (_ : Unit) => some (decide ((ByteArray.size p0 : Int) ≤ 24))) (fun (j1 : Unit → Option Bool) => qY p0 j1 n 0))
theorem Mu  (n : Nat) (p0 : ByteArray) (r : Bool) (h : xX n p0 = some r) : dJ E 130 0 [E5 p0] [] (B3 r) [] := by
 refine gY Tryz.func130 rfl ?_
 unfold xX at h
 refine za [0] ?_
 refine aV h (fun A j => ∀ u, j u = some r → A (mk [(0, E5 p0)] [] 0)) (fun u h => ?_) (fun j1 Aj1 hj1 h => ?_)
 refine za [2] ?_
 cases h
 exact aH zr
 refine za [0, 6, 7] ?_
 refine aI ?_
 refine bH (fun n s => ∃ v3, qY p0 j1 n v3 = some r ∧ s = mk [(0, E5 p0), (6, .c (I (ByteArray.size p0 : Int))), C7 7 v3] [] 0) n _ (zv [] [0, 6, 7] 0) ⟨_, h, rfl⟩ (fun s ⟨v3, h, _⟩ => nomatch h) ?_
 rintro n s ⟨v3, h, rfl⟩
 rw [qY] at h
 refine za [0, 6, 7, 8] ?_
 refine aN ?_
 refine zi h (fun h => ?_) fun h => ?_
 refine aC ?_
 refine aN ?_
 refine aI ?_
 refine za [0, 3, 6, 7] ?_
 refine zx fun _ => ?_
 refine zk 2 ?_
 obtain ⟨u4, he, h⟩ := aB h
 refine zs he ?_
 clear he
 refine zk 1 ?_
 refine ze [0, 4, 6, 7] ?_
 refine zx fun _ => ?_
 refine zk 3 ?_
 refine zE (H6 u4) ?_
 refine zE (K3 u4 122) ?_
 refine zP (.bool (F3 u4)) ?_
 refine zk 1 ?_
 refine zE (H6 u4) ?_
 refine zE (I6 u4 65) ?_
 refine zF [F3 u4] (I6 u4 65) ?_
 refine zE (H6 u4) ?_
 refine zE (K3 u4 90) ?_
 refine zP (.bool (I0 u4)) ?_
 refine zP (.bool ((F3 u4) && (I0 u4))) ?_
 refine zk 1 ?_
 refine zE (H6 u4) ?_
 refine zE (I6 u4 48) ?_
 refine zF [(F3 u4) && (I0 u4)] (I6 u4 48) ?_
 refine zE (H6 u4) ?_
 refine zE (K3 u4 57) ?_
 refine zP (.bool (K4 u4)) ?_
 refine zP (.bool (((F3 u4) && (I0 u4)) && (K4 u4))) ?_
 refine zke 1 (L' := [(0, E5 p0), (6, .c (I (ByteArray.size p0 : Int))), C7 7 v3, (4, H6 u4), (13, H6 u4), (14, I6 u4 97), (15, I6 u4 97), (16, .cnd [!(D3 u4 97)] (H6 u4)), (17, .cnd [!(D3 u4 97)] (K3 u4 122)), (18, B3 (F3 u4)), (19, B3 (F3 u4)), (20, .cnd [F3 u4] (H6 u4)), (21, .cnd [F3 u4] (I6 u4 65)), (22, .cnd [F3 u4] (I6 u4 65)), (23, .cnd [F3 u4, !(D3 u4 65)] (H6 u4)), (24, .cnd [F3 u4, !(D3 u4 65)] (K3 u4 90)), (25, .cnd [F3 u4] (B3 (I0 u4))), (26, B3 ((F3 u4) && (I0 u4))), (27, B3 ((F3 u4) && (I0 u4))), (28, .cnd [(F3 u4) && (I0 u4)] (H6 u4)), (29, .cnd [(F3 u4) && (I0 u4)] (I6 u4 48)), (30, .cnd [(F3 u4) && (I0 u4)] (I6 u4 48)), (31, .cnd [(F3 u4) && (I0 u4), !(D3 u4 48)] (H6 u4)), (32, .cnd [(F3 u4) && (I0 u4), !(D3 u4 48)] (K3 u4 57)), (33, .cnd [(F3 u4) && (I0 u4)] (B3 (K4 u4))), (34, B3 (((F3 u4) && (I0 u4)) && (K4 u4))), (35, B3 (((F3 u4) && (I0 u4)) && (K4 u4)))]) (G' := []) (X' := []) ?_
 refine zE (H6 u4) ?_
 refine zE (B3 (u4 != 45)) ?_
 refine zP (.bool ((((F3 u4) && (I0 u4)) && (K4 u4)) && (u4 != 45))) ?_
 refine zk 1 ?_
 refine zE (H6 u4) ?_
 refine zE (B3 (u4 != 95)) ?_
 refine zP (.bool (((((F3 u4) && (I0 u4)) && (K4 u4)) && (u4 != 45)) && (u4 != 95))) ?_
 refine ze [0, 6, 7, 42] ?_
 refine zi h (fun h => ?_) fun h => ?_
 refine za [2] ?_
 cases h
 exact aH zr
 refine aC ?_
 refine aY ?_
 refine zb ?_
 exact eU (zv [] [0, 6, 7] 0) (⟨_, h, rfl⟩)
 exact aJ (zv [] [0] 0) (bI (hj1 _ h))
def iP  (n : Nat) (p0 : aD) : Option Bool := (aR (fun (v2 : Bool) => (if v2 = true then some ((cS p0.S (⟨#[]⟩ : ByteArray)) && ((List.length p0.L : Int) == 0)) else (if (p0.Kind == 3) = true then some ((p0.N == 0) && ((List.length p0.L : Int) == 0)) else (if (p0.Kind == 4) = true then some ((p0.N == 0) && (cS p0.S (⟨#[]⟩ : ByteArray))) else some false)))) (fun (j1 : Bool → Option Bool) => (if (p0.Kind == 1) = true then j1 (p0.Kind == 1) else j1 (p0.Kind == 2))))
theorem Eg  (n : Nat) (p0 : aD) (r : Bool) (h : iP n p0 = some r) : dJ E 149 0 [B2 p0] [] (B3 r) [] := by
 refine gY Tryz.func149 rfl ?_
 unfold iP at h
 refine za [1] ?_
 refine aN ?_
 refine za [1, 4] ?_
 refine aI ?_
 refine aV h (fun A j => ∀ v2, j v2 = some r → A (mk [M0, C7 4 p0.Kind, (5, B3 v2)] [(0, D6 p0)] 1)) (fun v2 h => ?_) (fun j1 Aj1 hj1 h => ?_)
 refine zi h (fun h => ?_) fun h => ?_
 refine zx fun _ => ?_
 refine zk 4 ?_
 refine zE (C3 0 3) ?_
 refine zE (K1 p0.L) ?_
 refine kR (e := [(cS p0.S (⟨#[]⟩ : ByteArray))]) [(13, K1 p0.L, some 1)] (v := .c (I (List.length p0.L : Int))) (foot := []) (by kernel_rfl) (by kernel_rfl) (by kernel_rfl) (fun hg => kX (enc := aL) (l := p0.L) (by kernel_rfl)) rfl rfl ?_
 refine zE (.c (Bo ((List.length p0.L : Int) == 0))) ?_
 refine zP (.bool ((cS p0.S (⟨#[]⟩ : ByteArray)) && ((List.length p0.L : Int) == 0))) ?_
 refine zk 1 ?_
 refine ze [2] ?_
 cases h
 exact aH zr
 refine za [1, 4, 17] ?_
 refine zi h (fun h => ?_) fun h => ?_
 refine zx fun _ => ?_
 refine zk 4 ?_
 refine zE (C3 0 3) ?_
 refine zE (K1 p0.L) ?_
 refine kR (e := [p0.N == 0]) [(24, K1 p0.L, some 1)] (v := .c (I (List.length p0.L : Int))) (foot := []) (by kernel_rfl) (by kernel_rfl) (by kernel_rfl) (fun hg => kX (enc := aL) (l := p0.L) (by kernel_rfl)) rfl rfl ?_
 refine zE (.c (Bo ((List.length p0.L : Int) == 0))) ?_
 refine zP (.bool ((p0.N == 0) && ((List.length p0.L : Int) == 0))) ?_
 refine zk 1 ?_
 refine ze [2] ?_
 cases h
 exact aH zr
 refine za [1, 28] ?_
 refine zi h (fun h => ?_) fun h => ?_
 refine zx fun _ => ?_
 refine zk 4 ?_
 refine zE (C3 0 2) ?_
 refine zE (E5 p0.S) ?_
 refine zE (.c (Bo (cS p0.S (⟨#[]⟩ : ByteArray)))) ?_
 refine zP (.bool ((p0.N == 0) && (cS p0.S (⟨#[]⟩ : ByteArray)))) ?_
 refine zk 1 ?_
 refine ze [2] ?_
 cases h
 exact aH zr
 refine aC ?_
 refine za [2] ?_
 cases h
 exact aH zr
 refine za [1, 4, 5] ?_
 refine zi h (fun h => ?_) fun h => ?_
 exact aJ (zv [(0, 0)] [1, 4, 5] 1) (aC (hj1 _ h))
 refine aY ?_
 refine zb ?_
 exact eU (zv [(0, 0)] [1, 4, 5] 1) (hj1 _ h)
def iM  (n : Nat) (p0 : Int) : Option Bool := some ((decide (p0 ≥ (-1099511627776 : Int))) && (decide (p0 ≤ 1099511627776)))
theorem Cv  (n : Nat) (p0 : Int) (r : Bool) (h : iM n p0 = some r) : dJ E 150 0 [A7 p0] [] (B3 r) [] := by
 refine gY Tryz.func150 rfl ?_
 unfold iM at h
 refine za [0] ?_
 refine zx fun _ => ?_
 refine zk 3 ?_
 refine zE (A7 p0) ?_
 refine zE (B3 (H8 p0 1099511627776)) ?_
 refine zP (.bool ((decide (p0 ≥ (-1099511627776 : Int))) && (H8 p0 1099511627776))) ?_
 refine zk 1 ?_
 refine ze [2] ?_
 cases h
 exact aH zr
def oM  (n : Nat) (p0 : aU) : Option aU := some (aU.mk 4 [p0])
theorem qF  (n : Nat) (p0 : aU) (r : aU) (h : oM n p0 = some r) : dJ E 153 0 [B9 p0] [] (B9 r) [] := by
 refine gY Tryz.func153 rfl ?_
 unfold oM at h
 refine za [1, 2] ?_
 refine zx fun _ => ?_
 refine zk 1 ?_
 refine qZ (e := 190) (sz := 2) (len := 1) (r := [I p0.Kind, E3 p0.Of]) (l' := List.map bF [p0]) (nm := 3) (by kernel_rfl) (by simp only [List.map_cons, List.map_nil, fU]; kernel_rfl) (by kernel_rfl) (by kernel_rfl) rfl rfl rfl ?_
 refine zk 2 ?_
 refine ze [2] ?_
 cases h
 exact aH zr
def qN (self_expr_join : aU → aU → Option (aU × Bool)) (n : Nat) (p0 : aU) (p1 : aU) : Option (aU × Bool) := (if (p0.Kind != p1.Kind) = true then some ((aU.mk 0 ([] : List aU)), false) else (if ((List.length p0.Of : Int) == 0) = true then some (p1, true) else (if ((List.length p1.Of : Int) == 0) = true then some (p0, true) else (idx p0.Of 0).bind fun (e1 : aU) => (idx p1.Of 0).bind fun (e2 : aU) => (self_expr_join e1 e2).bind fun (y3 : (aU × Bool)) => (if (!y3.2) = true then some ((aU.mk 0 ([] : List aU)), false) else (oM n y3.1).bind fun (y4 : aU) => some (y4, true)))))
theorem yS (self_expr_join : aU → aU → Option (aU × Bool)) (ih_expr_join : ∀ (p0 : aU) (p1 : aU) (r : (aU × Bool)), self_expr_join p0 p1 = some r → dJ E 155 0 [B9 p0, B9 p1] [] (.tup [B9 r.1, B3 r.2]) []) (n : Nat) (p0 : aU) (p1 : aU) (r : (aU × Bool)) (h : qN self_expr_join n p0 p1 = some r) : dJ E 155 0 [B9 p0, B9 p1] [] (.tup [B9 r.1, B3 r.2]) [] := by
 refine gY Tryz.func155 rfl ?_
 unfold qN at h
 refine za [2, 3, 4] ?_
 refine aN ?_
 refine aI ?_
 refine za [2, 3, 4, 8] ?_
 refine zi h (fun h => ?_) fun h => ?_
 refine za [4, 5] ?_
 cases h
 exact aH zr
 refine zx fun _ => ?_
 refine zk 2 ?_
 refine zl bF p0.Of ?_
 refine zk 2 ?_
 refine ze [2, 3, 4, 15] ?_
 refine zi h (fun h => ?_) fun h => ?_
 refine za [4, 5] ?_
 cases h
 exact aH zr
 refine zx fun _ => ?_
 refine zk 2 ?_
 refine zl bF p1.Of ?_
 refine zk 2 ?_
 refine ze [2, 3, 4, 21] ?_
 refine zi h (fun h => ?_) fun h => ?_
 refine za [4, 5] ?_
 cases h
 exact aH zr
 refine aC ?_
 refine Fu [[], [0], [1, 0], [2, 1, 0], [], [4], [5, 4], [6, 5, 4], [3, 7, 2, 1, 0, 6, 5, 4], [8, 3, 7, 2, 1, 0, 6, 5, 4], [9, 8, 3, 7, 2, 1, 0, 6, 5, 4], [9, 8, 3, 7, 2, 1, 0, 6, 5, 4], [], [12, 10, 8, 0, 1, 2, 3, 4, 5, 6, 7, 9], [11, 13, 0, 1, 2, 3, 4, 5, 6, 7, 8, 9, 10, 12]] fun _ => ?_
 refine zk 2 ?_
 obtain ⟨e1, he, h⟩ := aB h
 refine dR (v := .c (K0 e1)) (foot := []) (eG (enc := bF) (sz := 2) (l := p0.Of) (ix := 0) he (by kernel_rfl) (fU e1) (by kernel_rfl)) (by kernel_rfl) rfl rfl ?_
 clear he
 refine zk 3 ?_
 obtain ⟨e2, he, h⟩ := aB h
 refine dR (v := .c (K0 e2)) (foot := []) (eG (enc := bF) (sz := 2) (l := p1.Of) (ix := 0) he (by kernel_rfl) (fU e2) (by kernel_rfl)) (by kernel_rfl) rfl rfl ?_
 clear he
 refine zk 1 ?_
 obtain ⟨y3, he, h⟩ := aB h
 refine zc Wp (ih_expr_join _ _ y3 he) ?_
 clear he
 refine zk 6 ?_
 refine mF [4, 6, 7] (L2 := [A2 4 2 0, A2 6 32 0, (7, B3 y3.2)]) (G2 := [(0, H5 p0), (1, H5 p1), (2, F6), (32, H5 y3.1)]) 35 ?_
 refine aN ?_
 refine za [4, 6, 40] ?_
 refine zi h (fun h => ?_) fun h => ?_
 refine za [4, 5] ?_
 cases h
 exact aH zr
 refine aC ?_
 refine zx fun _ => ?_
 refine zk 1 ?_
 obtain ⟨y4, he, h⟩ := aB h
 refine zc Ob (qF n _ y4 he) ?_
 clear he
 refine zk 2 ?_
 refine ze [4, 5] ?_
 cases h
 exact aH zr
def rP : Nat → aU → aU → Option (aU × Bool)
 | 0, _, _ => none
 | n + 1, p0, p1 => qN (fun a0 a1 => rP n a0 a1) n p0 p1
theorem Kj (n : Nat) : (∀ (p0 : aU) (p1 : aU) (r : (aU × Bool)), rP n p0 p1 = some r → dJ E 155 0 [B9 p0, B9 p1] [] (.tup [B9 r.1, B3 r.2]) []) := by
 induction n with
 | zero => intro p0 p1 r h; rw [rP] at h; cases h
 | succ n ih => intro p0 p1 r h; rw [rP] at h; exact yS _ ih n _ _ r h
def nN (l3 : List aU) (j2 : Int → List aU → Option (aU × Bool)) : Nat → Int → Int → List aU → Option (aU × Bool)
 | 0, _, _, _ => none
 | n + 1, v6, v7, v8 => (if (decide (v6 < (List.length l3 : Int))) = true then (idx l3 v6).bind fun (e9 : aU) => (rP n (aU.mk v7 v8) e9).bind fun (y10 : (aU × Bool)) => (if (!y10.2) = true then some ((aU.mk 0 ([] : List aU)), false) else nN l3 j2 n (IntKind.wrap .i64 (v6 + 1)) y10.1.Kind y10.1.Of) else j2 v7 v8)
def mW  (n : Nat) (p0 : (List aU)) : Option (aU × Bool) := (if ((List.length p0 : Int) == 0) = true then some ((aU.mk 4 ([] : List aU)), true) else (idx p0 0).bind fun (e1 : aU) => (aR (fun (v14 : Int) (v15 : List aU) => (oM n (aU.mk v14 v15)).bind fun (y16 : aU) => some (y16, true)) (fun (j2 : Int → List aU → Option (aU × Bool)) => (Sm p0 1 (List.length p0 : Int)).bind fun (l3 : List aU) => nN l3 j2 n 0 e1.Kind e1.Of)))
theorem Ct  (n : Nat) (p0 : (List aU)) (r : (aU × Bool)) (h : mW n p0 = some r) : dJ E 152 0 [.c (E3 p0)] [] (.tup [B9 r.1, B3 r.2]) [] := by
 refine gY Tryz.func152 rfl ?_
 unfold mW at h
 refine za [0, 2] ?_
 refine aN ?_
 refine zx fun _ => ?_
 refine zk 1 ?_
 refine zl bF p0 ?_
 refine zk 1 ?_
 refine ze [0, 2, 10] ?_
 refine zi h (fun h => ?_) fun h => ?_
 refine za [2, 3] ?_
 cases h
 exact aH zr
 refine aC ?_
 refine zx fun _ => ?_
 refine zk 1 ?_
 obtain ⟨e1, he, h⟩ := aB h
 refine dR (v := .c (K0 e1)) (foot := []) (eG (enc := bF) (sz := 2) (l := p0) (ix := 0) he (by kernel_rfl) (fU e1) (by kernel_rfl)) (by kernel_rfl) rfl rfl ?_
 clear he
 refine zk 3 ?_
 refine ze [0, 2, 4] ?_
 refine aV h (fun A j => ∀ v14 v15, j v14 v15 = some r → A (mk [I5, H4] [(0, F6), (1, .blk 190 [I v14, E3 v15])] 2)) (fun v14 v15 h => ?_) (fun j2 Aj2 hj2 h => ?_)
 refine zx fun _ => ?_
 refine zk 1 ?_
 obtain ⟨y16, he, h⟩ := aB h
 refine zc Ob (qF n _ y16 he) ?_
 clear he
 refine zk 2 ?_
 refine ze [2, 3] ?_
 cases h
 exact aH zr
 refine zx fun _ => ?_
 refine zk 1 ?_
 obtain ⟨l3, he, h⟩ := aB h
 refine zw (v := .c (E3 l3)) [] (Hm (enc := bF) (l := p0) (p := 1) (q := (List.length p0 : Int)) (sz := 2) he (by kernel_rfl) (fun x => by rw [fU]; rfl)) ?_
 clear he
 refine zl bF l3 ?_
 refine zk 1 ?_
 refine mF [2, 4, 16, 17, 18] (L2 := [I5, A2 4 8 0, (16, .c (E3 l3)), (17, .c (I (List.length l3 : Int))), I3 18]) (G2 := [(0, F6), (8, H5 e1)]) 14 ?_
 refine aI ?_
 refine bH (fun n s => ∃ v6 v7 v8, nN l3 j2 n v6 v7 v8 = some r ∧ s = mk [I5, H4, (16, .c (E3 l3)), (17, .c (I (List.length l3 : Int))), C7 18 v6] [(0, F6), (1, .blk 190 [I v7, E3 v8])] 2) n _ (zv [(0, 0), (8, 1)] [2, 4, 16, 17, 18] 2) ⟨_, _, _, h, rfl⟩ (fun s ⟨v6, v7, v8, h, _⟩ => nomatch h) ?_
 rintro n s ⟨v6, v7, v8, h, rfl⟩
 rw [nN] at h
 refine za [2, 4, 16, 17, 18, 19] ?_
 refine aN ?_
 refine zi h (fun h => ?_) fun h => ?_
 refine aC ?_
 refine aN ?_
 refine aI ?_
 refine zx fun _ => ?_
 obtain ⟨e9, he, h⟩ := aB h
 refine dR (v := .c (K0 e9)) (foot := []) (eG (enc := bF) (sz := 2) (l := l3) (ix := v6) he (by kernel_rfl) (fU e9) (by kernel_rfl)) (by kernel_rfl) rfl rfl ?_
 clear he
 refine zk 3 ?_
 refine ze [2, 4, 6, 16, 17, 18] ?_
 refine za [2, 4, 6, 16, 17, 18] ?_
 refine zx fun _ => ?_
 refine zk 2 ?_
 obtain ⟨y10, he, h⟩ := aB h
 refine zc Wp (Kj n _ _ y10 he) ?_
 clear he
 refine zk 5 ?_
 refine ze [2, 4, 7, 16, 17, 18] ?_
 refine za [2, 4, 16, 17, 18, 29] ?_
 refine zi h (fun h => ?_) fun h => ?_
 refine za [2, 3] ?_
 cases h
 exact aH zr
 refine aC ?_
 refine aY ?_
 refine zb ?_
 exact eU (zv [(0, 0), (1, 1)] [2, 4, 16, 17, 18] 2) (⟨_, _, _, h, rfl⟩)
 exact aJ (zv [(0, 0), (1, 1)] [2, 4] 2) (bI (hj2 _ _ h))
def jC (p0 : aD) (self_expr_check : aD → Int → Int → Option (aU × Int × Int)) (p1 : Int) (j6 : List aU → Int → Option (aU × Int × Int)) : Nat → List aU → Int → Int → Option (aU × Int × Int)
 | 0, _, _, _ => none
 | n + 1, v10, v11, v12 => (if (decide (v11 < (List.length p0.L : Int))) = true then (idx p0.L v11).bind fun (e13 : aD) => (self_expr_check e13 (IntKind.wrap .i64 (p1 + 1)) v12).bind fun (y14 : (aU × Int × Int)) => (if (y14.2.1 != 0) = true then some ((aU.mk 0 ([] : List aU)), y14.2.1, y14.2.2) else (pE 32 v10 [y14.1]).bind fun (l15 : List aU) => jC p0 self_expr_check p1 j6 n l15 (IntKind.wrap .i64 (v11 + 1)) y14.2.2) else j6 v10 v12)
def eO (self_expr_check : aD → Int → Int → Option (aU × Int × Int)) (n : Nat) (p0 : aD) (p1 : Int) (p2 : Int) : Option (aU × Int × Int) := (if ((p0.Kind == 4) && (decide (p1 ≥ 16))) = true then some ((aU.mk 0 ([] : List aU)), 8, p2) else (iP n p0).bind fun (y1 : Bool) => (if (!y1) = true then some ((aU.mk 0 ([] : List aU)), 9, (IntKind.wrap .i64 (p2 + 1))) else (aR (fun (v4 : Bool) => (if v4 = true then some ((aU.mk 0 ([] : List aU)), 1, (IntKind.wrap .i64 (p2 + 1))) else (if (((decide ((ByteArray.size p0.S : Int) > 2000)) || (decide ((List.length p0.L : Int) > 100))) || (decide ((IntKind.wrap .i64 (p2 + 1)) > 1000))) = true then some ((aU.mk 0 ([] : List aU)), 2, (IntKind.wrap .i64 (p2 + 1))) else (utf8_ValidString n p0.S).bind fun (y5 : Bool) => (if (!y5) = true then some ((aU.mk 0 ([] : List aU)), 3, (IntKind.wrap .i64 (p2 + 1))) else (if (p0.Kind != 4) = true then some ((aU.mk p0.Kind ([] : List aU)), 0, (IntKind.wrap .i64 (p2 + 1))) else (aR (fun (v19 : List aU) (v20 : Int) => (mW n v19).bind fun (y21 : (aU × Bool)) => (if (!y21.2) = true then some ((aU.mk 0 ([] : List aU)), 5, v20) else some (y21.1, 0, v20))) (fun (j6 : List aU → Int → Option (aU × Int × Int)) => jC p0 self_expr_check p1 j6 n ([] : List aU) 0 (IntKind.wrap .i64 (p2 + 1))))))))) (fun (j2 : Bool → Option (aU × Int × Int)) => (gd [(p0.Kind == 1)] (iM n p0.N)).bind fun (y3 : Bool) => (if ((p0.Kind == 1) && (!y3)) = true then j2 ((p0.Kind == 1) && (!y3)) else j2 (((p0.Kind == 2) && (p0.N != 0)) && (p0.N != 1)))))))
theorem wP (self_expr_check : aD → Int → Int → Option (aU × Int × Int)) (ih_expr_check : ∀ (p0 : aD) (p1 : Int) (p2 : Int) (r : (aU × Int × Int)), self_expr_check p0 p1 p2 = some r → dJ E 147 1 [B2 p0, A7 p1, C3 0 0] [F5 p2] (.tup [B9 r.1, A7 r.2.1]) [F5 r.2.2]) (n : Nat) (p0 : aD) (p1 : Int) (p2 : Int) (r : (aU × Int × Int)) (h : eO self_expr_check n p0 p1 p2 = some r) : dJ E 147 1 [B2 p0, A7 p1, C3 0 0] [F5 p2] (.tup [B9 r.1, A7 r.2.1]) [F5 r.2.2] := by
 refine gY Tryz.func147 rfl ?_
 unfold eO at h
 refine za [1, 2, 3, 6] ?_
 refine aN ?_
 refine zx fun _ => ?_
 refine zk 4 ?_
 refine zE (A7 p1) ?_
 refine zE (B3 (H9 p1 16)) ?_
 refine zP (.bool ((p0.Kind == 4) && (H9 p1 16))) ?_
 refine ze [1, 2, 3, 6, 21] ?_
 refine zi h (fun h => ?_) fun h => ?_
 refine za [6, 7] ?_
 cases h
 exact aH zr
 refine aC ?_
 refine za [1, 2, 3, 6] ?_
 refine aN ?_
 refine aI ?_
 refine zx fun _ => ?_
 refine zk 1 ?_
 obtain ⟨y1, he, h⟩ := aB h
 refine zc fok149 (Eg n _ y1 he) ?_
 clear he
 refine zk 2 ?_
 refine ze [1, 2, 3, 6, 28] ?_
 refine zi h (fun h => ?_) fun h => ?_
 refine za [6, 7] ?_
 cases h
 exact aH zr
 refine aV h (fun A j => ∀ v4, j v4 = some r → A (mk [C7 1 p1, I5, L5, A2 6 2 0, (33, B3 v4)] [F5 (C4 p2 1), (1, D6 p0), (2, F6)] 3)) (fun v4 h => ?_) (fun j2 Aj2 hj2 h => ?_)
 refine zi h (fun h => ?_) fun h => ?_
 refine za [6, 7] ?_
 cases h
 exact aH zr
 refine zx fun _ => ?_
 refine zk 5 ?_
 refine zE (C3 1 3) ?_
 refine zE (K1 p0.L) ?_
 refine kR (e := [(!(decide ((ByteArray.size p0.S : Int) > 2000)))]) [(64, K1 p0.L, some 1)] (v := .c (I (List.length p0.L : Int))) (foot := []) (by kernel_rfl) (by kernel_rfl) (by kernel_rfl) (fun hg => kX (enc := aL) (l := p0.L) (by kernel_rfl)) rfl rfl ?_
 refine zE (.c (Bo (decide ((List.length p0.L : Int) > 100)))) ?_
 refine zP (.bool ((decide ((ByteArray.size p0.S : Int) > 2000)) || (decide ((List.length p0.L : Int) > 100)))) ?_
 refine zk 1 ?_
 refine zE (C3 0 0) ?_
 refine zE (C3 0 0) ?_
 refine zE (A7 (C4 p2 1)) ?_
 refine zE (B3 (decide ((C4 p2 1) > 1000))) ?_
 refine zP (.bool (((decide ((ByteArray.size p0.S : Int) > 2000)) || (decide ((List.length p0.L : Int) > 100))) || (decide ((C4 p2 1) > 1000)))) ?_
 refine zk 1 ?_
 refine mF [1, 2, 3, 6, 57] (L2 := [C7 1 p1, I5, L5, A2 6 2 0, (57, .c (Bo (((decide ((ByteArray.size p0.S : Int) > 2000)) || (decide ((List.length p0.L : Int) > 100))) || (decide ((C4 p2 1) > 1000)))))]) (G2 := [F5 (C4 p2 1), (1, D6 p0), (2, F6)]) 20 ?_
 refine zi h (fun h => ?_) fun h => ?_
 refine za [6, 7] ?_
 cases h
 exact aH zr
 refine zx fun _ => ?_
 refine zk 2 ?_
 obtain ⟨y5, he, h⟩ := aB h
 refine zc fok151 (wJ n _ y5 he) ?_
 clear he
 refine zk 2 ?_
 refine ze [1, 2, 3, 6, 75] ?_
 refine zi h (fun h => ?_) fun h => ?_
 refine za [6, 7] ?_
 cases h
 exact aH zr
 refine za [1, 2, 3, 6, 81] ?_
 refine zi h (fun h => ?_) fun h => ?_
 refine za [6, 7] ?_
 cases h
 exact aH zr
 refine aC ?_
 refine za [1, 2, 3, 6, 8] ?_
 refine aV h (fun A j => ∀ v19 v20, j v19 v20 = some r → A (mk [L6, (8, .c (.app 2 (List.map bF v19)))] [F5 v20, (1, F6), B7 2 190 2 v19] 3)) (fun v19 v20 h => ?_) (fun j6 Aj6 hj6 h => ?_)
 refine zx fun _ => ?_
 refine zk 1 ?_
 obtain ⟨y21, he, h⟩ := aB h
 refine zc fok152 (Ct n _ y21 he) ?_
 clear he
 refine zk 6 ?_
 refine ze [6, 13, 14] ?_
 refine aN ?_
 refine za [6, 13, 118] ?_
 refine zi h (fun h => ?_) fun h => ?_
 refine za [6, 7] ?_
 cases h
 exact aH zr
 refine aC ?_
 refine za [6, 7] ?_
 cases h
 exact aH zr
 refine zx fun _ => ?_
 refine zk 2 ?_
 refine zl aL p0.L ?_
 refine zk 1 ?_
 refine ze [1, 2, 6, 8, 89, 90, 91] ?_
 refine aI ?_
 refine bH (fun n s => ∃ v10 v11 v12, jC p0 self_expr_check p1 j6 n v10 v11 v12 = some r ∧ s = mk [C7 1 p1, I5, L6, (8, .c (.app 2 (List.map bF v10))), (89, K1 p0.L), (90, .c (I (List.length p0.L : Int))), C7 91 v11] [F5 v12, (1, F6), B7 2 190 2 v10] 3) n _ (dY.trans (mY (L2 := [C7 1 p1, I5, A2 6 2 0, (8, .c (.app 34 (List.map bF ([] : List aU)))), (89, K1 p0.L), (90, .c (I (List.length p0.L : Int))), I3 91]) (G2 := [F5 (C4 p2 1), (1, D6 p0), (2, F6), (34, .tok 190 2 (List.length ([] : List aU)))]) (lim2 := 35) 8 190 2 (by kernel_rfl) (by kernel_rfl) (by kernel_rfl) (by kernel_rfl)) (zv [(0, 0), (2, 1), (34, 2)] [1, 2, 6, 8, 89, 90, 91] 3)) ⟨_, _, _, h, rfl⟩ (fun s ⟨v10, v11, v12, h, _⟩ => nomatch h) ?_
 rintro n s ⟨v10, v11, v12, h, rfl⟩
 rw [jC] at h
 refine za [1, 2, 6, 8, 89, 90, 91, 92] ?_
 refine aN ?_
 refine zi h (fun h => ?_) fun h => ?_
 refine aC ?_
 refine aN ?_
 refine aI ?_
 refine zx fun _ => ?_
 obtain ⟨e13, he, h⟩ := aB h
 refine dR (v := .c (I4 e13)) (foot := []) (eG (enc := aL) (sz := 4) (l := p0.L) (ix := v11) he (by kernel_rfl) (dO e13) (by kernel_rfl)) (by kernel_rfl) rfl rfl ?_
 clear he
 refine zk 3 ?_
 refine ze [1, 2, 6, 8, 10, 89, 90, 91] ?_
 refine zx fun _ => ?_
 refine zk 4 ?_
 obtain ⟨y14, he, h⟩ := aB h
 refine zo [(0, 0)] Ve (ih_expr_check _ _ _ y14 he) ?_
 clear he
 refine zk 6 ?_
 refine ze [1, 2, 6, 8, 11, 12, 89, 90, 91] ?_
 refine aN ?_
 refine za [1, 2, 6, 8, 11, 12, 89, 90, 91, 104] ?_
 refine zi h (fun h => ?_) fun h => ?_
 refine za [6, 7] ?_
 cases h
 exact aH zr
 refine aC ?_
 refine zy fun _ => ?_
 refine zk 2 ?_
 refine qZ (e := 190) (sz := 2) (len := 1) (r := [I y14.1.Kind, E3 y14.1.Of]) (l' := List.map bF [y14.1]) (nm := 23) (by kernel_rfl) (by simp only [List.map_cons, List.map_nil, fU]; kernel_rfl) (by kernel_rfl) (by kernel_rfl) rfl rfl rfl ?_
 obtain ⟨l15, he, h⟩ := aB h
 refine cE (enc := bF) (l := v10) (els := [y14.1]) (r := l15) (old := some 2) (e := 190) (sz := 2) (bytes := 32) (k := (G8 v10)) (nm := 24) he (by kernel_rfl) (by kernel_rfl) (fun x => by rw [fU]; rfl) (by kernel_rfl) (by kernel_rfl) rfl rfl rfl ?_
 clear he
 refine zk 1 ?_
 refine bY ?_
 refine aY ?_
 refine zb ?_
 exact eU (zv [(0, 0), (1, 1), (24, 2)] [1, 2, 6, 8, 89, 90, 91] 3) (⟨_, _, _, h, rfl⟩)
 exact aJ (zv [(0, 0), (1, 1), (2, 2)] [6, 8] 3) (bI (hj6 _ _ h))
 refine zx fun _ => ?_
 refine zk 4 ?_
 refine zE (C3 1 1) ?_
 refine zE (A7 p0.N) ?_
 obtain ⟨y3, he, h⟩ := aB h
 refine Ry [p0.Kind == 1] fok150 (fun hg => Cv n _ y3 (cM he hg)) ?_
 clear he
 refine zE (B3 (!y3)) ?_
 refine zP (.bool ((p0.Kind == 1) && (!y3))) ?_
 refine zk 1 ?_
 refine mF [1, 2, 3, 6, 33] (L2 := [C7 1 p1, I5, L5, A2 6 2 0, (33, B3 ((p0.Kind == 1) && (!y3)))]) (G2 := [F5 (C4 p2 1), (1, D6 p0), (2, F6)]) 31 ?_
 refine zi h (fun h => ?_) fun h => ?_
 exact aJ (zv [(0, 0), (1, 1), (2, 2)] [1, 2, 3, 6, 33] 3) (aC (hj2 _ h))
 refine aY ?_
 refine zy fun _ => ?_
 refine zk 4 ?_
 refine zE (C3 1 1) ?_
 refine zE (A7 p0.N) ?_
 refine zE (B3 (p0.N != 0)) ?_
 refine zP (.bool ((p0.Kind == 2) && (p0.N != 0))) ?_
 refine zk 1 ?_
 refine zE (C3 1 1) ?_
 refine zE (A7 p0.N) ?_
 refine zE (B3 (p0.N != 1)) ?_
 refine zP (.bool (((p0.Kind == 2) && (p0.N != 0)) && (p0.N != 1))) ?_
 refine zk 1 ?_
 refine bY ?_
 exact eU (zv [(0, 0), (1, 1), (2, 2)] [1, 2, 3, 6, 33] 3) (hj2 _ h)
def dZ : Nat → aD → Int → Int → Option (aU × Int × Int)
 | 0, _, _, _ => none
 | n + 1, p0, p1, p2 => eO (fun a0 a1 a2 => dZ n a0 a1 a2) n p0 p1 p2
theorem Ge (n : Nat) : (∀ (p0 : aD) (p1 : Int) (p2 : Int) (r : (aU × Int × Int)), dZ n p0 p1 p2 = some r → dJ E 147 1 [B2 p0, A7 p1, C3 0 0] [F5 p2] (.tup [B9 r.1, A7 r.2.1]) [F5 r.2.2]) := by
 induction n with
 | zero => intro p0 p1 p2 r h; rw [dZ] at h; cases h
 | succ n ih => intro p0 p1 p2 r h; rw [dZ] at h; exact wP _ ih n _ _ _ r h
def jO (self_expr_copyType : aU → Option aU) (n : Nat) (p0 : aU) : Option aU := (if ((List.length p0.Of : Int) == 0) = true then some (aU.mk p0.Kind ([] : List aU)) else (idx p0.Of 0).bind fun (e1 : aU) => (self_expr_copyType e1).bind fun (y2 : aU) => (oM n y2).bind fun (y3 : aU) => some y3)
theorem tY (self_expr_copyType : aU → Option aU) (ih_expr_copyType : ∀ (p0 : aU) (r : aU), self_expr_copyType p0 = some r → dJ E 148 0 [B9 p0] [] (B9 r) []) (n : Nat) (p0 : aU) (r : aU) (h : jO self_expr_copyType n p0 = some r) : dJ E 148 0 [B9 p0] [] (B9 r) [] := by
 refine gY Tryz.func148 rfl ?_
 unfold jO at h
 refine za [1, 2] ?_
 refine aN ?_
 refine zx fun _ => ?_
 refine zk 2 ?_
 refine zl bF p0.Of ?_
 refine zk 1 ?_
 refine ze [1, 2, 6] ?_
 refine zi h (fun h => ?_) fun h => ?_
 refine za [2] ?_
 cases h
 exact aH zr
 refine aC ?_
 refine zx fun _ => ?_
 refine zk 2 ?_
 obtain ⟨e1, he, h⟩ := aB h
 refine dR (v := .c (K0 e1)) (foot := []) (eG (enc := bF) (sz := 2) (l := p0.Of) (ix := 0) he (by kernel_rfl) (fU e1) (by kernel_rfl)) (by kernel_rfl) rfl rfl ?_
 clear he
 refine zk 1 ?_
 obtain ⟨y2, he, h⟩ := aB h
 refine zc Ud (ih_expr_copyType _ y2 he) ?_
 clear he
 obtain ⟨y3, he, h⟩ := aB h
 refine zc Ob (qF n _ y3 he) ?_
 clear he
 refine zk 1 ?_
 refine mF [2] (L2 := [L0]) (G2 := [(0, H5 p0), (1, H5 y3)]) 13 ?_
 cases h
 exact aH zr
def gA : Nat → aU → Option aU
 | 0, _ => none
 | n + 1, p0 => jO (fun a0 => gA n a0) n p0
theorem Ag (n : Nat) : (∀ (p0 : aU) (r : aU), gA n p0 = some r → dJ E 148 0 [B9 p0] [] (B9 r) []) := by
 induction n with
 | zero => intro p0 r h; rw [gA] at h; cases h
 | succ n ih => intro p0 r h; rw [gA] at h; exact tY _ ih n _ r h
def kY  (n : Nat) (p0 : aD) : Option (aU × Int) := (dZ n p0 0 0).bind fun (y1 : (aU × Int × Int)) => (if (y1.2.1 != 0) = true then some ((aU.mk 0 ([] : List aU)), y1.2.1) else (gA n y1.1).bind fun (y2 : aU) => some (y2, 0))
theorem Dd  (n : Nat) (p0 : aD) (r : (aU × Int)) (h : kY n p0 = some r) : dJ E 144 0 [B2 p0] [] (.tup [B9 r.1, A7 r.2]) [] := by
 refine gY Tryz.func144 rfl ?_
 unfold kY at h
 refine za [1, 2] ?_
 refine za [1, 2, 4] ?_
 refine zx fun _ => ?_
 refine zk 1 ?_
 obtain ⟨y1, he, h⟩ := aB h
 refine zo [(0, 3)] Ve (Ge n _ _ _ y1 he) ?_
 clear he
 refine zk 6 ?_
 refine ze [2, 5, 6] ?_
 refine aN ?_
 refine za [2, 5, 6, 13] ?_
 refine zi h (fun h => ?_) fun h => ?_
 refine za [2, 3] ?_
 cases h
 exact aH zr
 refine aC ?_
 refine zx fun _ => ?_
 refine zk 1 ?_
 obtain ⟨y2, he, h⟩ := aB h
 refine zc Ud (Ag n _ y2 he) ?_
 clear he
 refine zk 2 ?_
 refine ze [2, 3] ?_
 cases h
 exact aH zr
def jM  (n : Nat) (p0 : aD) : Option Int := (kY n p0).bind fun (y1 : (aU × Int)) => some y1.2
theorem wL  (n : Nat) (p0 : aD) (r : Int) (h : jM n p0 = some r) : dJ E 139 0 [B2 p0] [] (A7 r) [] := by
 refine gY Tryz.func139 rfl ?_
 unfold jM at h
 refine za [1] ?_
 refine zx fun _ => ?_
 refine zk 1 ?_
 obtain ⟨y1, he, h⟩ := aB h
 refine zc fok144 (Dd n _ y1 he) ?_
 clear he
 refine zk 6 ?_
 refine ze [4] ?_
 refine za [2] ?_
 cases h
 exact aH zr
def eR (p0 : (List aZ)) (j1 : Unit → Option Int) : Nat → Int → Option Int
 | 0, _ => none
 | n + 1, v6 => (if (decide (v6 < (List.length p0 : Int))) = true then (idx p0 v6).bind fun (e7 : aZ) => (eD n e7.Name).bind fun (y8 : Bool) => (if (!y8) = true then some 4 else (gd [(decide (v6 > 0))] (idx p0 (IntKind.wrap .i64 (v6 - 1)))).bind fun (e9 : aZ) => (if ((decide (v6 > 0)) && (!(Mz e9.Name e7.Name))) = true then some 10 else (jM n e7.Value).bind fun (y10 : Int) => (if (y10 != 0) = true then some y10 else eR p0 j1 n (IntKind.wrap .i64 (v6 + 1))))) else j1 ())
def mI  (n : Nat) (p0 : (List aZ)) : Option Int := (aR (fun (_ : Unit) => some 0) (fun (j1 : Unit → Option Int) => eR p0 j1 n 0))
theorem wR  (n : Nat) (p0 : (List aZ)) (r : Int) (h : mI n p0 = some r) : dJ E 131 0 [.c (B6 p0)] [] (A7 r) [] := by
 refine gY Tryz.func131 rfl ?_
 unfold mI at h
 refine za [0] ?_
 refine aV h (fun A j => ∀ u, j u = some r → A (mk [] [] 0)) (fun u h => ?_) (fun j1 Aj1 hj1 h => ?_)
 refine za [2] ?_
 cases h
 exact aH zr
 refine zx fun _ => ?_
 refine zk 1 ?_
 refine zl aQ p0 ?_
 refine zk 1 ?_
 refine ze [0, 6, 7, 8] ?_
 refine aI ?_
 refine bH (fun n s => ∃ v6, eR p0 j1 n v6 = some r ∧ s = mk [(0, .c (B6 p0)), (6, .c (B6 p0)), (7, .c (I (List.length p0 : Int))), C7 8 v6] [] 0) n _ (zv [] [0, 6, 7, 8] 0) ⟨_, h, rfl⟩ (fun s ⟨v6, h, _⟩ => nomatch h) ?_
 rintro n s ⟨v6, h, rfl⟩
 rw [eR] at h
 refine za [0, 6, 7, 8, 9] ?_
 refine aN ?_
 refine zi h (fun h => ?_) fun h => ?_
 refine aC ?_
 refine aN ?_
 refine aI ?_
 refine zx fun _ => ?_
 refine zk 1 ?_
 obtain ⟨e7, he, h⟩ := aB h
 refine zd aQ he ?_
 clear he
 refine zk 4 ?_
 refine ze [0, 3, 4, 6, 7, 8] ?_
 refine aN ?_
 refine aI ?_
 refine zx fun _ => ?_
 refine zk 2 ?_
 obtain ⟨y8, he, h⟩ := aB h
 refine zc Di (jU n _ y8 he) ?_
 clear he
 refine zk 2 ?_
 refine ze [0, 3, 4, 6, 7, 8, 13] ?_
 refine zi h (fun h => ?_) fun h => ?_
 refine za [2] ?_
 cases h
 exact aH zr
 refine Fu [[], [0], [1, 0], [2, 1, 0], [2, 1, 0], [4, 2, 1, 0], [3, 5, 2, 1, 0, 4], [6, 2, 3, 5, 1, 0, 4], [7, 2, 6, 3, 5, 1, 0, 4], [2, 1, 0], [9, 2, 1, 0], [8, 10, 2, 7, 6, 3, 5, 1, 0, 4, 9], [2, 11, 1, 0, 8, 10, 7, 6, 3, 5, 4, 9], [12, 2, 11, 1, 0, 8, 10, 7, 6, 3, 5, 4, 9]] fun _ => ?_
 refine zk 3 ?_
 refine zE (.c (B6 p0)) ?_
 refine zE (A7 v6) ?_
 refine zE (A7 (E9 v6)) ?_
 obtain ⟨e9, he, h⟩ := aB h
 refine kR (e := [D7 v6 0]) [(22, .c (B6 p0), some 1), (24, A7 (E9 v6), some 1)] (v := .c (F9 e9.Name e9.Value)) (foot := []) (by kernel_rfl) (by kernel_rfl) (by kernel_rfl) (fun hg => eG (enc := aQ) (sz := 5) (l := p0) (ix := (E9 v6)) (cM he hg) (by kernel_rfl) (by kernel_rfl) (by kernel_rfl)) rfl rfl ?_
 clear he
 refine zE (.c (F9 e9.Name e9.Value)) ?_
 refine zE (E5 e9.Name) ?_
 refine zE (C3 4 0) ?_
 refine zE (E5 e7.Name) ?_
 refine zE (B3 (!(Mz e9.Name e7.Name))) ?_
 refine zP (.bool ((D7 v6 0) && (!(Mz e9.Name e7.Name)))) ?_
 refine zk 1 ?_
 refine mF [0, 4, 6, 7, 8, 18] (L2 := [(0, .c (B6 p0)), (6, .c (B6 p0)), (7, .c (I (List.length p0 : Int))), C7 8 v6, A2 4 4 0, (18, B3 ((D7 v6 0) && (!(Mz e9.Name e7.Name))))]) (G2 := [(4, .blk 172 [Sx e7.Name, I e7.Value.Kind, I e7.Value.N, Sx e7.Value.S, C2 e7.Value.L])]) 26 ?_
 refine zi h (fun h => ?_) fun h => ?_
 refine za [2] ?_
 cases h
 exact aH zr
 refine aC ?_
 refine zx fun _ => ?_
 refine zk 2 ?_
 obtain ⟨y10, he, h⟩ := aB h
 refine zc Wf (wL n _ y10 he) ?_
 clear he
 refine zk 1 ?_
 refine ze [0, 5, 6, 7, 8] ?_
 refine za [0, 5, 6, 7, 8, 36] ?_
 refine zi h (fun h => ?_) fun h => ?_
 refine za [2] ?_
 cases h
 exact aH zr
 refine aC ?_
 refine aY ?_
 refine zb ?_
 exact eU (zv [] [0, 6, 7, 8] 0) (⟨_, h, rfl⟩)
 exact aJ (zv [] [] 0) (bI (hj1 _ h))
def gK (e15 : cN) (j14 : Unit → Option Int) (p0 : (List cN)) (v13 : Int) : Nat → Int → Option Int
 | 0, _ => none
 | n + 1, v21 => (if (decide (v21 < (List.length e15.Args : Int))) = true then (idx e15.Args v21).bind fun (e22 : aD) => (jM n e22).bind fun (y23 : Int) => (if (y23 != 0) = true then some y23 else gK e15 j14 p0 v13 n (IntKind.wrap .i64 (v21 + 1))) else j14 ())
def eJ (p0 : (List cN)) (j1 : Unit → Option Int) : Nat → Int → Option Int
 | 0, _ => none
 | n + 1, v13 => (if (decide (v13 < (List.length p0 : Int))) = true then (aR (fun (_ : Unit) => eJ p0 j1 n (IntKind.wrap .i64 (v13 + 1))) (fun (j14 : Unit → Option Int) => (idx p0 v13).bind fun (e15 : cN) => (eD n e15.Event).bind fun (y16 : Bool) => (gd [(!(!y16))] (eD n e15.Handler)).bind fun (y17 : Bool) => (if ((!y16) || (!y17)) = true then some 4 else (gd [(decide (v13 > 0))] (idx p0 (IntKind.wrap .i64 (v13 - 1)))).bind fun (e18 : cN) => (if ((decide (v13 > 0)) && (!(Mz e18.Event e15.Event))) = true then some 10 else (if ((decide ((ByteArray.size e15.Instance : Int) > 400)) || (decide ((List.length e15.Args : Int) > 100))) = true then some 2 else gK e15 j14 p0 v13 n 0))))) else j1 ())
def nD  (n : Nat) (p0 : (List cN)) : Option Int := (aR (fun (_ : Unit) => some 0) (fun (j1 : Unit → Option Int) => eJ p0 j1 n 0))
theorem Bx  (n : Nat) (p0 : (List cN)) (r : Int) (h : nD n p0 = some r) : dJ E 132 0 [M1 p0] [] (A7 r) [] := by
 refine gY Tryz.func132 rfl ?_
 unfold nD at h
 refine za [0] ?_
 refine aV h (fun A j => ∀ u, j u = some r → A (mk [] [] 0)) (fun u h => ?_) (fun j1 Aj1 hj1 h => ?_)
 refine za [2] ?_
 cases h
 exact aH zr
 refine zx fun _ => ?_
 refine zk 1 ?_
 refine zl aF p0 ?_
 refine zk 1 ?_
 refine ze [0, 8, 9, 10] ?_
 refine aI ?_
 refine bH (fun n s => ∃ v13, eJ p0 j1 n v13 = some r ∧ s = mk [(0, M1 p0), (8, M1 p0), (9, .c (I (List.length p0 : Int))), C7 10 v13] [] 0) n _ (zv [] [0, 8, 9, 10] 0) ⟨_, h, rfl⟩ (fun s ⟨v13, h, _⟩ => nomatch h) ?_
 rintro n s ⟨v13, h, rfl⟩
 rw [eJ] at h
 refine za [0, 8, 9, 10, 11] ?_
 refine aN ?_
 refine zi h (fun h => ?_) fun h => ?_
 refine aC ?_
 refine aV h (fun A j => ∀ u, j u = some r → A (mk [(0, M1 p0), (8, M1 p0), (9, .c (I (List.length p0 : Int))), C7 10 v13] [] 0)) (fun u h => ?_) (fun j14 Aj14 hj14 h => ?_)
 refine aY ?_
 refine zb ?_
 exact eU (zv [] [0, 8, 9, 10] 0) (⟨_, h, rfl⟩)
 refine aI ?_
 refine zx fun _ => ?_
 refine zk 1 ?_
 obtain ⟨e15, he, h⟩ := aB h
 refine zd aF he ?_
 clear he
 refine zk 4 ?_
 refine ze [0, 3, 4, 8, 9, 10] ?_
 refine aN ?_
 refine aI ?_
 refine zx fun _ => ?_
 refine zk 2 ?_
 obtain ⟨y16, he, h⟩ := aB h
 refine zc Di (jU n _ y16 he) ?_
 clear he
 refine zk 2 ?_
 refine zE (C3 4 2) ?_
 refine zE (E5 e15.Handler) ?_
 obtain ⟨y17, he, h⟩ := aB h
 refine Ry [!(!y16)] Di (fun hg => jU n _ y17 (cM he hg)) ?_
 clear he
 refine zE (B3 (!y17)) ?_
 refine zP (.bool ((!y16) || (!y17))) ?_
 refine zk 1 ?_
 refine mF [0, 3, 4, 8, 9, 10, 15] (L2 := [(0, M1 p0), (8, M1 p0), (9, .c (I (List.length p0 : Int))), C7 10 v13, A2 4 4 0, C7 3 v13, (15, B3 ((!y16) || (!y17)))]) (G2 := [(4, F8 e15)]) 18 ?_
 refine zi h (fun h => ?_) fun h => ?_
 refine za [2] ?_
 cases h
 exact aH zr
 refine Fu [[], [0], [1, 0], [2, 1, 0], [2, 1, 0], [4, 2, 1, 0], [3, 5, 2, 1, 0, 4], [6, 2, 3, 5, 1, 0, 4], [7, 2, 6, 3, 5, 1, 0, 4], [2, 1, 0], [9, 2, 1, 0], [8, 10, 2, 7, 6, 3, 5, 1, 0, 4, 9], [2, 11, 1, 0, 8, 10, 7, 6, 3, 5, 4, 9], [12, 2, 11, 1, 0, 8, 10, 7, 6, 3, 5, 4, 9]] fun _ => ?_
 refine zk 3 ?_
 refine zE (M1 p0) ?_
 refine zE (A7 v13) ?_
 refine zE (A7 (E9 v13)) ?_
 obtain ⟨e18, he, h⟩ := aB h
 refine kR (e := [D7 v13 0]) [(30, M1 p0, some 1), (32, A7 (E9 v13), some 1)] (v := .c (I7 e18)) (foot := []) (by kernel_rfl) (by kernel_rfl) (by kernel_rfl) (fun hg => eG (enc := aF) (sz := 4) (l := p0) (ix := (E9 v13)) (cM he hg) (by kernel_rfl) (by kernel_rfl) (by kernel_rfl)) rfl rfl ?_
 clear he
 refine zE (.c (I7 e18)) ?_
 refine zE (E5 e18.Event) ?_
 refine zE (C3 4 0) ?_
 refine zE (E5 e15.Event) ?_
 refine zE (B3 (!(Mz e18.Event e15.Event))) ?_
 refine zP (.bool ((D7 v13 0) && (!(Mz e18.Event e15.Event)))) ?_
 refine zk 1 ?_
 refine mF [0, 4, 8, 9, 10, 26] (L2 := [(0, M1 p0), (8, M1 p0), (9, .c (I (List.length p0 : Int))), C7 10 v13, A2 4 4 0, (26, B3 ((D7 v13 0) && (!(Mz e18.Event e15.Event))))]) (G2 := [(4, F8 e15)]) 32 ?_
 refine zi h (fun h => ?_) fun h => ?_
 refine za [2] ?_
 cases h
 exact aH zr
 refine zx fun _ => ?_
 refine zk 5 ?_
 refine zE (C3 4 3) ?_
 refine zE (K1 e15.Args) ?_
 refine kR (e := [(!(decide ((ByteArray.size e15.Instance : Int) > 400)))]) [(47, K1 e15.Args, some 1)] (v := .c (I (List.length e15.Args : Int))) (foot := []) (by kernel_rfl) (by kernel_rfl) (by kernel_rfl) (fun hg => kX (enc := aL) (l := e15.Args) (by kernel_rfl)) rfl rfl ?_
 refine zE (.c (Bo (decide ((List.length e15.Args : Int) > 100)))) ?_
 refine zP (.bool ((decide ((ByteArray.size e15.Instance : Int) > 400)) || (decide ((List.length e15.Args : Int) > 100)))) ?_
 refine zk 1 ?_
 refine ze [0, 4, 8, 9, 10, 40] ?_
 refine zi h (fun h => ?_) fun h => ?_
 refine za [2] ?_
 cases h
 exact aH zr
 refine aC ?_
 refine zx fun _ => ?_
 refine zk 2 ?_
 refine zl aL e15.Args ?_
 refine zk 1 ?_
 refine mF [0, 8, 9, 10, 52, 53, 54] (L2 := [(0, M1 p0), (8, M1 p0), (9, .c (I (List.length p0 : Int))), C7 10 v13, (52, K1 e15.Args), (53, .c (I (List.length e15.Args : Int))), I3 54]) (G2 := [(4, F8 e15)]) 47 ?_
 refine aI ?_
 refine bH (fun n s => ∃ v21, gK e15 j14 p0 v13 n v21 = some r ∧ s = mk [(0, M1 p0), (8, M1 p0), (9, .c (I (List.length p0 : Int))), C7 10 v13, (52, K1 e15.Args), (53, .c (I (List.length e15.Args : Int))), C7 54 v21] [] 0) n _ (zv [] [0, 8, 9, 10, 52, 53, 54] 0) ⟨_, h, rfl⟩ (fun s ⟨v21, h, _⟩ => nomatch h) ?_
 rintro n s ⟨v21, h, rfl⟩
 rw [gK] at h
 refine za [0, 8, 9, 10, 52, 53, 54, 55] ?_
 refine aN ?_
 refine zi h (fun h => ?_) fun h => ?_
 refine aC ?_
 refine aN ?_
 refine aI ?_
 refine zx fun _ => ?_
 obtain ⟨e22, he, h⟩ := aB h
 refine dR (v := .c (I4 e22)) (foot := []) (eG (enc := aL) (sz := 4) (l := e15.Args) (ix := v21) he (by kernel_rfl) (dO e22) (by kernel_rfl)) (by kernel_rfl) rfl rfl ?_
 clear he
 refine zk 3 ?_
 refine ze [0, 6, 8, 9, 10, 52, 53, 54] ?_
 refine zx fun _ => ?_
 refine zk 1 ?_
 obtain ⟨y23, he, h⟩ := aB h
 refine zc Wf (wL n _ y23 he) ?_
 clear he
 refine zk 1 ?_
 refine ze [0, 7, 8, 9, 10, 52, 53, 54] ?_
 refine za [0, 7, 8, 9, 10, 52, 53, 54, 61] ?_
 refine zi h (fun h => ?_) fun h => ?_
 refine za [2] ?_
 cases h
 exact aH zr
 refine aC ?_
 refine aY ?_
 refine zb ?_
 exact eU (zv [] [0, 8, 9, 10, 52, 53, 54] 0) (⟨_, h, rfl⟩)
 exact aJ (zv [] [0, 8, 9, 10] 0) (bI (hj14 _ h))
 exact aJ (zv [] [] 0) (bI (hj1 _ h))
end Go.Proofs.YtojkihhnioeggaaGreatDoor.S
