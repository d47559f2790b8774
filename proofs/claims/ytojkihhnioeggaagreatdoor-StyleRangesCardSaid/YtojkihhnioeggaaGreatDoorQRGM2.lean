import Derived.Test.YtojkihhnioeggaaGreatDoorQRGM1
set_option linter.unusedVariables false
set_option linter.unusedSimpArgs false
set_option maxRecDepth 100000
set_option maxHeartbeats 4000000
namespace Go.Proofs.YtojkihhnioeggaaGreatDoor.S
open Go Go.Bm
def pA (self_ref11_join : aU → aU → Option (aU × Bool)) (n : Nat) (p0 : aU) (p1 : aU) : Option (aU × Bool) := (if (p0.Kind != p1.Kind) = true then some ((aU.mk 0 ([] : List aU)), false) else (if ((List.length p0.Of : Int) == 0) = true then some (p1, true) else (if ((List.length p1.Of : Int) == 0) = true then some (p0, true) else (idx p0.Of 0).bind fun (e1 : aU) => (idx p1.Of 0).bind fun (e2 : aU) => (self_ref11_join e1 e2).bind fun (y3 : (aU × Bool)) => (if (!y3.2) = true then some ((aU.mk 0 ([] : List aU)), false) else some ((aU.mk p0.Kind [y3.1]), true)))))
theorem xG (self_ref11_join : aU → aU → Option (aU × Bool)) (ih_ref11_join : ∀ (p0 : aU) (p1 : aU) (r : (aU × Bool)), self_ref11_join p0 p1 = some r → dJ E 146 0 [B9 p0, B9 p1] [] (.tup [B9 r.1, B3 r.2]) []) (n : Nat) (p0 : aU) (p1 : aU) (r : (aU × Bool)) (h : pA self_ref11_join n p0 p1 = some r) : dJ E 146 0 [B9 p0, B9 p1] [] (.tup [B9 r.1, B3 r.2]) [] := by
 refine gY Tryz.func146 rfl ?_
 unfold pA at h
 refine za [2, 3, 4] ?_
 refine aN ?_
 refine za [2, 3, 4, 12] ?_
 refine zi h (fun h => ?_) fun h => ?_
 refine za [4, 5] ?_
 cases h
 exact aH zr
 refine aC ?_
 refine aN ?_
 refine zx fun _ => ?_
 refine zk 2 ?_
 refine zl bF p0.Of ?_
 refine zk 1 ?_
 refine ze [2, 3, 4, 17] ?_
 refine zi h (fun h => ?_) fun h => ?_
 refine za [4, 5] ?_
 cases h
 exact aH zr
 refine aC ?_
 refine aN ?_
 refine zx fun _ => ?_
 refine zk 2 ?_
 refine zl bF p1.Of ?_
 refine zk 1 ?_
 refine ze [2, 3, 4, 22] ?_
 refine zi h (fun h => ?_) fun h => ?_
 refine za [4, 5] ?_
 cases h
 exact aH zr
 refine aC ?_
 refine Fu [[], [0], [1, 0], [2, 1, 0], [], [4], [5, 4], [6, 5, 4], [3, 7, 2, 1, 0, 6, 5, 4], [8, 3, 7, 2, 1, 0, 6, 5, 4], [9, 8, 3, 7, 2, 1, 0, 6, 5, 4], [9, 8, 3, 7, 2, 1, 0, 6, 5, 4], [], [12, 10, 8, 0, 1, 2, 3, 4, 5, 6, 7, 9], [11, 13, 0, 1, 2, 3, 4, 5, 6, 7, 8, 9, 10, 12]] fun _ => ?_
 refine zk 2 ?_
 obtain ⟨e1, he, h⟩ := aB h
 refine dR (v := .c (K0 e1)) (foot := []) (eG (enc := bF) (sz := 2) (l := p0.Of) (ix := 0) he (by kernel_rfl) (fU e1) (by kernel_rfl)) (by kernel_rfl) rfl rfl ?_
 clear he
 refine zk 3 ?_
 obtain ⟨e2, he, h⟩ := aB h
 refine dR (v := .c (K0 e2)) (foot := []) (eG (enc := bF) (sz := 2) (l := p1.Of) (ix := 0) he (by kernel_rfl) (fU e2) (by kernel_rfl)) (by kernel_rfl) rfl rfl ?_
 clear he
 refine zk 1 ?_
 obtain ⟨y3, he, h⟩ := aB h
 refine zc Uy (ih_ref11_join _ _ y3 he) ?_
 clear he
 refine zk 6 ?_
 refine mF [2, 4, 6, 7] (L2 := [I5, A2 4 2 0, A2 6 29 0, (7, B3 y3.2)]) (G2 := [(0, H5 p0), (1, H5 p1), (2, F6), (29, H5 y3.1)]) 32 ?_
 refine aN ?_
 refine za [2, 4, 6, 37] ?_
 refine zi h (fun h => ?_) fun h => ?_
 refine za [4, 5] ?_
 cases h
 exact aH zr
 refine aC ?_
 refine zx fun _ => ?_
 refine zk 3 ?_
 refine qZ (e := 190) (sz := 2) (len := 1) (r := [I y3.1.Kind, E3 y3.1.Of]) (l' := List.map bF [y3.1]) (nm := 37) (by kernel_rfl) (by simp only [List.map_cons, List.map_nil, fU]; kernel_rfl) (by kernel_rfl) (by kernel_rfl) rfl rfl rfl ?_
 refine zk 3 ?_
 refine ze [4, 5] ?_
 cases h
 exact aH zr
def kS : Nat → aU → aU → Option (aU × Bool)
 | 0, _, _ => none
 | n + 1, p0, p1 => pA (fun a0 a1 => kS n a0 a1) n p0 p1
theorem Gd (n : Nat) : (∀ (p0 : aU) (p1 : aU) (r : (aU × Bool)), kS n p0 p1 = some r → dJ E 146 0 [B9 p0, B9 p1] [] (.tup [B9 r.1, B3 r.2]) []) := by
 induction n with
 | zero => intro p0 p1 r h; rw [kS] at h; cases h
 | succ n ih => intro p0 p1 r h; rw [kS] at h; exact xG _ ih n _ _ r h
def eI (p0 : aD) (self_ref11_check : aD → Int → Int → Option (aU × Int × Int)) (p1 : Int) (j2 : Int → Bool → List aU → Option (aU × Int × Int)) : Nat → Int → Bool → Int → List aU → Option (aU × Int × Int)
 | 0, _, _, _, _ => none
 | n + 1, v16, v17, v18, v19 => (if (decide (v18 < (List.length p0.L : Int))) = true then (aR (fun (v25 : Bool) (v26 : Int) (v27 : List aU) => eI p0 self_ref11_check p1 j2 n v26 v25 (IntKind.wrap .i64 (v18 + 1)) v27) (fun (j20 : Bool → Int → List aU → Option (aU × Int × Int)) => (idx p0.L v18).bind fun (e21 : aD) => (self_ref11_check e21 (IntKind.wrap .i64 (p1 + 1)) v16).bind fun (y22 : (aU × Int × Int)) => (if (y22.2.2 != 0) = true then some ((aU.mk 0 ([] : List aU)), y22.2.1, y22.2.2) else (if (!v17) = true then j20 v17 y22.2.1 v19 else (if ((List.length v19 : Int) == 0) = true then j20 v17 y22.2.1 [y22.1] else (idx v19 0).bind fun (e23 : aU) => (kS n e23 y22.1).bind fun (y24 : (aU × Bool)) => j20 y24.2 y22.2.1 [y24.1]))))) else j2 v16 v17 v19)
def dU (self_ref11_check : aD → Int → Int → Option (aU × Int × Int)) (n : Nat) (p0 : aD) (p1 : Int) (p2 : Int) : Option (aU × Int × Int) := (if ((p0.Kind == 4) && (decide (p1 > 16))) = true then some ((aU.mk 0 ([] : List aU)), (IntKind.wrap .i64 (p2 + 1)), 8) else (if (((((decide (p0.Kind < 1)) || (decide (p0.Kind > 4))) || (((p0.N != 0) && (p0.Kind != 1)) && (p0.Kind != 2))) || ((!(cS p0.S (⟨#[]⟩ : ByteArray))) && (p0.Kind != 3))) || ((decide ((List.length p0.L : Int) > 0)) && (!(p0.Kind == 4)))) = true then some ((aU.mk 0 ([] : List aU)), (IntKind.wrap .i64 (p2 + 1)), 9) else (if (((p0.Kind == 1) && ((decide (p0.N < (-1099511627776 : Int))) || (decide (p0.N > 1099511627776)))) || (((p0.Kind == 2) && (p0.N != 0)) && (p0.N != 1))) = true then some ((aU.mk 0 ([] : List aU)), (IntKind.wrap .i64 (p2 + 1)), 1) else (if (((decide ((ByteArray.size p0.S : Int) > 2000)) || (decide ((List.length p0.L : Int) > 100))) || (decide ((IntKind.wrap .i64 (p2 + 1)) > 1000))) = true then some ((aU.mk 0 ([] : List aU)), (IntKind.wrap .i64 (p2 + 1)), 2) else (pZ n p0.S).bind fun (y1 : Bool) => (if (!y1) = true then some ((aU.mk 0 ([] : List aU)), (IntKind.wrap .i64 (p2 + 1)), 3) else (aR (fun (v35 : Int) (v36 : Bool) (v37 : List aU) => (if (!v36) = true then some ((aU.mk 0 ([] : List aU)), v35, 5) else some ((aU.mk p0.Kind v37), v35, 0))) (fun (j2 : Int → Bool → List aU → Option (aU × Int × Int)) => eI p0 self_ref11_check p1 j2 n (IntKind.wrap .i64 (p2 + 1)) true 0 ([] : List aU))))))))
theorem wE (self_ref11_check : aD → Int → Int → Option (aU × Int × Int)) (ih_ref11_check : ∀ (p0 : aD) (p1 : Int) (p2 : Int) (r : (aU × Int × Int)), self_ref11_check p0 p1 p2 = some r → dJ E 143 0 [B2 p0, A7 p1, A7 p2] [] (.tup [B9 r.1, A7 r.2.1, A7 r.2.2]) []) (n : Nat) (p0 : aD) (p1 : Int) (p2 : Int) (r : (aU × Int × Int)) (h : dU self_ref11_check n p0 p1 p2 = some r) : dJ E 143 0 [B2 p0, A7 p1, A7 p2] [] (.tup [B9 r.1, A7 r.2.1, A7 r.2.2]) [] := by
 refine gY Tryz.func143 rfl ?_
 unfold dU at h
 refine za [1, 2, 3, 6] ?_
 refine za [1, 2, 3, 6] ?_
 refine za [1, 2, 3, 6, 9] ?_
 refine aN ?_
 refine zx fun _ => ?_
 refine zk 2 ?_
 refine zE (A7 p1) ?_
 refine zE (K3 p1 16) ?_
 refine zP (.bool ((p0.Kind == 4) && (D7 p1 16))) ?_
 refine ze [1, 2, 3, 6, 9, 27] ?_
 refine zi h (fun h => ?_) fun h => ?_
 refine za [6, 7, 8] ?_
 cases h
 exact aH zr
 refine aC ?_
 refine aN ?_
 refine zx fun _ => ?_
 refine zk 4 ?_
 refine zE (C3 0 0) ?_
 refine zE (A7 p0.Kind) ?_
 refine zE (K3 p0.Kind 4) ?_
 refine zP (.bool (L9 p0.Kind)) ?_
 refine zk 1 ?_
 refine zE (C3 0 1) ?_
 refine zE (A7 p0.N) ?_
 refine zE (B3 (p0.N != 0)) ?_
 refine zF [!(L9 p0.Kind)] (B3 (p0.N != 0)) ?_
 refine zE (C3 0 0) ?_
 refine zE (A7 p0.Kind) ?_
 refine zE (B3 (p0.Kind != 1)) ?_
 refine zP (.bool ((p0.N != 0) && (p0.Kind != 1))) ?_
 refine zF [!(L9 p0.Kind)] (B3 ((p0.N != 0) && (p0.Kind != 1))) ?_
 refine zE (C3 0 0) ?_
 refine zE (A7 p0.Kind) ?_
 refine zE (B3 (p0.Kind != 2)) ?_
 refine zP (.bool (((p0.N != 0) && (p0.Kind != 1)) && (p0.Kind != 2))) ?_
 refine zP (.bool ((L9 p0.Kind) || (((p0.N != 0) && (p0.Kind != 1)) && (p0.Kind != 2)))) ?_
 refine zke 1 (L' := [C7 1 p1, H3 p2, H1, L6, (9, B3 (p0.Kind == 4)), (27, B3 ((p0.Kind == 4) && (D7 p1 16))), A2 30 0 0, C7 31 p0.Kind, (32, I6 p0.Kind 1), (33, I6 p0.Kind 1), (34, .cnd [!(D3 p0.Kind 1)] (C3 0 0)), (35, .cnd [!(D3 p0.Kind 1)] (A7 p0.Kind)), (36, .cnd [!(D3 p0.Kind 1)] (K3 p0.Kind 4)), (37, B3 (L9 p0.Kind)), (38, B3 (L9 p0.Kind)), (39, .cnd [!(L9 p0.Kind)] (C3 0 1)), (40, .cnd [!(L9 p0.Kind)] (A7 p0.N)), (41, .cnd [!(L9 p0.Kind)] (B3 (p0.N != 0))), (42, .cnd [!(L9 p0.Kind)] (B3 (p0.N != 0))), (43, .cnd [!(L9 p0.Kind), p0.N != 0] (C3 0 0)), (44, .cnd [!(L9 p0.Kind), p0.N != 0] (A7 p0.Kind)), (45, .cnd [!(L9 p0.Kind), p0.N != 0] (B3 (p0.Kind != 1))), (46, .cnd [!(L9 p0.Kind)] (B3 ((p0.N != 0) && (p0.Kind != 1)))), (47, .cnd [!(L9 p0.Kind)] (B3 ((p0.N != 0) && (p0.Kind != 1)))), (48, .cnd [!(L9 p0.Kind), (p0.N != 0) && (p0.Kind != 1)] (C3 0 0)), (49, .cnd [!(L9 p0.Kind), (p0.N != 0) && (p0.Kind != 1)] (A7 p0.Kind)), (50, .cnd [!(L9 p0.Kind), (p0.N != 0) && (p0.Kind != 1)] (B3 (p0.Kind != 2))), (51, .cnd [!(L9 p0.Kind)] (B3 (((p0.N != 0) && (p0.Kind != 1)) && (p0.Kind != 2)))), (52, B3 ((L9 p0.Kind) || (((p0.N != 0) && (p0.Kind != 1)) && (p0.Kind != 2)))), (53, B3 ((L9 p0.Kind) || (((p0.N != 0) && (p0.Kind != 1)) && (p0.Kind != 2))))]) (G' := [(0, D6 p0), (1, F6)]) (X' := []) ?_
 refine zE (C3 0 2) ?_
 refine zE (E5 p0.S) ?_
 refine zE (.c (Bo (!(cS p0.S (⟨#[]⟩ : ByteArray))))) ?_
 refine zF [!((L9 p0.Kind) || (((p0.N != 0) && (p0.Kind != 1)) && (p0.Kind != 2)))] (.c (Bo (!(cS p0.S (⟨#[]⟩ : ByteArray))))) ?_
 refine zE (C3 0 0) ?_
 refine zE (A7 p0.Kind) ?_
 refine zE (B3 (p0.Kind != 3)) ?_
 refine zP (.bool ((!(cS p0.S (⟨#[]⟩ : ByteArray))) && (p0.Kind != 3))) ?_
 refine zP (.bool (((L9 p0.Kind) || (((p0.N != 0) && (p0.Kind != 1)) && (p0.Kind != 2))) || ((!(cS p0.S (⟨#[]⟩ : ByteArray))) && (p0.Kind != 3)))) ?_
 refine zk 1 ?_
 refine zE (C3 0 3) ?_
 refine zE (K1 p0.L) ?_
 refine kR (e := [(!(((L9 p0.Kind) || (((p0.N != 0) && (p0.Kind != 1)) && (p0.Kind != 2))) || ((!(cS p0.S (⟨#[]⟩ : ByteArray))) && (p0.Kind != 3))))]) [(65, K1 p0.L, some 1)] (v := .c (I (List.length p0.L : Int))) (foot := []) (by kernel_rfl) (by kernel_rfl) (by kernel_rfl) (fun hg => kX (enc := aL) (l := p0.L) (by kernel_rfl)) rfl rfl ?_
 refine zE (.c (Bo (decide ((List.length p0.L : Int) > 0)))) ?_
 refine zF [(!(((L9 p0.Kind) || (((p0.N != 0) && (p0.Kind != 1)) && (p0.Kind != 2))) || ((!(cS p0.S (⟨#[]⟩ : ByteArray))) && (p0.Kind != 3))))] (.c (Bo (decide ((List.length p0.L : Int) > 0)))) ?_
 refine zE (B3 (p0.Kind == 4)) ?_
 refine zE (B3 (!(p0.Kind == 4))) ?_
 refine zP (.bool ((decide ((List.length p0.L : Int) > 0)) && (!(p0.Kind == 4)))) ?_
 refine zP (.bool ((((L9 p0.Kind) || (((p0.N != 0) && (p0.Kind != 1)) && (p0.Kind != 2))) || ((!(cS p0.S (⟨#[]⟩ : ByteArray))) && (p0.Kind != 3))) || ((decide ((List.length p0.L : Int) > 0)) && (!(p0.Kind == 4))))) ?_
 refine mF [1, 2, 3, 6, 72] (L2 := [C7 1 p1, H3 p2, H1, L6, (72, .c (Bo ((((L9 p0.Kind) || (((p0.N != 0) && (p0.Kind != 1)) && (p0.Kind != 2))) || ((!(cS p0.S (⟨#[]⟩ : ByteArray))) && (p0.Kind != 3))) || ((decide ((List.length p0.L : Int) > 0)) && (!(p0.Kind == 4))))))]) (G2 := [(0, D6 p0), (1, F6)]) 59 ?_
 refine zi h (fun h => ?_) fun h => ?_
 refine za [6, 7, 8] ?_
 cases h
 exact aH zr
 refine aC ?_
 refine aN ?_
 refine zx fun _ => ?_
 refine zk 4 ?_
 refine zE (C3 0 1) ?_
 refine zE (A7 p0.N) ?_
 refine zE (.c (Bo (decide (p0.N < (-1099511627776 : Int))))) ?_
 refine zF [p0.Kind == 1] (.c (Bo (decide (p0.N < (-1099511627776 : Int))))) ?_
 refine zE (C3 0 1) ?_
 refine zE (A7 p0.N) ?_
 refine zE (B3 (I1 p0.N)) ?_
 refine zP (.bool ((decide (p0.N < (-1099511627776 : Int))) || (I1 p0.N))) ?_
 refine zP (.bool ((p0.Kind == 1) && ((decide (p0.N < (-1099511627776 : Int))) || (I1 p0.N)))) ?_
 refine zk 1 ?_
 refine zE (C3 0 0) ?_
 refine zE (A7 p0.Kind) ?_
 refine zE (B3 (p0.Kind == 2)) ?_
 refine zF [(!((p0.Kind == 1) && ((decide (p0.N < (-1099511627776 : Int))) || (I1 p0.N))))] (B3 (p0.Kind == 2)) ?_
 refine zE (C3 0 1) ?_
 refine zE (A7 p0.N) ?_
 refine zE (B3 (p0.N != 0)) ?_
 refine zP (.bool ((p0.Kind == 2) && (p0.N != 0))) ?_
 refine zF [(!((p0.Kind == 1) && ((decide (p0.N < (-1099511627776 : Int))) || (I1 p0.N))))] (B3 ((p0.Kind == 2) && (p0.N != 0))) ?_
 refine zE (C3 0 1) ?_
 refine zE (A7 p0.N) ?_
 refine zE (B3 (p0.N != 1)) ?_
 refine zP (.bool (((p0.Kind == 2) && (p0.N != 0)) && (p0.N != 1))) ?_
 refine zP (.bool (((p0.Kind == 1) && ((decide (p0.N < (-1099511627776 : Int))) || (I1 p0.N))) || (((p0.Kind == 2) && (p0.N != 0)) && (p0.N != 1)))) ?_
 refine mF [1, 2, 3, 6, 102] (L2 := [C7 1 p1, H3 p2, H1, L6, (102, .c (Bo (((p0.Kind == 1) && ((decide (p0.N < (-1099511627776 : Int))) || (I1 p0.N))) || (((p0.Kind == 2) && (p0.N != 0)) && (p0.N != 1)))))]) (G2 := [(0, D6 p0), (1, F6)]) 87 ?_
 refine zi h (fun h => ?_) fun h => ?_
 refine za [6, 7, 8] ?_
 cases h
 exact aH zr
 refine aC ?_
 refine aN ?_
 refine zx fun _ => ?_
 refine zk 5 ?_
 refine zE (C3 0 3) ?_
 refine zE (K1 p0.L) ?_
 refine kR (e := [(!(decide ((ByteArray.size p0.S : Int) > 2000)))]) [(111, K1 p0.L, some 1)] (v := .c (I (List.length p0.L : Int))) (foot := []) (by kernel_rfl) (by kernel_rfl) (by kernel_rfl) (fun hg => kX (enc := aL) (l := p0.L) (by kernel_rfl)) rfl rfl ?_
 refine zE (.c (Bo (decide ((List.length p0.L : Int) > 100)))) ?_
 refine zP (.bool ((decide ((ByteArray.size p0.S : Int) > 2000)) || (decide ((List.length p0.L : Int) > 100)))) ?_
 refine zk 1 ?_
 refine zE (A7 (C4 p2 1)) ?_
 refine zE (B3 (decide ((C4 p2 1) > 1000))) ?_
 refine zP (.bool (((decide ((ByteArray.size p0.S : Int) > 2000)) || (decide ((List.length p0.L : Int) > 100))) || (decide ((C4 p2 1) > 1000)))) ?_
 refine mF [1, 2, 3, 6, 118] (L2 := [C7 1 p1, H3 p2, H1, L6, (118, .c (Bo (((decide ((ByteArray.size p0.S : Int) > 2000)) || (decide ((List.length p0.L : Int) > 100))) || (decide ((C4 p2 1) > 1000)))))]) (G2 := [(0, D6 p0), (1, F6)]) 101 ?_
 refine zi h (fun h => ?_) fun h => ?_
 refine za [6, 7, 8] ?_
 cases h
 exact aH zr
 refine aC ?_
 refine aN ?_
 refine zx fun _ => ?_
 refine zk 2 ?_
 obtain ⟨y1, he, h⟩ := aB h
 refine zc fok145 (Gg n _ y1 he) ?_
 clear he
 refine zk 1 ?_
 refine ze [1, 2, 3, 6, 124] ?_
 refine zi h (fun h => ?_) fun h => ?_
 refine za [6, 7, 8] ?_
 cases h
 exact aH zr
 refine aC ?_
 refine za [1, 2, 3, 6, 10] ?_
 refine za [1, 2, 3, 6, 10, 11] ?_
 refine aV h (fun A j => ∀ v35 v36 v37, j v35 v36 v37 = some r → A (mk [C7 2 v35, A2 6 0 0, A2 10 1 0, (11, B3 v36)] [(0, F6), (1, .blk 190 [I p0.Kind, .app 2 (List.map bF v37)]), B7 2 190 2 v37] 3)) (fun v35 v36 v37 h => ?_) (fun j2 Aj2 hj2 h => ?_)
 refine aN ?_
 refine za [2, 6, 10, 179] ?_
 refine zi h (fun h => ?_) fun h => ?_
 refine za [6, 7, 8] ?_
 cases h
 exact aH zr
 refine aC ?_
 refine za [6, 7, 8] ?_
 cases h
 exact aH zr
 refine za [1, 2, 3, 6, 10, 11, 12] ?_
 refine aI ?_
 refine bH (fun n s => ∃ v16 v17 v18 v19, eI p0 self_ref11_check p1 j2 n v16 v17 v18 v19 = some r ∧ s = mk [C7 1 p1, C7 2 v16, H1, L6, A2 10 2 0, (11, B3 v17), C7 12 v18] [(0, D6 p0), (1, F6), (2, .blk 190 [I p0.Kind, .app 3 (List.map bF v19)]), B7 3 190 2 v19] 4) n _ (dY.trans (lU (n := 108) (T0 := 190) (l := [I p0.Kind, cJ]) (G2 := [(0, D6 p0), (1, F6), (108, .blk 190 [I p0.Kind, .app 112 (List.map bF ([] : List aU))]), (112, .tok 190 2 (List.length ([] : List aU)))]) (lim2 := 113) 1 190 2 (by kernel_rfl) (by kernel_rfl) (by kernel_rfl) (by kernel_rfl)) (zv [(0, 0), (1, 1), (108, 2), (112, 3)] [1, 2, 3, 6, 10, 11, 12] 4)) ⟨_, _, _, _, h, rfl⟩ (fun s ⟨v16, v17, v18, v19, h, _⟩ => nomatch h) ?_
 rintro n s ⟨v16, v17, v18, v19, h, rfl⟩
 rw [eI] at h
 refine aN ?_
 refine zx fun _ => ?_
 refine zk 3 ?_
 refine zl aL p0.L ?_
 refine zk 1 ?_
 refine ze [1, 2, 3, 6, 10, 11, 12, 134] ?_
 refine zi h (fun h => ?_) fun h => ?_
 refine aC ?_
 refine aV h (fun A j => ∀ v25 v26 v27, j v25 v26 v27 = some r → A (mk [C7 1 p1, H1, L6, A2 10 2 0, (11, B3 v25), C7 12 v18, C7 2 v26] [(0, D6 p0), (1, F6), (2, .blk 190 [I p0.Kind, .app 3 (List.map bF v27)]), B7 3 190 2 v27] 4)) (fun v25 v26 v27 h => ?_) (fun j20 Aj20 hj20 h => ?_)
 refine aY ?_
 refine zb ?_
 exact eU (zv [(0, 0), (1, 1), (2, 2), (3, 3)] [1, 2, 3, 6, 10, 11, 12] 4) (⟨_, _, _, _, h, rfl⟩)
 refine aI ?_
 refine zx fun _ => ?_
 refine zk 3 ?_
 obtain ⟨e21, he, h⟩ := aB h
 refine dR (v := .c (I4 e21)) (foot := []) (eG (enc := aL) (sz := 4) (l := p0.L) (ix := v18) he (by kernel_rfl) (dO e21) (by kernel_rfl)) (by kernel_rfl) rfl rfl ?_
 clear he
 refine zk 4 ?_
 obtain ⟨y22, he, h⟩ := aB h
 refine zc Xl (ih_ref11_check _ _ _ y22 he) ?_
 clear he
 refine zk 8 ?_
 refine ze [1, 3, 6, 10, 11, 12, 13, 14, 15] ?_
 refine za [1, 2, 3, 6, 10, 11, 12, 13, 15] ?_
 refine aN ?_
 refine za [1, 2, 3, 6, 10, 11, 12, 13, 15, 152] ?_
 refine zi h (fun h => ?_) fun h => ?_
 refine za [6, 7, 8] ?_
 cases h
 exact aH zr
 refine aC ?_
 refine aN ?_
 refine za [1, 2, 3, 6, 10, 11, 12, 13, 157] ?_
 refine zi h (fun h => ?_) fun h => ?_
 exact aJ (zv [(0, 0), (1, 1), (2, 2), (3, 3)] [1, 3, 6, 10, 11, 12, 2] 4) (bI (hj20 _ _ _ h))
 refine aC ?_
 refine aN ?_
 refine zx fun _ => ?_
 refine zk 2 ?_
 refine zl bF v19 ?_
 refine zk 1 ?_
 refine mF [1, 2, 3, 6, 10, 11, 12, 13, 161] (L2 := [C7 1 p1, H1, L6, A2 10 2 0, (11, B3 v17), C7 12 v18, A2 13 22 0, C7 2 y22.2.1, (161, .c (Bo ((List.length v19 : Int) == 0)))]) (G2 := [(0, D6 p0), (1, F6), (2, .blk 190 [I p0.Kind, .app 3 (List.map bF v19)]), B7 3 190 2 v19, (22, H5 y22.1)]) 36 ?_
 refine zi h (fun h => ?_) fun h => ?_
 refine zx fun _ => ?_
 refine zk 1 ?_
 refine qZ (e := 190) (sz := 2) (len := 1) (r := [I y22.1.Kind, E3 y22.1.Of]) (l' := List.map bF [y22.1]) (nm := 37) (by kernel_rfl) (by simp only [List.map_cons, List.map_nil, fU]; kernel_rfl) (by kernel_rfl) (by kernel_rfl) rfl rfl rfl ?_
 refine zk 2 ?_
 refine ze [1, 2, 3, 6, 10, 11, 12] ?_
 exact aJ (zv [(0, 0), (1, 1), (2, 2), (37, 3)] [1, 3, 6, 10, 11, 12, 2] 4) (bI (hj20 _ _ _ h))
 refine aC ?_
 refine Fu [[], [0], [1, 0], [2, 1, 0], [], [3, 4, 2, 1, 0], [5, 3, 4, 2, 1, 0], [6, 5, 3, 4, 2, 1, 0], [6, 5, 3, 4, 2, 1, 0], [], [9, 7, 5, 0, 1, 2, 3, 4, 6], [8, 10, 0, 1, 2, 3, 4, 5, 6, 7, 9]] fun _ => ?_
 refine zk 2 ?_
 obtain ⟨e23, he, h⟩ := aB h
 refine dR (v := .c (K0 e23)) (foot := []) (eG (enc := bF) (sz := 2) (l := v19) (ix := 0) he (by kernel_rfl) (fU e23) (by kernel_rfl)) (by kernel_rfl) rfl rfl ?_
 clear he
 refine zk 2 ?_
 obtain ⟨y24, he, h⟩ := aB h
 refine zc Uy (Gd n _ _ y24 he) ?_
 clear he
 refine zk 6 ?_
 refine ze [1, 2, 3, 6, 10, 12, 16, 17] ?_
 refine za [1, 2, 3, 6, 10, 11, 12, 16] ?_
 refine aY ?_
 refine zy fun _ => ?_
 refine zk 1 ?_
 refine qZ (e := 190) (sz := 2) (len := 1) (r := [I y24.1.Kind, E3 y24.1.Of]) (l' := List.map bF [y24.1]) (nm := 51) (by kernel_rfl) (by simp only [List.map_cons, List.map_nil, fU]; kernel_rfl) (by kernel_rfl) (by kernel_rfl) rfl rfl rfl ?_
 refine zk 2 ?_
 refine bY ?_
 exact eU (zv [(0, 0), (1, 1), (2, 2), (51, 3)] [1, 3, 6, 10, 11, 12, 2] 4) (hj20 _ _ _ h)
 exact aJ (zv [(1, 0), (2, 1), (3, 2)] [2, 6, 10, 11] 3) (bI (hj2 _ _ _ h))
def dG : Nat → aD → Int → Int → Option (aU × Int × Int)
 | 0, _, _, _ => none
 | n + 1, p0, p1, p2 => dU (fun a0 a1 a2 => dG n a0 a1 a2) n p0 p1 p2
theorem Fe (n : Nat) : (∀ (p0 : aD) (p1 : Int) (p2 : Int) (r : (aU × Int × Int)), dG n p0 p1 p2 = some r → dJ E 143 0 [B2 p0, A7 p1, A7 p2] [] (.tup [B9 r.1, A7 r.2.1, A7 r.2.2]) []) := by
 induction n with
 | zero => intro p0 p1 p2 r h; rw [dG] at h; cases h
 | succ n ih => intro p0 p1 p2 r h; rw [dG] at h; exact wE _ ih n _ _ _ r h
def jV  (n : Nat) (p0 : aD) : Option (aU × Int) := (dG n p0 1 0).bind fun (y1 : (aU × Int × Int)) => some (y1.1, y1.2.2)
theorem Bp  (n : Nat) (p0 : aD) (r : (aU × Int)) (h : jV n p0 = some r) : dJ E 135 0 [B2 p0] [] (.tup [B9 r.1, A7 r.2]) [] := by
 refine gY Tryz.func135 rfl ?_
 unfold jV at h
 refine za [1, 2] ?_
 refine zx fun _ => ?_
 refine zk 1 ?_
 obtain ⟨y1, he, h⟩ := aB h
 refine zc Xl (Fe n _ _ _ y1 he) ?_
 clear he
 refine zk 8 ?_
 refine ze [2, 4, 6] ?_
 refine za [2, 3] ?_
 cases h
 exact aH zr
def iO  (n : Nat) (p0 : aD) : Option Int := (jV n p0).bind fun (y1 : (aU × Int)) => some y1.2
theorem uU  (n : Nat) (p0 : aD) (r : Int) (h : iO n p0 = some r) : dJ E 124 0 [B2 p0] [] (A7 r) [] := by
 refine gY Tryz.func124 rfl ?_
 unfold iO at h
 refine za [1] ?_
 refine zx fun _ => ?_
 refine zk 1 ?_
 obtain ⟨y1, he, h⟩ := aB h
 refine zc fok135 (Bp n _ y1 he) ?_
 clear he
 refine zk 6 ?_
 refine ze [4] ?_
 refine za [2] ?_
 cases h
 exact aH zr
def fF (p0 : aG) (self_ref14_validate : aG → Int → Int → Option (Int × Int)) (p1 : Int) (j63 : Int → Option (Int × Int)) : Nat → Int → Int → Option (Int × Int)
 | 0, _, _ => none
 | n + 1, v66, v67 => (if (decide (v67 < (List.length p0.Kids : Int))) = true then (idx p0.Kids v67).bind fun (e68 : aG) => (self_ref14_validate e68 (IntKind.wrap .i64 (p1 + 1)) v66).bind fun (y69 : (Int × Int)) => (if (y69.2 != 0) = true then some (y69.1, y69.2) else fF p0 self_ref14_validate p1 j63 n y69.1 (IntKind.wrap .i64 (v67 + 1))) else j63 v66)
def fB (v52 : Int) (p0 : aG) (p2 : Int) (j53 : Unit → Option (Int × Int)) (p1 : Int) : Nat → Int → Option (Int × Int)
 | 0, _ => none
 | n + 1, v57 => (if (decide (v57 < v52)) = true then (idx p0.Kids v52).bind fun (e58 : aG) => (gd [(!(cS e58.Key (⟨#[]⟩ : ByteArray)))] (idx p0.Kids v52)).bind fun (e59 : aG) => (gd [(!(cS e58.Key (⟨#[]⟩ : ByteArray)))] (idx p0.Kids v57)).bind fun (e60 : aG) => (if ((!(cS e58.Key (⟨#[]⟩ : ByteArray))) && (cS e59.Key e60.Key)) = true then some ((IntKind.wrap .i64 (p2 + 1)), 6) else fB v52 p0 p2 j53 p1 n (IntKind.wrap .i64 (v57 + 1))) else j53 ())
def fG (p0 : aG) (p2 : Int) (p1 : Int) (j42 : Unit → Option (Int × Int)) : Nat → Int → Option (Int × Int)
 | 0, _ => none
 | n + 1, v52 => (if (decide (v52 < (List.length p0.Kids : Int))) = true then (aR (fun (_ : Unit) => fG p0 p2 p1 j42 n (IntKind.wrap .i64 (v52 + 1))) (fun (j53 : Unit → Option (Int × Int)) => fB v52 p0 p2 j53 p1 n 0)) else j42 ())
def eZ (e31 : cN) (p2 : Int) (j30 : Unit → Option (Int × Int)) (p1 : Int) (v29 : Int) (p0 : aG) : Nat → Int → Option (Int × Int)
 | 0, _ => none
 | n + 1, v37 => (if (decide (v37 < (List.length e31.Args : Int))) = true then (idx e31.Args v37).bind fun (e38 : aD) => (iO n e38).bind fun (y39 : Int) => (if (y39 != 0) = true then some ((IntKind.wrap .i64 (p2 + 1)), y39) else eZ e31 p2 j30 p1 v29 p0 n (IntKind.wrap .i64 (v37 + 1))) else j30 ())
def cZ (p0 : aG) (p2 : Int) (p1 : Int) (j17 : Unit → Option (Int × Int)) : Nat → Int → Option (Int × Int)
 | 0, _ => none
 | n + 1, v29 => (if (decide (v29 < (List.length p0.Actions : Int))) = true then (aR (fun (_ : Unit) => cZ p0 p2 p1 j17 n (IntKind.wrap .i64 (v29 + 1))) (fun (j30 : Unit → Option (Int × Int)) => (idx p0.Actions v29).bind fun (e31 : cN) => (dM n e31.Event).bind fun (y32 : Bool) => (gd [(!(!y32))] (dM n e31.Handler)).bind fun (y33 : Bool) => (if ((!y32) || (!y33)) = true then some ((IntKind.wrap .i64 (p2 + 1)), 4) else (gd [(decide (v29 > 0))] (idx p0.Actions (IntKind.wrap .i64 (v29 - 1)))).bind fun (e34 : cN) => (if ((decide (v29 > 0)) && (Lv e31.Event e34.Event)) = true then some ((IntKind.wrap .i64 (p2 + 1)), 10) else (if ((decide ((ByteArray.size e31.Instance : Int) > 400)) || (decide ((List.length e31.Args : Int) > 100))) = true then some ((IntKind.wrap .i64 (p2 + 1)), 2) else eZ e31 p2 j30 p1 v29 p0 n 0))))) else j17 ())
def fJ (p0 : aG) (p2 : Int) (j2 : Unit → Option (Int × Int)) (p1 : Int) : Nat → Int → Option (Int × Int)
 | 0, _ => none
 | n + 1, v9 => (if (decide (v9 < (List.length p0.Attrs : Int))) = true then (idx p0.Attrs v9).bind fun (e10 : aZ) => (dM n e10.Name).bind fun (y11 : Bool) => (if (!y11) = true then some ((IntKind.wrap .i64 (p2 + 1)), 4) else (gd [(decide (v9 > 0))] (idx p0.Attrs v9)).bind fun (e12 : aZ) => (gd [(decide (v9 > 0))] (idx p0.Attrs (IntKind.wrap .i64 (v9 - 1)))).bind fun (e13 : aZ) => (if ((decide (v9 > 0)) && (Lv e12.Name e13.Name)) = true then some ((IntKind.wrap .i64 (p2 + 1)), 10) else (idx p0.Attrs v9).bind fun (e14 : aZ) => (iO n e14.Value).bind fun (y15 : Int) => (if (y15 != 0) = true then some ((IntKind.wrap .i64 (p2 + 1)), y15) else fJ p0 p2 j2 p1 n (IntKind.wrap .i64 (v9 + 1))))) else j2 ())
def jG (self_ref14_validate : aG → Int → Int → Option (Int × Int)) (n : Nat) (p0 : aG) (p1 : Int) (p2 : Int) : Option (Int × Int) := (if (decide (p1 > 16)) = true then some ((IntKind.wrap .i64 (p2 + 1)), 8) else (if (decide ((IntKind.wrap .i64 (p2 + 1)) > 400)) = true then some ((IntKind.wrap .i64 (p2 + 1)), 2) else (if ((decide (p0.Kind < 1)) || (decide (p0.Kind > 13))) = true then some ((IntKind.wrap .i64 (p2 + 1)), 9) else (wC n p0.Key).bind fun (y1 : Bool) => (if (!y1) = true then some ((IntKind.wrap .i64 (p2 + 1)), 4) else (if (((decide ((List.length p0.Attrs : Int) > 24)) || (decide ((List.length p0.Actions : Int) > 24))) || (decide ((List.length p0.Kids : Int) > 100))) = true then some ((IntKind.wrap .i64 (p2 + 1)), 2) else (aR (fun (_ : Unit) => (aR (fun (_ : Unit) => (aR (fun (_ : Unit) => (aR (fun (v72 : Int) => some (v72, 0)) (fun (j63 : Int → Option (Int × Int)) => fF p0 self_ref14_validate p1 j63 n (IntKind.wrap .i64 (p2 + 1)) 0))) (fun (j42 : Unit → Option (Int × Int)) => fG p0 p2 p1 j42 n 0))) (fun (j17 : Unit → Option (Int × Int)) => cZ p0 p2 p1 j17 n 0))) (fun (j2 : Unit → Option (Int × Int)) => fJ p0 p2 j2 p1 n 0)))))))
theorem tN (self_ref14_validate : aG → Int → Int → Option (Int × Int)) (ih_ref14_validate : ∀ (p0 : aG) (p1 : Int) (p2 : Int) (r : (Int × Int)), self_ref14_validate p0 p1 p2 = some r → dJ E 98 0 [A8 p0, A7 p1, A7 p2] [] (.tup [A7 r.1, A7 r.2]) []) (n : Nat) (p0 : aG) (p1 : Int) (p2 : Int) (r : (Int × Int)) (h : jG self_ref14_validate n p0 p1 p2 = some r) : dJ E 98 0 [A8 p0, A7 p1, A7 p2] [] (.tup [A7 r.1, A7 r.2]) [] := by
 refine gY Tryz.func98 rfl ?_
 unfold jG at h
 refine za [1, 2, 3] ?_
 refine za [1, 2, 3] ?_
 refine aN ?_
 refine za [1, 2, 3, 22] ?_
 refine zi h (fun h => ?_) fun h => ?_
 refine za [6, 7] ?_
 cases h
 exact aH zr
 refine aC ?_
 refine aN ?_
 refine za [1, 2, 3, 25] ?_
 refine zi h (fun h => ?_) fun h => ?_
 refine za [6, 7] ?_
 cases h
 exact aH zr
 refine aC ?_
 refine aN ?_
 refine zx fun _ => ?_
 refine zk 4 ?_
 refine zE (C3 0 0) ?_
 refine zE (A7 p0.Kind) ?_
 refine zE (K3 p0.Kind 13) ?_
 refine zP (.bool (A1 p0.Kind 1 13)) ?_
 refine ze [1, 2, 3, 34] ?_
 refine zi h (fun h => ?_) fun h => ?_
 refine za [6, 7] ?_
 cases h
 exact aH zr
 refine aC ?_
 refine aN ?_
 refine zx fun _ => ?_
 refine zk 2 ?_
 obtain ⟨y1, he, h⟩ := aB h
 refine zc fok123 (Jp n _ y1 he) ?_
 clear he
 refine zk 1 ?_
 refine mF [1, 2, 3, 39] (L2 := [C7 1 p1, H3 p2, H1, (39, B3 (!y1))]) (G2 := [(0, A4 p0)]) 22 ?_
 refine zi h (fun h => ?_) fun h => ?_
 refine za [6, 7] ?_
 cases h
 exact aH zr
 refine aC ?_
 refine aN ?_
 refine zx fun _ => ?_
 refine zk 2 ?_
 refine zl aQ p0.Attrs ?_
 refine zk 2 ?_
 refine zE (C3 0 3) ?_
 refine zE (M1 p0.Actions) ?_
 refine kR (e := [(!(decide ((List.length p0.Attrs : Int) > 24)))]) [(47, M1 p0.Actions, some 1)] (v := .c (I (List.length p0.Actions : Int))) (foot := []) (by kernel_rfl) (by kernel_rfl) (by kernel_rfl) (fun hg => kX (enc := aF) (l := p0.Actions) (by kernel_rfl)) rfl rfl ?_
 refine zE (.c (Bo (decide ((List.length p0.Actions : Int) > 24)))) ?_
 refine zP (.bool ((decide ((List.length p0.Attrs : Int) > 24)) || (decide ((List.length p0.Actions : Int) > 24)))) ?_
 refine zk 1 ?_
 refine zE (C3 0 4) ?_
 refine zE (.c (G3 p0.Kids)) ?_
 refine kR (e := [(!((decide ((List.length p0.Attrs : Int) > 24)) || (decide ((List.length p0.Actions : Int) > 24))))]) [(53, .c (G3 p0.Kids), some 1)] (v := .c (I (List.length p0.Kids : Int))) (foot := []) (by kernel_rfl) (by kernel_rfl) (by kernel_rfl) (fun hg => kX (enc := bB) (l := p0.Kids) (by kernel_rfl)) rfl rfl ?_
 refine zE (.c (Bo (decide ((List.length p0.Kids : Int) > 100)))) ?_
 refine zP (.bool (((decide ((List.length p0.Attrs : Int) > 24)) || (decide ((List.length p0.Actions : Int) > 24))) || (decide ((List.length p0.Kids : Int) > 100)))) ?_
 refine mF [1, 2, 3, 56] (L2 := [C7 1 p1, H3 p2, H1, (56, .c (Bo (((decide ((List.length p0.Attrs : Int) > 24)) || (decide ((List.length p0.Actions : Int) > 24))) || (decide ((List.length p0.Kids : Int) > 100)))))]) (G2 := [(0, A4 p0)]) 38 ?_
 refine zi h (fun h => ?_) fun h => ?_
 refine za [6, 7] ?_
 cases h
 exact aH zr
 refine aC ?_
 refine aV h (fun A j => ∀ u, j u = some r → A (mk [C7 1 p1, H3 p2, H1] [(0, A4 p0)] 1)) (fun u h => ?_) (fun j2 Aj2 hj2 h => ?_)
 refine aV h (fun A j => ∀ u, j u = some r → A (mk [C7 1 p1, H3 p2, H1] [(0, A4 p0)] 1)) (fun u h => ?_) (fun j17 Aj17 hj17 h => ?_)
 refine aV h (fun A j => ∀ u, j u = some r → A (mk [C7 1 p1, H3 p2, H1] [(0, A4 p0)] 1)) (fun u h => ?_) (fun j42 Aj42 hj42 h => ?_)
 refine aV h (fun A j => ∀ v72, j v72 = some r → A (mk [C7 2 v72] [] 0)) (fun v72 h => ?_) (fun j63 Aj63 hj63 h => ?_)
 refine za [6, 7] ?_
 cases h
 exact aH zr
 refine za [1, 2, 3, 16] ?_
 refine aI ?_
 refine bH (fun n s => ∃ v66 v67, fF p0 self_ref14_validate p1 j63 n v66 v67 = some r ∧ s = mk [C7 1 p1, C7 2 v66, H1, C7 16 v67] [(0, A4 p0)] 1) n _ (zv [(0, 0)] [1, 2, 3, 16] 1) ⟨_, _, h, rfl⟩ (fun s ⟨v66, v67, h, _⟩ => nomatch h) ?_
 rintro n s ⟨v66, v67, h, rfl⟩
 rw [fF] at h
 refine aN ?_
 refine zx fun _ => ?_
 refine zk 3 ?_
 refine zl bB p0.Kids ?_
 refine zk 1 ?_
 refine ze [1, 2, 3, 16, 209] ?_
 refine zi h (fun h => ?_) fun h => ?_
 refine aC ?_
 refine aN ?_
 refine aI ?_
 refine zx fun _ => ?_
 refine zk 3 ?_
 obtain ⟨e68, he, h⟩ := aB h
 refine dR (v := .c (D8 e68)) (foot := []) (eG (enc := bB) (sz := 5) (l := p0.Kids) (ix := v67) he (by kernel_rfl) (gW e68) (by kernel_rfl)) (by kernel_rfl) rfl rfl ?_
 clear he
 refine zk 4 ?_
 obtain ⟨y69, he, h⟩ := aB h
 refine zc fok98 (ih_ref14_validate _ _ _ y69 he) ?_
 clear he
 refine zk 5 ?_
 refine ze [1, 3, 16, 17, 18] ?_
 refine za [1, 2, 3, 16, 18] ?_
 refine za [1, 2, 3, 16, 18, 226] ?_
 refine zi h (fun h => ?_) fun h => ?_
 refine za [6, 7] ?_
 cases h
 exact aH zr
 refine aC ?_
 refine aY ?_
 refine zb ?_
 exact eU (zv [(0, 0)] [1, 2, 3, 16] 1) (⟨_, _, h, rfl⟩)
 exact aJ (zv [] [2] 0) (bI (hj63 _ h))
 refine za [1, 2, 3, 14] ?_
 refine aI ?_
 refine bH (fun n s => ∃ v52, fG p0 p2 p1 j42 n v52 = some r ∧ s = mk [C7 1 p1, H3 p2, H1, C7 14 v52] [(0, A4 p0)] 1) n _ (zv [(0, 0)] [1, 2, 3, 14] 1) ⟨_, h, rfl⟩ (fun s ⟨v52, h, _⟩ => nomatch h) ?_
 rintro n s ⟨v52, h, rfl⟩
 rw [fG] at h
 refine aN ?_
 refine zx fun _ => ?_
 refine zk 3 ?_
 refine zl bB p0.Kids ?_
 refine zk 1 ?_
 refine ze [1, 2, 3, 14, 174] ?_
 refine zi h (fun h => ?_) fun h => ?_
 refine aC ?_
 refine aV h (fun A j => ∀ u, j u = some r → A (mk [C7 1 p1, H3 p2, H1, C7 14 v52] [(0, A4 p0)] 1)) (fun u h => ?_) (fun j53 Aj53 hj53 h => ?_)
 refine aY ?_
 refine zb ?_
 exact eU (zv [(0, 0)] [1, 2, 3, 14] 1) (⟨_, h, rfl⟩)
 refine aI ?_
 refine za [1, 2, 3, 14, 15] ?_
 refine aI ?_
 refine bH (fun n s => ∃ v57, fB v52 p0 p2 j53 p1 n v57 = some r ∧ s = mk [C7 1 p1, H3 p2, H1, C7 14 v52, C7 15 v57] [(0, A4 p0)] 1) n _ (zv [(0, 0)] [1, 2, 3, 14, 15] 1) ⟨_, h, rfl⟩ (fun s ⟨v57, h, _⟩ => nomatch h) ?_
 rintro n s ⟨v57, h, rfl⟩
 rw [fB] at h
 refine aN ?_
 refine za [1, 2, 3, 14, 15, 179] ?_
 refine zi h (fun h => ?_) fun h => ?_
 refine aC ?_
 refine aN ?_
 refine aI ?_
 refine Fu [[], [0], [], [1, 2, 0], [3, 1, 2, 0], [4, 3, 1, 2, 0], [5, 4, 3, 1, 2, 0], [6, 5, 4, 3, 1, 2, 0], [7, 6, 5, 4, 3, 1, 2, 0], [8, 7, 6, 5, 4, 3, 1, 2, 0], [7, 6, 5, 4, 3, 1, 2, 0], [9, 10, 7, 8, 6, 5, 4, 3, 1, 2, 0], [11, 7, 9, 10, 8, 6, 5, 4, 3, 1, 2, 0], [12, 7, 11, 9, 10, 8, 6, 5, 4, 3, 1, 2, 0], [7, 6, 5, 4, 3, 1, 2, 0], [14, 7, 6, 5, 4, 3, 1, 2, 0], [7, 6, 5, 4, 3, 1, 2, 0], [15, 16, 7, 14, 6, 5, 4, 3, 1, 2, 0], [17, 7, 15, 16, 14, 6, 5, 4, 3, 1, 2, 0], [18, 7, 17, 15, 16, 14, 6, 5, 4, 3, 1, 2, 0], [13, 19, 7, 12, 11, 9, 10, 8, 6, 5, 4, 3, 1, 2, 0, 18, 17, 15, 16, 14], [7, 20, 6, 5, 4, 3, 1, 2, 0, 13, 19, 12, 11, 9, 10, 8, 18, 17, 15, 16, 14]] fun _ => ?_
 refine zk 3 ?_
 obtain ⟨e58, he, h⟩ := aB h
 refine dR (v := .c (D8 e58)) (foot := []) (eG (enc := bB) (sz := 5) (l := p0.Kids) (ix := v52) he (by kernel_rfl) (gW e58) (by kernel_rfl)) (by kernel_rfl) rfl rfl ?_
 clear he
 refine zk 4 ?_
 refine zE (C3 0 4) ?_
 refine zE (.c (G3 p0.Kids)) ?_
 refine zE (A7 v52) ?_
 obtain ⟨e59, he, h⟩ := aB h
 refine kR (e := [(!(cS e58.Key (⟨#[]⟩ : ByteArray)))]) [(191, .c (G3 p0.Kids), some 1), (192, A7 v52, some 1)] (v := .c (D8 e59)) (foot := []) (by kernel_rfl) (by kernel_rfl) (by kernel_rfl) (fun hg => eG (enc := bB) (sz := 5) (l := p0.Kids) (ix := v52) (cM he hg) (by kernel_rfl) (gW e59) (by kernel_rfl)) rfl rfl ?_
 clear he
 refine zE (.c (.imm [Sx e59.Key, B6 e59.Attrs, C0 e59.Actions, G3 e59.Kids])) ?_
 refine zE (E5 e59.Key) ?_
 refine zE (C3 0 4) ?_
 refine zE (.c (G3 p0.Kids)) ?_
 refine zE (A7 v57) ?_
 obtain ⟨e60, he, h⟩ := aB h
 refine kR (e := [(!(cS e58.Key (⟨#[]⟩ : ByteArray)))]) [(197, .c (G3 p0.Kids), some 1), (198, A7 v57, some 1)] (v := .c (D8 e60)) (foot := []) (by kernel_rfl) (by kernel_rfl) (by kernel_rfl) (fun hg => eG (enc := bB) (sz := 5) (l := p0.Kids) (ix := v57) (cM he hg) (by kernel_rfl) (gW e60) (by kernel_rfl)) rfl rfl ?_
 clear he
 refine zE (.c (.imm [Sx e60.Key, B6 e60.Attrs, C0 e60.Actions, G3 e60.Kids])) ?_
 refine zE (E5 e60.Key) ?_
 refine zE (B3 (cS e59.Key e60.Key)) ?_
 refine zP (.bool ((!(cS e58.Key (⟨#[]⟩ : ByteArray))) && (cS e59.Key e60.Key))) ?_
 refine mF [1, 2, 3, 14, 15, 203] (L2 := [C7 1 p1, H3 p2, H1, C7 14 v52, C7 15 v57, (203, .c (Bo ((!(cS e58.Key (⟨#[]⟩ : ByteArray))) && (cS e59.Key e60.Key))))]) (G2 := [(0, A4 p0)]) 26 ?_
 refine zi h (fun h => ?_) fun h => ?_
 refine za [6, 7] ?_
 cases h
 exact aH zr
 refine aC ?_
 refine aY ?_
 refine zb ?_
 exact eU (zv [(0, 0)] [1, 2, 3, 14, 15] 1) (⟨_, h, rfl⟩)
 exact aJ (zv [(0, 0)] [1, 2, 3, 14] 1) (bI (hj53 _ h))
 exact aJ (zv [(0, 0)] [1, 2, 3] 1) (bI (hj42 _ h))
 refine za [1, 2, 3, 10] ?_
 refine aI ?_
 refine bH (fun n s => ∃ v29, cZ p0 p2 p1 j17 n v29 = some r ∧ s = mk [C7 1 p1, H3 p2, H1, C7 10 v29] [(0, A4 p0)] 1) n _ (zv [(0, 0)] [1, 2, 3, 10] 1) ⟨_, h, rfl⟩ (fun s ⟨v29, h, _⟩ => nomatch h) ?_
 rintro n s ⟨v29, h, rfl⟩
 rw [cZ] at h
 refine aN ?_
 refine zx fun _ => ?_
 refine zk 3 ?_
 refine zl aF p0.Actions ?_
 refine zk 1 ?_
 refine ze [1, 2, 3, 10, 108] ?_
 refine zi h (fun h => ?_) fun h => ?_
 refine aC ?_
 refine aV h (fun A j => ∀ u, j u = some r → A (mk [C7 1 p1, H3 p2, H1, C7 10 v29] [(0, A4 p0)] 1)) (fun u h => ?_) (fun j30 Aj30 hj30 h => ?_)
 refine aY ?_
 refine zb ?_
 exact eU (zv [(0, 0)] [1, 2, 3, 10] 1) (⟨_, h, rfl⟩)
 refine aI ?_
 refine zx fun _ => ?_
 refine zk 3 ?_
 obtain ⟨e31, he, h⟩ := aB h
 refine zd aF he ?_
 clear he
 refine zk 3 ?_
 refine ze [1, 2, 3, 10, 11] ?_
 refine aN ?_
 refine zx fun _ => ?_
 refine zk 2 ?_
 obtain ⟨y32, he, h⟩ := aB h
 refine zc Nt (rM n _ y32 he) ?_
 clear he
 refine zk 2 ?_
 refine zE (C3 11 2) ?_
 refine zE (E5 e31.Handler) ?_
 obtain ⟨y33, he, h⟩ := aB h
 refine Ry [!(!y32)] Nt (fun hg => rM n _ y33 (cM he hg)) ?_
 clear he
 refine zE (B3 (!y33)) ?_
 refine zP (.bool ((!y32) || (!y33))) ?_
 refine mF [1, 2, 3, 10, 11, 125] (L2 := [C7 1 p1, H3 p2, H1, C7 10 v29, A2 11 11 0, (125, B3 ((!y32) || (!y33)))]) (G2 := [(0, A4 p0), (11, F8 e31)]) 23 ?_
 refine zi h (fun h => ?_) fun h => ?_
 refine za [6, 7] ?_
 cases h
 exact aH zr
 refine aC ?_
 refine aN ?_
 refine Fu [[], [0], [1, 0], [2, 1, 0], [3, 2, 1, 0], [2, 1, 0], [5, 2, 1, 0], [2, 1, 0], [7, 2, 1, 0], [6, 8, 2, 5, 1, 0, 7], [9, 2, 6, 8, 5, 1, 0, 7], [10, 2, 9, 6, 8, 5, 1, 0, 7], [4, 11, 2, 3, 1, 0, 10, 9, 6, 8, 5, 7], [2, 12, 1, 0, 4, 11, 3, 10, 9, 6, 8, 5, 7]] fun _ => ?_
 refine zk 3 ?_
 refine zE (C3 11 0) ?_
 refine zE (E5 e31.Event) ?_
 refine zE (C3 0 3) ?_
 refine zE (M1 p0.Actions) ?_
 refine zE (A7 v29) ?_
 refine zE (A7 (E9 v29)) ?_
 obtain ⟨e34, he, h⟩ := aB h
 refine kR (e := [D7 v29 0]) [(133, M1 p0.Actions, some 1), (135, A7 (E9 v29), some 1)] (v := .c (I7 e34)) (foot := []) (by kernel_rfl) (by kernel_rfl) (by kernel_rfl) (fun hg => eG (enc := aF) (sz := 4) (l := p0.Actions) (ix := (E9 v29)) (cM he hg) (by kernel_rfl) (by kernel_rfl) (by kernel_rfl)) rfl rfl ?_
 clear he
 refine zE (.c (I7 e34)) ?_
 refine zE (E5 e34.Event) ?_
 refine zE (B3 (Lv e31.Event e34.Event)) ?_
 refine zP (.bool ((D7 v29 0) && (Lv e31.Event e34.Event))) ?_
 refine mF [1, 2, 3, 10, 11, 140] (L2 := [C7 1 p1, H3 p2, H1, C7 10 v29, A2 11 11 0, (140, B3 ((D7 v29 0) && (Lv e31.Event e34.Event)))]) (G2 := [(0, A4 p0), (11, F8 e31)]) 37 ?_
 refine zi h (fun h => ?_) fun h => ?_
 refine za [6, 7] ?_
 cases h
 exact aH zr
 refine aC ?_
 refine aN ?_
 refine zx fun _ => ?_
 refine zk 5 ?_
 refine zE (C3 11 3) ?_
 refine zE (K1 e31.Args) ?_
 refine kR (e := [(!(decide ((ByteArray.size e31.Instance : Int) > 400)))]) [(148, K1 e31.Args, some 1)] (v := .c (I (List.length e31.Args : Int))) (foot := []) (by kernel_rfl) (by kernel_rfl) (by kernel_rfl) (fun hg => kX (enc := aL) (l := e31.Args) (by kernel_rfl)) rfl rfl ?_
 refine zE (.c (Bo (decide ((List.length e31.Args : Int) > 100)))) ?_
 refine zP (.bool ((decide ((ByteArray.size e31.Instance : Int) > 400)) || (decide ((List.length e31.Args : Int) > 100)))) ?_
 refine ze [1, 2, 3, 10, 11, 151] ?_
 refine zi h (fun h => ?_) fun h => ?_
 refine za [6, 7] ?_
 cases h
 exact aH zr
 refine aC ?_
 refine za [1, 2, 3, 10, 11, 12] ?_
 refine aI ?_
 refine bH (fun n s => ∃ v37, eZ e31 p2 j30 p1 v29 p0 n v37 = some r ∧ s = mk [C7 1 p1, H3 p2, H1, C7 10 v29, A2 11 1 0, C7 12 v37] [(0, A4 p0), (1, F8 e31)] 2) n _ (zv [(0, 0), (11, 1)] [1, 2, 3, 10, 11, 12] 2) ⟨_, h, rfl⟩ (fun s ⟨v37, h, _⟩ => nomatch h) ?_
 rintro n s ⟨v37, h, rfl⟩
 rw [eZ] at h
 refine aN ?_
 refine zx fun _ => ?_
 refine zk 3 ?_
 refine zl aL e31.Args ?_
 refine zk 1 ?_
 refine ze [1, 2, 3, 10, 11, 12, 157] ?_
 refine zi h (fun h => ?_) fun h => ?_
 refine aC ?_
 refine aN ?_
 refine aI ?_
 refine zx fun _ => ?_
 refine zk 3 ?_
 obtain ⟨e38, he, h⟩ := aB h
 refine dR (v := .c (I4 e38)) (foot := []) (eG (enc := aL) (sz := 4) (l := e31.Args) (ix := v37) he (by kernel_rfl) (dO e38) (by kernel_rfl)) (by kernel_rfl) rfl rfl ?_
 clear he
 refine zk 1 ?_
 obtain ⟨y39, he, h⟩ := aB h
 refine zc Ww (uU n _ y39 he) ?_
 clear he
 refine zk 1 ?_
 refine ze [1, 2, 3, 10, 11, 12, 13] ?_
 refine za [1, 2, 3, 10, 11, 12, 13, 167] ?_
 refine zi h (fun h => ?_) fun h => ?_
 refine za [6, 7] ?_
 cases h
 exact aH zr
 refine aC ?_
 refine aY ?_
 refine zb ?_
 exact eU (zv [(0, 0), (1, 1)] [1, 2, 3, 10, 11, 12] 2) (⟨_, h, rfl⟩)
 exact aJ (zv [(0, 0)] [1, 2, 3, 10] 1) (bI (hj30 _ h))
 exact aJ (zv [(0, 0)] [1, 2, 3] 1) (bI (hj17 _ h))
 refine za [1, 2, 3, 8] ?_
 refine aI ?_
 refine bH (fun n s => ∃ v9, fJ p0 p2 j2 p1 n v9 = some r ∧ s = mk [C7 1 p1, H3 p2, H1, C7 8 v9] [(0, A4 p0)] 1) n _ (zv [(0, 0)] [1, 2, 3, 8] 1) ⟨_, h, rfl⟩ (fun s ⟨v9, h, _⟩ => nomatch h) ?_
 rintro n s ⟨v9, h, rfl⟩
 rw [fJ] at h
 refine aN ?_
 refine zx fun _ => ?_
 refine zk 3 ?_
 refine zl aQ p0.Attrs ?_
 refine zk 1 ?_
 refine ze [1, 2, 3, 8, 62] ?_
 refine zi h (fun h => ?_) fun h => ?_
 refine aC ?_
 refine aN ?_
 refine aI ?_
 refine aN ?_
 refine zx fun _ => ?_
 refine zk 3 ?_
 obtain ⟨e10, he, h⟩ := aB h
 refine zd aQ he ?_
 clear he
 refine zk 2 ?_
 obtain ⟨y11, he, h⟩ := aB h
 refine zc Nt (rM n _ y11 he) ?_
 clear he
 refine zk 1 ?_
 refine ze [1, 2, 3, 8, 72] ?_
 refine zi h (fun h => ?_) fun h => ?_
 refine za [6, 7] ?_
 cases h
 exact aH zr
 refine aC ?_
 refine aN ?_
 refine Fu [[], [0], [1, 0], [2, 1, 0], [3, 2, 1, 0], [2, 1, 0], [4, 5, 2, 3, 1, 0], [6, 2, 4, 5, 3, 1, 0], [7, 2, 6, 4, 5, 3, 1, 0], [2, 1, 0], [9, 2, 1, 0], [2, 1, 0], [11, 2, 1, 0], [10, 12, 2, 9, 1, 0, 11], [13, 2, 10, 12, 9, 1, 0, 11], [14, 2, 13, 10, 12, 9, 1, 0, 11], [8, 15, 2, 7, 6, 4, 5, 3, 1, 0, 14, 13, 10, 12, 9, 11], [2, 16, 1, 0, 8, 15, 7, 6, 4, 5, 3, 14, 13, 10, 12, 9, 11]] fun _ => ?_
 refine zk 3 ?_
 refine zE (C3 0 2) ?_
 refine zE (.c (B6 p0.Attrs)) ?_
 refine zE (A7 v9) ?_
 obtain ⟨e12, he, h⟩ := aB h
 refine kR (e := [D7 v9 0]) [(78, .c (B6 p0.Attrs), some 1), (79, A7 v9, some 1)] (v := .c (F9 e12.Name e12.Value)) (foot := []) (by kernel_rfl) (by kernel_rfl) (by kernel_rfl) (fun hg => eG (enc := aQ) (sz := 5) (l := p0.Attrs) (ix := v9) (cM he hg) (by kernel_rfl) (by kernel_rfl) (by kernel_rfl)) rfl rfl ?_
 clear he
 refine zE (.c (F9 e12.Name e12.Value)) ?_
 refine zE (E5 e12.Name) ?_
 refine zE (C3 0 2) ?_
 refine zE (.c (B6 p0.Attrs)) ?_
 refine zE (A7 v9) ?_
 refine zE (A7 (E9 v9)) ?_
 obtain ⟨e13, he, h⟩ := aB h
 refine kR (e := [D7 v9 0]) [(84, .c (B6 p0.Attrs), some 1), (86, A7 (E9 v9), some 1)] (v := .c (F9 e13.Name e13.Value)) (foot := []) (by kernel_rfl) (by kernel_rfl) (by kernel_rfl) (fun hg => eG (enc := aQ) (sz := 5) (l := p0.Attrs) (ix := (E9 v9)) (cM he hg) (by kernel_rfl) (by kernel_rfl) (by kernel_rfl)) rfl rfl ?_
 clear he
 refine zE (.c (F9 e13.Name e13.Value)) ?_
 refine zE (E5 e13.Name) ?_
 refine zE (B3 (Lv e12.Name e13.Name)) ?_
 refine zP (.bool ((D7 v9 0) && (Lv e12.Name e13.Name))) ?_
 refine mF [1, 2, 3, 8, 91] (L2 := [C7 1 p1, H3 p2, H1, C7 8 v9, (91, B3 ((D7 v9 0) && (Lv e12.Name e13.Name)))]) (G2 := [(0, A4 p0)]) 32 ?_
 refine zi h (fun h => ?_) fun h => ?_
 refine za [6, 7] ?_
 cases h
 exact aH zr
 refine aC ?_
 refine zx fun _ => ?_
 refine zk 3 ?_
 obtain ⟨e14, he, h⟩ := aB h
 refine zd aQ he ?_
 clear he
 refine zk 2 ?_
 obtain ⟨y15, he, h⟩ := aB h
 refine zc Ww (uU n _ y15 he) ?_
 clear he
 refine zk 1 ?_
 refine ze [1, 2, 3, 8, 9] ?_
 refine za [1, 2, 3, 8, 9, 101] ?_
 refine zi h (fun h => ?_) fun h => ?_
 refine za [6, 7] ?_
 cases h
 exact aH zr
 refine aC ?_
 refine aY ?_
 refine zb ?_
 exact eU (zv [(0, 0)] [1, 2, 3, 8] 1) (⟨_, h, rfl⟩)
 exact aJ (zv [(0, 0)] [1, 2, 3] 1) (bI (hj2 _ h))
def fI : Nat → aG → Int → Int → Option (Int × Int)
 | 0, _, _, _ => none
 | n + 1, p0, p1, p2 => jG (fun a0 a1 a2 => fI n a0 a1 a2) n p0 p1 p2
theorem yT (n : Nat) : (∀ (p0 : aG) (p1 : Int) (p2 : Int) (r : (Int × Int)), fI n p0 p1 p2 = some r → dJ E 98 0 [A8 p0, A7 p1, A7 p2] [] (.tup [A7 r.1, A7 r.2]) []) := by
 induction n with
 | zero => intro p0 p1 p2 r h; rw [fI] at h; cases h
 | succ n ih => intro p0 p1 p2 r h; rw [fI] at h; exact tN _ ih n _ _ _ r h
def iA  (n : Nat) (p0 : aG) : Option Int := (fI n p0 1 0).bind fun (y1 : (Int × Int)) => some y1.2
theorem qV  (n : Nat) (p0 : aG) (r : Int) (h : iA n p0 = some r) : dJ E 59 0 [A8 p0] [] (A7 r) [] := by
 refine gY Tryz.func59 rfl ?_
 unfold iA at h
 refine za [1] ?_
 refine zx fun _ => ?_
 refine zk 1 ?_
 obtain ⟨y1, he, h⟩ := aB h
 refine zc fok98 (yT n _ _ _ y1 he) ?_
 clear he
 refine zk 5 ?_
 refine ze [4] ?_
 refine za [2] ?_
 cases h
 exact aH zr
def vO  (n : Nat) (p0 : aK) (p1 : Int) : Option (aG × aK) := (oS n p0 p1).bind fun (y1 : (aG × aK)) => (iA n y1.1).bind fun (y2 : Int) => (if (y2 != 0) = true then some ((aG.mk 1 (⟨#[]⟩ : ByteArray) ([] : List aZ) ([] : List cN) ([] : List aG)), y1.2) else some (y1.1, y1.2))
theorem Me  (n : Nat) (p0 : aK) (p1 : Int) (r : (aG × aK)) (h : vO n p0 p1 = some r) : dJ E 27 1 [C3 0 0, A7 p1] [D5 p0] (A8 r.1) [D5 r.2] := by
 refine gY Tryz.func27 rfl ?_
 unfold vO at h
 refine za [0, 1, 4] ?_
 refine zx fun _ => ?_
 refine zk 2 ?_
 obtain ⟨y1, he, h⟩ := aB h
 refine zo [(0, 0)] fok58 (Lq n _ _ y1 he) ?_
 clear he
 refine zk 2 ?_
 refine ze [4, 5] ?_
 refine aN ?_
 refine zx fun _ => ?_
 refine zk 1 ?_
 obtain ⟨y2, he, h⟩ := aB h
 refine zc fok59 (qV n _ y2 he) ?_
 clear he
 refine zk 1 ?_
 refine ze [4, 5, 11] ?_
 refine zi h (fun h => ?_) fun h => ?_
 refine za [4] ?_
 cases h
 exact aH zr
 refine aC ?_
 refine za [4] ?_
 cases h
 exact aH zr
end Go.Proofs.YtojkihhnioeggaaGreatDoor.S
