import Derived.Test.YtojkihhnioeggaaGreatDoorQCGM1
set_option linter.unusedVariables false
set_option linter.unusedSimpArgs false
set_option maxRecDepth 100000
set_option maxHeartbeats 4000000
namespace Go.Proofs.YtojkihhnioeggaaGreatDoor.S
open Go Go.Bm
def pT (self_ref11_join : aX → aX → Option (aX × Bool)) (n : Nat) (p0 : aX) (p1 : aX) : Option (aX × Bool) := (if (p0.Kind != p1.Kind) = true then some ((aX.mk 0 ([] : List aX)), false) else (if ((List.length p0.Of : Int) == 0) = true then some (p1, true) else (if ((List.length p1.Of : Int) == 0) = true then some (p0, true) else (idx p0.Of 0).bind fun (e1 : aX) => (idx p1.Of 0).bind fun (e2 : aX) => (self_ref11_join e1 e2).bind fun (y3 : (aX × Bool)) => (if (!y3.2) = true then some ((aX.mk 0 ([] : List aX)), false) else some ((aX.mk p0.Kind [y3.1]), true)))))
theorem yF (self_ref11_join : aX → aX → Option (aX × Bool)) (ih_ref11_join : ∀ (p0 : aX) (p1 : aX) (r : (aX × Bool)), self_ref11_join p0 p1 = some r → cW E 146 0 [C9 p0, C9 p1] [] (.tup [C9 r.1, B3 r.2]) []) (n : Nat) (p0 : aX) (p1 : aX) (r : (aX × Bool)) (h : pT self_ref11_join n p0 p1 = some r) : cW E 146 0 [C9 p0, C9 p1] [] (.tup [C9 r.1, B3 r.2]) [] := by
 refine eV Tryz.func146 rfl ?_
 unfold pT at h
 refine za [2, 3, 4] ?_
 refine aI ?_
 refine za [2, 3, 4, 12] ?_
 refine zi h (fun h => ?_) fun h => ?_
 refine za [4, 5] ?_
 cases h
 exact aD zr
 refine aB ?_
 refine aI ?_
 refine zx fun _ => ?_
 refine zk 2 ?_
 refine zl bL p0.Of ?_
 refine zk 1 ?_
 refine ze [2, 3, 4, 17] ?_
 refine zi h (fun h => ?_) fun h => ?_
 refine za [4, 5] ?_
 cases h
 exact aD zr
 refine aB ?_
 refine aI ?_
 refine zx fun _ => ?_
 refine zk 2 ?_
 refine zl bL p1.Of ?_
 refine zk 1 ?_
 refine ze [2, 3, 4, 22] ?_
 refine zi h (fun h => ?_) fun h => ?_
 refine za [4, 5] ?_
 cases h
 exact aD zr
 refine aB ?_
 refine xI [[], [0], [1, 0], [2, 1, 0], [], [4], [5, 4], [6, 5, 4], [3, 7, 2, 1, 0, 6, 5, 4], [8, 3, 7, 2, 1, 0, 6, 5, 4], [9, 8, 3, 7, 2, 1, 0, 6, 5, 4], [9, 8, 3, 7, 2, 1, 0, 6, 5, 4], [], [12, 10, 8, 0, 1, 2, 3, 4, 5, 6, 7, 9], [11, 13, 0, 1, 2, 3, 4, 5, 6, 7, 8, 9, 10, 12]] fun _ => ?_
 refine zk 2 ?_
 obtain ⟨e1, he, h⟩ := aC h
 refine cZ (v := .c (M6 e1)) (foot := []) (dN (enc := bL) (sz := 2) (l := p0.Of) (ix := 0) he (by kernel_rfl) (gG e1) (by kernel_rfl)) (by kernel_rfl) rfl rfl ?_
 clear he
 refine zk 3 ?_
 obtain ⟨e2, he, h⟩ := aC h
 refine cZ (v := .c (M6 e2)) (foot := []) (dN (enc := bL) (sz := 2) (l := p1.Of) (ix := 0) he (by kernel_rfl) (gG e2) (by kernel_rfl)) (by kernel_rfl) rfl rfl ?_
 clear he
 refine zk 1 ?_
 obtain ⟨y3, he, h⟩ := aC h
 refine zc Wj (ih_ref11_join _ _ y3 he) ?_
 clear he
 refine zk 6 ?_
 refine jY [2, 4, 6, 7] (L2 := [J0, A1 4 2 0, A1 6 29 0, J3 7 y3.2]) (G2 := [(0, I8 p0), (1, I8 p1), (2, G4), (29, I8 y3.1)]) 32 ?_
 refine aI ?_
 refine za [2, 4, 6, 37] ?_
 refine zi h (fun h => ?_) fun h => ?_
 refine za [4, 5] ?_
 cases h
 exact aD zr
 refine aB ?_
 refine zx fun _ => ?_
 refine zk 3 ?_
 refine qR (e := 190) (sz := 2) (len := 1) (r := [I y3.1.Kind, F3 y3.1.Of]) (l' := List.map bL [y3.1]) (nm := 37) (by kernel_rfl) (by simp only [List.map_cons, List.map_nil, gG]; kernel_rfl) (by kernel_rfl) (by kernel_rfl) rfl rfl rfl ?_
 refine zk 3 ?_
 refine ze [4, 5] ?_
 cases h
 exact aD zr
def lK : Nat → aX → aX → Option (aX × Bool)
 | 0, _, _ => none
 | n + 1, p0, p1 => pT (fun a0 a1 => lK n a0 a1) n p0 p1
theorem Hl (n : Nat) : (∀ (p0 : aX) (p1 : aX) (r : (aX × Bool)), lK n p0 p1 = some r → cW E 146 0 [C9 p0, C9 p1] [] (.tup [C9 r.1, B3 r.2]) []) := by
 induction n with
 | zero => intro p0 p1 r h; rw [lK] at h; cases h
 | succ n ih => intro p0 p1 r h; rw [lK] at h; exact yF _ ih n _ _ r h
def eI (p0 : aJ) (self_ref11_check : aJ → Int → Int → Option (aX × Int × Int)) (p1 : Int) (j2 : Int → Bool → List aX → Option (aX × Int × Int)) : Nat → Int → Bool → Int → List aX → Option (aX × Int × Int)
 | 0, _, _, _, _ => none
 | n + 1, v16, v17, v18, v19 => (if (decide (v18 < (List.length p0.L : Int))) = true then (aS (fun (v25 : Bool) (v26 : Int) (v27 : List aX) => eI p0 self_ref11_check p1 j2 n v26 v25 (IntKind.wrap .i64 (v18 + 1)) v27) (fun (j20 : Bool → Int → List aX → Option (aX × Int × Int)) => (idx p0.L v18).bind fun (e21 : aJ) => (self_ref11_check e21 (IntKind.wrap .i64 (p1 + 1)) v16).bind fun (y22 : (aX × Int × Int)) => (if (y22.2.2 != 0) = true then some ((aX.mk 0 ([] : List aX)), y22.2.1, y22.2.2) else (if (!v17) = true then j20 v17 y22.2.1 v19 else (if ((List.length v19 : Int) == 0) = true then j20 v17 y22.2.1 [y22.1] else (idx v19 0).bind fun (e23 : aX) => (lK n e23 y22.1).bind fun (y24 : (aX × Bool)) => j20 y24.2 y22.2.1 [y24.1]))))) else j2 v16 v17 v19)
def dV (self_ref11_check : aJ → Int → Int → Option (aX × Int × Int)) (n : Nat) (p0 : aJ) (p1 : Int) (p2 : Int) : Option (aX × Int × Int) := (if ((p0.Kind == 4) && (decide (p1 > 16))) = true then some ((aX.mk 0 ([] : List aX)), (IntKind.wrap .i64 (p2 + 1)), 8) else (if (((((decide (p0.Kind < 1)) || (decide (p0.Kind > 4))) || (((p0.N != 0) && (p0.Kind != 1)) && (p0.Kind != 2))) || ((!(bQ p0.S (⟨#[]⟩ : ByteArray))) && (p0.Kind != 3))) || ((decide ((List.length p0.L : Int) > 0)) && (!(p0.Kind == 4)))) = true then some ((aX.mk 0 ([] : List aX)), (IntKind.wrap .i64 (p2 + 1)), 9) else (if (((p0.Kind == 1) && ((decide (p0.N < (-1099511627776 : Int))) || (decide (p0.N > 1099511627776)))) || (((p0.Kind == 2) && (p0.N != 0)) && (p0.N != 1))) = true then some ((aX.mk 0 ([] : List aX)), (IntKind.wrap .i64 (p2 + 1)), 1) else (if (((decide ((ByteArray.size p0.S : Int) > 2000)) || (decide ((List.length p0.L : Int) > 100))) || (decide ((IntKind.wrap .i64 (p2 + 1)) > 1000))) = true then some ((aX.mk 0 ([] : List aX)), (IntKind.wrap .i64 (p2 + 1)), 2) else (qP n p0.S).bind fun (y1 : Bool) => (if (!y1) = true then some ((aX.mk 0 ([] : List aX)), (IntKind.wrap .i64 (p2 + 1)), 3) else (aS (fun (v35 : Int) (v36 : Bool) (v37 : List aX) => (if (!v36) = true then some ((aX.mk 0 ([] : List aX)), v35, 5) else some ((aX.mk p0.Kind v37), v35, 0))) (fun (j2 : Int → Bool → List aX → Option (aX × Int × Int)) => eI p0 self_ref11_check p1 j2 n (IntKind.wrap .i64 (p2 + 1)) true 0 ([] : List aX))))))))
theorem xA (self_ref11_check : aJ → Int → Int → Option (aX × Int × Int)) (ih_ref11_check : ∀ (p0 : aJ) (p1 : Int) (p2 : Int) (r : (aX × Int × Int)), self_ref11_check p0 p1 p2 = some r → cW E 143 0 [B8 p0, B7 p1, B7 p2] [] (.tup [C9 r.1, B7 r.2.1, B7 r.2.2]) []) (n : Nat) (p0 : aJ) (p1 : Int) (p2 : Int) (r : (aX × Int × Int)) (h : dV self_ref11_check n p0 p1 p2 = some r) : cW E 143 0 [B8 p0, B7 p1, B7 p2] [] (.tup [C9 r.1, B7 r.2.1, B7 r.2.2]) [] := by
 refine eV Tryz.func143 rfl ?_
 unfold dV at h
 refine za [1, 2, 3, 6] ?_
 refine za [1, 2, 3, 6] ?_
 refine za [1, 2, 3, 6, 9] ?_
 refine aI ?_
 refine zx fun _ => ?_
 refine zk 2 ?_
 refine zE (B7 p1) ?_
 refine zE (J5 p1 16) ?_
 refine zP (.bool ((p0.Kind == 4) && (D5 p1 16))) ?_
 refine ze [1, 2, 3, 6, 9, 27] ?_
 refine zi h (fun h => ?_) fun h => ?_
 refine za [6, 7, 8] ?_
 cases h
 exact aD zr
 refine aB ?_
 refine aI ?_
 refine zx fun _ => ?_
 refine zk 4 ?_
 refine zE (B9 0 0) ?_
 refine zE (B7 p0.Kind) ?_
 refine zE (J5 p0.Kind 4) ?_
 refine zP (.bool (O8 p0.Kind)) ?_
 refine zk 1 ?_
 refine zE (B9 0 1) ?_
 refine zE (B7 p0.N) ?_
 refine zE (B3 (p0.N != 0)) ?_
 refine zF [!(O8 p0.Kind)] (B3 (p0.N != 0)) ?_
 refine zE (B9 0 0) ?_
 refine zE (B7 p0.Kind) ?_
 refine zE (B3 (p0.Kind != 1)) ?_
 refine zP (.bool ((p0.N != 0) && (p0.Kind != 1))) ?_
 refine zF [!(O8 p0.Kind)] (B3 ((p0.N != 0) && (p0.Kind != 1))) ?_
 refine zE (B9 0 0) ?_
 refine zE (B7 p0.Kind) ?_
 refine zE (B3 (p0.Kind != 2)) ?_
 refine zP (.bool (((p0.N != 0) && (p0.Kind != 1)) && (p0.Kind != 2))) ?_
 refine zP (.bool ((O8 p0.Kind) || (((p0.N != 0) && (p0.Kind != 1)) && (p0.Kind != 2)))) ?_
 refine Wp 1 (L' := [A6 1 p1, K2 p2, I6, M9, (9, B3 (p0.Kind == 4)), (27, B3 ((p0.Kind == 4) && (D5 p1 16))), A1 30 0 0, A6 31 p0.Kind, (32, H9 p0.Kind 1), (33, H9 p0.Kind 1), (34, .cnd [!(C1 p0.Kind 1)] (B9 0 0)), N9 35 p0.Kind 1, (36, .cnd [!(C1 p0.Kind 1)] (J5 p0.Kind 4)), (37, B3 (O8 p0.Kind)), (38, B3 (O8 p0.Kind)), (39, .cnd [!(O8 p0.Kind)] (B9 0 1)), (40, .cnd [!(O8 p0.Kind)] (B7 p0.N)), (41, .cnd [!(O8 p0.Kind)] (B3 (p0.N != 0))), (42, .cnd [!(O8 p0.Kind)] (B3 (p0.N != 0))), (43, .cnd [!(O8 p0.Kind), p0.N != 0] (B9 0 0)), (44, .cnd [!(O8 p0.Kind), p0.N != 0] (B7 p0.Kind)), (45, .cnd [!(O8 p0.Kind), p0.N != 0] (B3 (p0.Kind != 1))), (46, .cnd [!(O8 p0.Kind)] (B3 ((p0.N != 0) && (p0.Kind != 1)))), (47, .cnd [!(O8 p0.Kind)] (B3 ((p0.N != 0) && (p0.Kind != 1)))), (48, .cnd [!(O8 p0.Kind), (p0.N != 0) && (p0.Kind != 1)] (B9 0 0)), (49, .cnd [!(O8 p0.Kind), (p0.N != 0) && (p0.Kind != 1)] (B7 p0.Kind)), (50, .cnd [!(O8 p0.Kind), (p0.N != 0) && (p0.Kind != 1)] (B3 (p0.Kind != 2))), (51, .cnd [!(O8 p0.Kind)] (B3 (((p0.N != 0) && (p0.Kind != 1)) && (p0.Kind != 2)))), (52, B3 ((O8 p0.Kind) || (((p0.N != 0) && (p0.Kind != 1)) && (p0.Kind != 2)))), (53, B3 ((O8 p0.Kind) || (((p0.N != 0) && (p0.Kind != 1)) && (p0.Kind != 2))))]) (G' := [(0, E5 p0), (1, G4)]) (X' := []) ?_
 refine zE (B9 0 2) ?_
 refine zE (F0 p0.S) ?_
 refine zE (.c (Bo (!(bQ p0.S (⟨#[]⟩ : ByteArray))))) ?_
 refine zF [!((O8 p0.Kind) || (((p0.N != 0) && (p0.Kind != 1)) && (p0.Kind != 2)))] (.c (Bo (!(bQ p0.S (⟨#[]⟩ : ByteArray))))) ?_
 refine zE (B9 0 0) ?_
 refine zE (B7 p0.Kind) ?_
 refine zE (B3 (p0.Kind != 3)) ?_
 refine zP (.bool ((!(bQ p0.S (⟨#[]⟩ : ByteArray))) && (p0.Kind != 3))) ?_
 refine zP (.bool (((O8 p0.Kind) || (((p0.N != 0) && (p0.Kind != 1)) && (p0.Kind != 2))) || ((!(bQ p0.S (⟨#[]⟩ : ByteArray))) && (p0.Kind != 3)))) ?_
 refine zk 1 ?_
 refine zE (B9 0 3) ?_
 refine zE (M7 p0.L) ?_
 refine jZ (e := [(!(((O8 p0.Kind) || (((p0.N != 0) && (p0.Kind != 1)) && (p0.Kind != 2))) || ((!(bQ p0.S (⟨#[]⟩ : ByteArray))) && (p0.Kind != 3))))]) [(65, M7 p0.L, some 1)] (v := .c (I (List.length p0.L : Int))) (foot := []) (by kernel_rfl) (by kernel_rfl) (by kernel_rfl) (fun hg => lN (enc := aP) (l := p0.L) (by kernel_rfl)) rfl rfl ?_
 refine zE (.c (Bo (decide ((List.length p0.L : Int) > 0)))) ?_
 refine zF [(!(((O8 p0.Kind) || (((p0.N != 0) && (p0.Kind != 1)) && (p0.Kind != 2))) || ((!(bQ p0.S (⟨#[]⟩ : ByteArray))) && (p0.Kind != 3))))] (.c (Bo (decide ((List.length p0.L : Int) > 0)))) ?_
 refine zE (B3 (p0.Kind == 4)) ?_
 refine zE (B3 (!(p0.Kind == 4))) ?_
 refine zP (.bool ((decide ((List.length p0.L : Int) > 0)) && (!(p0.Kind == 4)))) ?_
 refine zP (.bool ((((O8 p0.Kind) || (((p0.N != 0) && (p0.Kind != 1)) && (p0.Kind != 2))) || ((!(bQ p0.S (⟨#[]⟩ : ByteArray))) && (p0.Kind != 3))) || ((decide ((List.length p0.L : Int) > 0)) && (!(p0.Kind == 4))))) ?_
 refine jY [1, 2, 3, 6, 72] (L2 := [A6 1 p1, K2 p2, I6, M9, (72, .c (Bo ((((O8 p0.Kind) || (((p0.N != 0) && (p0.Kind != 1)) && (p0.Kind != 2))) || ((!(bQ p0.S (⟨#[]⟩ : ByteArray))) && (p0.Kind != 3))) || ((decide ((List.length p0.L : Int) > 0)) && (!(p0.Kind == 4))))))]) (G2 := [(0, E5 p0), (1, G4)]) 59 ?_
 refine zi h (fun h => ?_) fun h => ?_
 refine za [6, 7, 8] ?_
 cases h
 exact aD zr
 refine aB ?_
 refine aI ?_
 refine zx fun _ => ?_
 refine zk 4 ?_
 refine zE (B9 0 1) ?_
 refine zE (B7 p0.N) ?_
 refine zE (.c (Bo (decide (p0.N < (-1099511627776 : Int))))) ?_
 refine zF [p0.Kind == 1] (.c (Bo (decide (p0.N < (-1099511627776 : Int))))) ?_
 refine zE (B9 0 1) ?_
 refine zE (B7 p0.N) ?_
 refine zE (B3 (G5 p0.N)) ?_
 refine zP (.bool ((decide (p0.N < (-1099511627776 : Int))) || (G5 p0.N))) ?_
 refine zP (.bool ((p0.Kind == 1) && ((decide (p0.N < (-1099511627776 : Int))) || (G5 p0.N)))) ?_
 refine zk 1 ?_
 refine zE (B9 0 0) ?_
 refine zE (B7 p0.Kind) ?_
 refine zE (B3 (p0.Kind == 2)) ?_
 refine zF [(!((p0.Kind == 1) && ((decide (p0.N < (-1099511627776 : Int))) || (G5 p0.N))))] (B3 (p0.Kind == 2)) ?_
 refine zE (B9 0 1) ?_
 refine zE (B7 p0.N) ?_
 refine zE (B3 (p0.N != 0)) ?_
 refine zP (.bool ((p0.Kind == 2) && (p0.N != 0))) ?_
 refine zF [(!((p0.Kind == 1) && ((decide (p0.N < (-1099511627776 : Int))) || (G5 p0.N))))] (B3 ((p0.Kind == 2) && (p0.N != 0))) ?_
 refine zE (B9 0 1) ?_
 refine zE (B7 p0.N) ?_
 refine zE (B3 (p0.N != 1)) ?_
 refine zP (.bool (((p0.Kind == 2) && (p0.N != 0)) && (p0.N != 1))) ?_
 refine zP (.bool (((p0.Kind == 1) && ((decide (p0.N < (-1099511627776 : Int))) || (G5 p0.N))) || (((p0.Kind == 2) && (p0.N != 0)) && (p0.N != 1)))) ?_
 refine jY [1, 2, 3, 6, 102] (L2 := [A6 1 p1, K2 p2, I6, M9, (102, .c (Bo (((p0.Kind == 1) && ((decide (p0.N < (-1099511627776 : Int))) || (G5 p0.N))) || (((p0.Kind == 2) && (p0.N != 0)) && (p0.N != 1)))))]) (G2 := [(0, E5 p0), (1, G4)]) 87 ?_
 refine zi h (fun h => ?_) fun h => ?_
 refine za [6, 7, 8] ?_
 cases h
 exact aD zr
 refine aB ?_
 refine aI ?_
 refine zx fun _ => ?_
 refine zk 5 ?_
 refine zE (B9 0 3) ?_
 refine zE (M7 p0.L) ?_
 refine jZ (e := [(!(decide ((ByteArray.size p0.S : Int) > 2000)))]) [(111, M7 p0.L, some 1)] (v := .c (I (List.length p0.L : Int))) (foot := []) (by kernel_rfl) (by kernel_rfl) (by kernel_rfl) (fun hg => lN (enc := aP) (l := p0.L) (by kernel_rfl)) rfl rfl ?_
 refine zE (.c (Bo (decide ((List.length p0.L : Int) > 100)))) ?_
 refine zP (.bool ((decide ((ByteArray.size p0.S : Int) > 2000)) || (decide ((List.length p0.L : Int) > 100)))) ?_
 refine zk 1 ?_
 refine zE (B7 (D9 p2 1)) ?_
 refine zE (B3 (decide ((D9 p2 1) > 1000))) ?_
 refine zP (.bool (((decide ((ByteArray.size p0.S : Int) > 2000)) || (decide ((List.length p0.L : Int) > 100))) || (decide ((D9 p2 1) > 1000)))) ?_
 refine jY [1, 2, 3, 6, 118] (L2 := [A6 1 p1, K2 p2, I6, M9, (118, .c (Bo (((decide ((ByteArray.size p0.S : Int) > 2000)) || (decide ((List.length p0.L : Int) > 100))) || (decide ((D9 p2 1) > 1000)))))]) (G2 := [(0, E5 p0), (1, G4)]) 101 ?_
 refine zi h (fun h => ?_) fun h => ?_
 refine za [6, 7, 8] ?_
 cases h
 exact aD zr
 refine aB ?_
 refine aI ?_
 refine zx fun _ => ?_
 refine zk 2 ?_
 obtain ⟨y1, he, h⟩ := aC h
 refine zc fok145 (Hn n _ y1 he) ?_
 clear he
 refine zk 1 ?_
 refine ze [1, 2, 3, 6, 124] ?_
 refine zi h (fun h => ?_) fun h => ?_
 refine za [6, 7, 8] ?_
 cases h
 exact aD zr
 refine aB ?_
 refine za [1, 2, 3, 6, 10] ?_
 refine za [1, 2, 3, 6, 10, 11] ?_
 refine aQ h (fun A j => ∀ v35 v36 v37, j v35 v36 v37 = some r → A (mk [A6 2 v35, A1 6 0 0, A1 10 1 0, J3 11 v36] [(0, G4), (1, .blk 190 [I p0.Kind, .app 2 (List.map bL v37)]), C4 2 190 2 v37] 3)) (fun v35 v36 v37 h => ?_) (fun j2 Aj2 hj2 h => ?_)
 refine aI ?_
 refine za [2, 6, 10, 179] ?_
 refine zi h (fun h => ?_) fun h => ?_
 refine za [6, 7, 8] ?_
 cases h
 exact aD zr
 refine aB ?_
 refine za [6, 7, 8] ?_
 cases h
 exact aD zr
 refine za [1, 2, 3, 6, 10, 11, 12] ?_
 refine aG ?_
 refine bA (fun n s => ∃ v16 v17 v18 v19, eI p0 self_ref11_check p1 j2 n v16 v17 v18 v19 = some r ∧ s = mk [A6 1 p1, A6 2 v16, I6, M9, J8, J3 11 v17, A6 12 v18] [(0, E5 p0), (1, G4), (2, .blk 190 [I p0.Kind, .app 3 (List.map bL v19)]), C4 3 190 2 v19] 4) n _ (dT.trans (lF (n := 108) (T0 := 190) (l := [I p0.Kind, cE]) (G2 := [(0, E5 p0), (1, G4), (108, .blk 190 [I p0.Kind, .app 112 (List.map bL ([] : List aX))]), (112, .tok 190 2 (List.length ([] : List aX)))]) (lim2 := 113) 1 190 2 (by kernel_rfl) (by kernel_rfl) (by kernel_rfl) (by kernel_rfl)) (zv [(0, 0), (1, 1), (108, 2), (112, 3)] [1, 2, 3, 6, 10, 11, 12] 4)) ⟨_, _, _, _, h, rfl⟩ (fun s ⟨v16, v17, v18, v19, h, _⟩ => nomatch h) ?_
 rintro n s ⟨v16, v17, v18, v19, h, rfl⟩
 rw [eI] at h
 refine aI ?_
 refine zx fun _ => ?_
 refine zk 3 ?_
 refine zl aP p0.L ?_
 refine zk 1 ?_
 refine ze [1, 2, 3, 6, 10, 11, 12, 134] ?_
 refine zi h (fun h => ?_) fun h => ?_
 refine aB ?_
 refine aQ h (fun A j => ∀ v25 v26 v27, j v25 v26 v27 = some r → A (mk [A6 1 p1, I6, M9, J8, J3 11 v25, A6 12 v18, A6 2 v26] [(0, E5 p0), (1, G4), (2, .blk 190 [I p0.Kind, .app 3 (List.map bL v27)]), C4 3 190 2 v27] 4)) (fun v25 v26 v27 h => ?_) (fun j20 Aj20 hj20 h => ?_)
 refine aW ?_
 refine zb ?_
 exact dF (zv [(0, 0), (1, 1), (2, 2), (3, 3)] [1, 2, 3, 6, 10, 11, 12] 4) (⟨_, _, _, _, h, rfl⟩)
 refine aG ?_
 refine zx fun _ => ?_
 refine zk 3 ?_
 obtain ⟨e21, he, h⟩ := aC h
 refine cZ (v := .c (J7 e21)) (foot := []) (dN (enc := aP) (sz := 4) (l := p0.L) (ix := v18) he (by kernel_rfl) (dR e21) (by kernel_rfl)) (by kernel_rfl) rfl rfl ?_
 clear he
 refine zk 4 ?_
 obtain ⟨y22, he, h⟩ := aC h
 refine zc Yx (ih_ref11_check _ _ _ y22 he) ?_
 clear he
 refine zk 8 ?_
 refine ze [1, 3, 6, 10, 11, 12, 13, 14, 15] ?_
 refine za [1, 2, 3, 6, 10, 11, 12, 13, 15] ?_
 refine aI ?_
 refine za [1, 2, 3, 6, 10, 11, 12, 13, 15, 152] ?_
 refine zi h (fun h => ?_) fun h => ?_
 refine za [6, 7, 8] ?_
 cases h
 exact aD zr
 refine aB ?_
 refine aI ?_
 refine za [1, 2, 3, 6, 10, 11, 12, 13, 157] ?_
 refine zi h (fun h => ?_) fun h => ?_
 exact aH (zv [(0, 0), (1, 1), (2, 2), (3, 3)] [1, 3, 6, 10, 11, 12, 2] 4) (bG (hj20 _ _ _ h))
 refine aB ?_
 refine aI ?_
 refine zx fun _ => ?_
 refine zk 2 ?_
 refine zl bL v19 ?_
 refine zk 1 ?_
 refine jY [1, 2, 3, 6, 10, 11, 12, 13, 161] (L2 := [A6 1 p1, I6, M9, J8, J3 11 v17, A6 12 v18, A1 13 22 0, A6 2 y22.2.1, (161, .c (Bo ((List.length v19 : Int) == 0)))]) (G2 := [(0, E5 p0), (1, G4), (2, .blk 190 [I p0.Kind, .app 3 (List.map bL v19)]), C4 3 190 2 v19, (22, I8 y22.1)]) 36 ?_
 refine zi h (fun h => ?_) fun h => ?_
 refine zx fun _ => ?_
 refine zk 1 ?_
 refine qR (e := 190) (sz := 2) (len := 1) (r := [I y22.1.Kind, F3 y22.1.Of]) (l' := List.map bL [y22.1]) (nm := 37) (by kernel_rfl) (by simp only [List.map_cons, List.map_nil, gG]; kernel_rfl) (by kernel_rfl) (by kernel_rfl) rfl rfl rfl ?_
 refine zk 2 ?_
 refine ze [1, 2, 3, 6, 10, 11, 12] ?_
 exact aH (zv [(0, 0), (1, 1), (2, 2), (37, 3)] [1, 3, 6, 10, 11, 12, 2] 4) (bG (hj20 _ _ _ h))
 refine aB ?_
 refine xI [[], [0], [1, 0], [2, 1, 0], [], [3, 4, 2, 1, 0], [5, 3, 4, 2, 1, 0], [6, 5, 3, 4, 2, 1, 0], [6, 5, 3, 4, 2, 1, 0], [], [9, 7, 5, 0, 1, 2, 3, 4, 6], [8, 10, 0, 1, 2, 3, 4, 5, 6, 7, 9]] fun _ => ?_
 refine zk 2 ?_
 obtain ⟨e23, he, h⟩ := aC h
 refine cZ (v := .c (M6 e23)) (foot := []) (dN (enc := bL) (sz := 2) (l := v19) (ix := 0) he (by kernel_rfl) (gG e23) (by kernel_rfl)) (by kernel_rfl) rfl rfl ?_
 clear he
 refine zk 2 ?_
 obtain ⟨y24, he, h⟩ := aC h
 refine zc Wj (Hl n _ _ y24 he) ?_
 clear he
 refine zk 6 ?_
 refine ze [1, 2, 3, 6, 10, 12, 16, 17] ?_
 refine za [1, 2, 3, 6, 10, 11, 12, 16] ?_
 refine aW ?_
 refine zy fun _ => ?_
 refine zk 1 ?_
 refine qR (e := 190) (sz := 2) (len := 1) (r := [I y24.1.Kind, F3 y24.1.Of]) (l' := List.map bL [y24.1]) (nm := 51) (by kernel_rfl) (by simp only [List.map_cons, List.map_nil, gG]; kernel_rfl) (by kernel_rfl) (by kernel_rfl) rfl rfl rfl ?_
 refine zk 2 ?_
 refine bV ?_
 exact dF (zv [(0, 0), (1, 1), (2, 2), (51, 3)] [1, 3, 6, 10, 11, 12, 2] 4) (hj20 _ _ _ h)
 exact aH (zv [(1, 0), (2, 1), (3, 2)] [2, 6, 10, 11] 3) (bG (hj2 _ _ _ h))
def dJ : Nat → aJ → Int → Int → Option (aX × Int × Int)
 | 0, _, _, _ => none
 | n + 1, p0, p1, p2 => dV (fun a0 a1 a2 => dJ n a0 a1 a2) n p0 p1 p2
theorem Gr (n : Nat) : (∀ (p0 : aJ) (p1 : Int) (p2 : Int) (r : (aX × Int × Int)), dJ n p0 p1 p2 = some r → cW E 143 0 [B8 p0, B7 p1, B7 p2] [] (.tup [C9 r.1, B7 r.2.1, B7 r.2.2]) []) := by
 induction n with
 | zero => intro p0 p1 p2 r h; rw [dJ] at h; cases h
 | succ n ih => intro p0 p1 p2 r h; rw [dJ] at h; exact xA _ ih n _ _ _ r h
def kR  (n : Nat) (p0 : aJ) : Option (aX × Int) := (dJ n p0 1 0).bind fun (y1 : (aX × Int × Int)) => some (y1.1, y1.2.2)
theorem Ct  (n : Nat) (p0 : aJ) (r : (aX × Int)) (h : kR n p0 = some r) : cW E 135 0 [B8 p0] [] (.tup [C9 r.1, B7 r.2]) [] := by
 refine eV Tryz.func135 rfl ?_
 unfold kR at h
 refine za [1, 2] ?_
 refine zx fun _ => ?_
 refine zk 1 ?_
 obtain ⟨y1, he, h⟩ := aC h
 refine zc Yx (Gr n _ _ _ y1 he) ?_
 clear he
 refine zk 8 ?_
 refine ze [2, 4, 6] ?_
 refine za [2, 3] ?_
 cases h
 exact aD zr
def jC  (n : Nat) (p0 : aJ) : Option Int := (kR n p0).bind fun (y1 : (aX × Int)) => some y1.2
theorem vM  (n : Nat) (p0 : aJ) (r : Int) (h : jC n p0 = some r) : cW E 124 0 [B8 p0] [] (B7 r) [] := by
 refine eV Tryz.func124 rfl ?_
 unfold jC at h
 refine za [1] ?_
 refine zx fun _ => ?_
 refine zk 1 ?_
 obtain ⟨y1, he, h⟩ := aC h
 refine zc fok135 (Ct n _ y1 he) ?_
 clear he
 refine zk 6 ?_
 refine ze [4] ?_
 refine za [2] ?_
 cases h
 exact aD zr
def fM (p0 : aL) (self_ref14_validate : aL → Int → Int → Option (Int × Int)) (p1 : Int) (j63 : Int → Option (Int × Int)) : Nat → Int → Int → Option (Int × Int)
 | 0, _, _ => none
 | n + 1, v66, v67 => (if (decide (v67 < (List.length p0.Kids : Int))) = true then (idx p0.Kids v67).bind fun (e68 : aL) => (self_ref14_validate e68 (IntKind.wrap .i64 (p1 + 1)) v66).bind fun (y69 : (Int × Int)) => (if (y69.2 != 0) = true then some (y69.1, y69.2) else fM p0 self_ref14_validate p1 j63 n y69.1 (IntKind.wrap .i64 (v67 + 1))) else j63 v66)
def fG (v52 : Int) (p0 : aL) (p2 : Int) (j53 : Unit → Option (Int × Int)) (p1 : Int) : Nat → Int → Option (Int × Int)
 | 0, _ => none
 | n + 1, v57 => (if (decide (v57 < v52)) = true then (idx p0.Kids v52).bind fun (e58 : aL) => (gd [(!(bQ e58.Key (⟨#[]⟩ : ByteArray)))] (idx p0.Kids v52)).bind fun (e59 : aL) => (gd [(!(bQ e58.Key (⟨#[]⟩ : ByteArray)))] (idx p0.Kids v57)).bind fun (e60 : aL) => (if ((!(bQ e58.Key (⟨#[]⟩ : ByteArray))) && (bQ e59.Key e60.Key)) = true then some ((IntKind.wrap .i64 (p2 + 1)), 6) else fG v52 p0 p2 j53 p1 n (IntKind.wrap .i64 (v57 + 1))) else j53 ())
def fN (p0 : aL) (p2 : Int) (p1 : Int) (j42 : Unit → Option (Int × Int)) : Nat → Int → Option (Int × Int)
 | 0, _ => none
 | n + 1, v52 => (if (decide (v52 < (List.length p0.Kids : Int))) = true then (aS (fun (_ : Unit) => fN p0 p2 p1 j42 n (IntKind.wrap .i64 (v52 + 1))) (fun (j53 : Unit → Option (Int × Int)) => fG v52 p0 p2 j53 p1 n 0)) else j42 ())
def fE (e31 : cR) (p2 : Int) (j30 : Unit → Option (Int × Int)) (p1 : Int) (v29 : Int) (p0 : aL) : Nat → Int → Option (Int × Int)
 | 0, _ => none
 | n + 1, v37 => (if (decide (v37 < (List.length e31.Args : Int))) = true then (idx e31.Args v37).bind fun (e38 : aJ) => (jC n e38).bind fun (y39 : Int) => (if (y39 != 0) = true then some ((IntKind.wrap .i64 (p2 + 1)), y39) else fE e31 p2 j30 p1 v29 p0 n (IntKind.wrap .i64 (v37 + 1))) else j30 ())
def dC (p0 : aL) (p2 : Int) (p1 : Int) (j17 : Unit → Option (Int × Int)) : Nat → Int → Option (Int × Int)
 | 0, _ => none
 | n + 1, v29 => (if (decide (v29 < (List.length p0.Actions : Int))) = true then (aS (fun (_ : Unit) => dC p0 p2 p1 j17 n (IntKind.wrap .i64 (v29 + 1))) (fun (j30 : Unit → Option (Int × Int)) => (idx p0.Actions v29).bind fun (e31 : cR) => (dQ n e31.Event).bind fun (y32 : Bool) => (gd [(!(!y32))] (dQ n e31.Handler)).bind fun (y33 : Bool) => (if ((!y32) || (!y33)) = true then some ((IntKind.wrap .i64 (p2 + 1)), 4) else (gd [(decide (v29 > 0))] (idx p0.Actions (IntKind.wrap .i64 (v29 - 1)))).bind fun (e34 : cR) => (if ((decide (v29 > 0)) && (Nh e31.Event e34.Event)) = true then some ((IntKind.wrap .i64 (p2 + 1)), 10) else (if ((decide ((ByteArray.size e31.Instance : Int) > 400)) || (decide ((List.length e31.Args : Int) > 100))) = true then some ((IntKind.wrap .i64 (p2 + 1)), 2) else fE e31 p2 j30 p1 v29 p0 n 0))))) else j17 ())
def fR (p0 : aL) (p2 : Int) (j2 : Unit → Option (Int × Int)) (p1 : Int) : Nat → Int → Option (Int × Int)
 | 0, _ => none
 | n + 1, v9 => (if (decide (v9 < (List.length p0.Attrs : Int))) = true then (idx p0.Attrs v9).bind fun (e10 : bF) => (dQ n e10.Name).bind fun (y11 : Bool) => (if (!y11) = true then some ((IntKind.wrap .i64 (p2 + 1)), 4) else (gd [(decide (v9 > 0))] (idx p0.Attrs v9)).bind fun (e12 : bF) => (gd [(decide (v9 > 0))] (idx p0.Attrs (IntKind.wrap .i64 (v9 - 1)))).bind fun (e13 : bF) => (if ((decide (v9 > 0)) && (Nh e12.Name e13.Name)) = true then some ((IntKind.wrap .i64 (p2 + 1)), 10) else (idx p0.Attrs v9).bind fun (e14 : bF) => (jC n e14.Value).bind fun (y15 : Int) => (if (y15 != 0) = true then some ((IntKind.wrap .i64 (p2 + 1)), y15) else fR p0 p2 j2 p1 n (IntKind.wrap .i64 (v9 + 1))))) else j2 ())
def jV (self_ref14_validate : aL → Int → Int → Option (Int × Int)) (n : Nat) (p0 : aL) (p1 : Int) (p2 : Int) : Option (Int × Int) := (if (decide (p1 > 16)) = true then some ((IntKind.wrap .i64 (p2 + 1)), 8) else (if (decide ((IntKind.wrap .i64 (p2 + 1)) > 400)) = true then some ((IntKind.wrap .i64 (p2 + 1)), 2) else (if ((decide (p0.Kind < 1)) || (decide (p0.Kind > 13))) = true then some ((IntKind.wrap .i64 (p2 + 1)), 9) else (wY n p0.Key).bind fun (y1 : Bool) => (if (!y1) = true then some ((IntKind.wrap .i64 (p2 + 1)), 4) else (if (((decide ((List.length p0.Attrs : Int) > 24)) || (decide ((List.length p0.Actions : Int) > 24))) || (decide ((List.length p0.Kids : Int) > 100))) = true then some ((IntKind.wrap .i64 (p2 + 1)), 2) else (aS (fun (_ : Unit) => (aS (fun (_ : Unit) => (aS (fun (_ : Unit) => (aS (fun (v72 : Int) => some (v72, 0)) (fun (j63 : Int → Option (Int × Int)) => fM p0 self_ref14_validate p1 j63 n (IntKind.wrap .i64 (p2 + 1)) 0))) (fun (j42 : Unit → Option (Int × Int)) => fN p0 p2 p1 j42 n 0))) (fun (j17 : Unit → Option (Int × Int)) => dC p0 p2 p1 j17 n 0))) (fun (j2 : Unit → Option (Int × Int)) => fR p0 p2 j2 p1 n 0)))))))
theorem uC (self_ref14_validate : aL → Int → Int → Option (O6)) (ih_ref14_validate : ∀ (p0 : aL) (p1 : Int) (p2 : Int) (r : (O6)), self_ref14_validate p0 p1 p2 = some r → cW E 98 0 [B2 p0, B7 p1, B7 p2] [] (.tup [B7 r.1, B7 r.2]) []) (n : Nat) (p0 : aL) (p1 : Int) (p2 : Int) (r : (O6)) (h : jV self_ref14_validate n p0 p1 p2 = some r) : cW E 98 0 [B2 p0, B7 p1, B7 p2] [] (.tup [B7 r.1, B7 r.2]) [] := by
 refine eV Tryz.func98 rfl ?_
 unfold jV at h
 refine za [1, 2, 3] ?_
 refine za [1, 2, 3] ?_
 refine aI ?_
 refine za [1, 2, 3, 22] ?_
 refine zi h (fun h => ?_) fun h => ?_
 refine za [6, 7] ?_
 cases h
 exact aD zr
 refine aB ?_
 refine aI ?_
 refine za [1, 2, 3, 25] ?_
 refine zi h (fun h => ?_) fun h => ?_
 refine za [6, 7] ?_
 cases h
 exact aD zr
 refine aB ?_
 refine aI ?_
 refine zx fun _ => ?_
 refine zk 4 ?_
 refine zE (B9 0 0) ?_
 refine zE (B7 p0.Kind) ?_
 refine zE (J5 p0.Kind 13) ?_
 refine zP (.bool (A3 p0.Kind 1 13)) ?_
 refine ze [1, 2, 3, 34] ?_
 refine zi h (fun h => ?_) fun h => ?_
 refine za [6, 7] ?_
 cases h
 exact aD zr
 refine aB ?_
 refine aI ?_
 refine zx fun _ => ?_
 refine zk 2 ?_
 obtain ⟨y1, he, h⟩ := aC h
 refine zc fok123 (Lc n _ y1 he) ?_
 clear he
 refine zk 1 ?_
 refine jY [1, 2, 3, 39] (L2 := [A6 1 p1, K2 p2, I6, (39, B3 (!y1))]) (G2 := [(0, B0 p0)]) 22 ?_
 refine zi h (fun h => ?_) fun h => ?_
 refine za [6, 7] ?_
 cases h
 exact aD zr
 refine aB ?_
 refine aI ?_
 refine zx fun _ => ?_
 refine zk 2 ?_
 refine zl aM p0.Attrs ?_
 refine zk 2 ?_
 refine zE (B9 0 3) ?_
 refine zE (P0 p0.Actions) ?_
 refine jZ (e := [(!(decide ((List.length p0.Attrs : Int) > 24)))]) [(47, P0 p0.Actions, some 1)] (v := .c (I (List.length p0.Actions : Int))) (foot := []) (by kernel_rfl) (by kernel_rfl) (by kernel_rfl) (fun hg => lN (enc := aF) (l := p0.Actions) (by kernel_rfl)) rfl rfl ?_
 refine zE (.c (Bo (decide ((List.length p0.Actions : Int) > 24)))) ?_
 refine zP (.bool ((decide ((List.length p0.Attrs : Int) > 24)) || (decide ((List.length p0.Actions : Int) > 24)))) ?_
 refine zk 1 ?_
 refine zE (B9 0 4) ?_
 refine zE (.c (G6 p0.Kids)) ?_
 refine jZ (e := [(!((decide ((List.length p0.Attrs : Int) > 24)) || (decide ((List.length p0.Actions : Int) > 24))))]) [(53, .c (G6 p0.Kids), some 1)] (v := .c (I (List.length p0.Kids : Int))) (foot := []) (by kernel_rfl) (by kernel_rfl) (by kernel_rfl) (fun hg => lN (enc := bC) (l := p0.Kids) (by kernel_rfl)) rfl rfl ?_
 refine zE (.c (Bo (decide ((List.length p0.Kids : Int) > 100)))) ?_
 refine zP (.bool (((decide ((List.length p0.Attrs : Int) > 24)) || (decide ((List.length p0.Actions : Int) > 24))) || (decide ((List.length p0.Kids : Int) > 100)))) ?_
 refine jY [1, 2, 3, 56] (L2 := [A6 1 p1, K2 p2, I6, (56, .c (Bo (((decide ((List.length p0.Attrs : Int) > 24)) || (decide ((List.length p0.Actions : Int) > 24))) || (decide ((List.length p0.Kids : Int) > 100)))))]) (G2 := [(0, B0 p0)]) 38 ?_
 refine zi h (fun h => ?_) fun h => ?_
 refine za [6, 7] ?_
 cases h
 exact aD zr
 refine aB ?_
 refine aQ h (fun A j => ∀ u, j u = some r → A (mk [A6 1 p1, K2 p2, I6] [(0, B0 p0)] 1)) (fun u h => ?_) (fun j2 Aj2 hj2 h => ?_)
 refine aQ h (fun A j => ∀ u, j u = some r → A (mk [A6 1 p1, K2 p2, I6] [(0, B0 p0)] 1)) (fun u h => ?_) (fun j17 Aj17 hj17 h => ?_)
 refine aQ h (fun A j => ∀ u, j u = some r → A (mk [A6 1 p1, K2 p2, I6] [(0, B0 p0)] 1)) (fun u h => ?_) (fun j42 Aj42 hj42 h => ?_)
 refine aQ h (fun A j => ∀ v72, j v72 = some r → A (mk [A6 2 v72] [] 0)) (fun v72 h => ?_) (fun j63 Aj63 hj63 h => ?_)
 refine za [6, 7] ?_
 cases h
 exact aD zr
 refine za [1, 2, 3, 16] ?_
 refine aG ?_
 refine bA (fun n s => ∃ v66 v67, fM p0 self_ref14_validate p1 j63 n v66 v67 = some r ∧ s = mk [A6 1 p1, A6 2 v66, I6, A6 16 v67] [(0, B0 p0)] 1) n _ (zv [(0, 0)] [1, 2, 3, 16] 1) ⟨_, _, h, rfl⟩ (fun s ⟨v66, v67, h, _⟩ => nomatch h) ?_
 rintro n s ⟨v66, v67, h, rfl⟩
 rw [fM] at h
 refine aI ?_
 refine zx fun _ => ?_
 refine zk 3 ?_
 refine zl bC p0.Kids ?_
 refine zk 1 ?_
 refine ze [1, 2, 3, 16, 209] ?_
 refine zi h (fun h => ?_) fun h => ?_
 refine aB ?_
 refine aI ?_
 refine aG ?_
 refine zx fun _ => ?_
 refine zk 3 ?_
 obtain ⟨e68, he, h⟩ := aC h
 refine cZ (v := .c (E9 e68)) (foot := []) (dN (enc := bC) (sz := 5) (l := p0.Kids) (ix := v67) he (by kernel_rfl) (gD e68) (by kernel_rfl)) (by kernel_rfl) rfl rfl ?_
 clear he
 refine zk 4 ?_
 obtain ⟨y69, he, h⟩ := aC h
 refine zc fok98 (ih_ref14_validate _ _ _ y69 he) ?_
 clear he
 refine zk 5 ?_
 refine ze [1, 3, 16, 17, 18] ?_
 refine za [1, 2, 3, 16, 18] ?_
 refine za [1, 2, 3, 16, 18, 226] ?_
 refine zi h (fun h => ?_) fun h => ?_
 refine za [6, 7] ?_
 cases h
 exact aD zr
 refine aB ?_
 refine aW ?_
 refine zb ?_
 exact dF (zv [(0, 0)] [1, 2, 3, 16] 1) (⟨_, _, h, rfl⟩)
 exact aH (zv [] [2] 0) (bG (hj63 _ h))
 refine za [1, 2, 3, 14] ?_
 refine aG ?_
 refine bA (fun n s => ∃ v52, fN p0 p2 p1 j42 n v52 = some r ∧ s = mk [A6 1 p1, K2 p2, I6, A6 14 v52] [(0, B0 p0)] 1) n _ (zv [(0, 0)] [1, 2, 3, 14] 1) ⟨_, h, rfl⟩ (fun s ⟨v52, h, _⟩ => nomatch h) ?_
 rintro n s ⟨v52, h, rfl⟩
 rw [fN] at h
 refine aI ?_
 refine zx fun _ => ?_
 refine zk 3 ?_
 refine zl bC p0.Kids ?_
 refine zk 1 ?_
 refine ze [1, 2, 3, 14, 174] ?_
 refine zi h (fun h => ?_) fun h => ?_
 refine aB ?_
 refine aQ h (fun A j => ∀ u, j u = some r → A (mk [A6 1 p1, K2 p2, I6, A6 14 v52] [(0, B0 p0)] 1)) (fun u h => ?_) (fun j53 Aj53 hj53 h => ?_)
 refine aW ?_
 refine zb ?_
 exact dF (zv [(0, 0)] [1, 2, 3, 14] 1) (⟨_, h, rfl⟩)
 refine aG ?_
 refine za [1, 2, 3, 14, 15] ?_
 refine aG ?_
 refine bA (fun n s => ∃ v57, fG v52 p0 p2 j53 p1 n v57 = some r ∧ s = mk [A6 1 p1, K2 p2, I6, A6 14 v52, A6 15 v57] [(0, B0 p0)] 1) n _ (zv [(0, 0)] [1, 2, 3, 14, 15] 1) ⟨_, h, rfl⟩ (fun s ⟨v57, h, _⟩ => nomatch h) ?_
 rintro n s ⟨v57, h, rfl⟩
 rw [fG] at h
 refine aI ?_
 refine za [1, 2, 3, 14, 15, 179] ?_
 refine zi h (fun h => ?_) fun h => ?_
 refine aB ?_
 refine aI ?_
 refine aG ?_
 refine xI [[], [0], [], [1, 2, 0], [3, 1, 2, 0], [4, 3, 1, 2, 0], [5, 4, 3, 1, 2, 0], [6, 5, 4, 3, 1, 2, 0], [7, 6, 5, 4, 3, 1, 2, 0], [8, 7, 6, 5, 4, 3, 1, 2, 0], [7, 6, 5, 4, 3, 1, 2, 0], [9, 10, 7, 8, 6, 5, 4, 3, 1, 2, 0], [11, 7, 9, 10, 8, 6, 5, 4, 3, 1, 2, 0], [12, 7, 11, 9, 10, 8, 6, 5, 4, 3, 1, 2, 0], [7, 6, 5, 4, 3, 1, 2, 0], [14, 7, 6, 5, 4, 3, 1, 2, 0], [7, 6, 5, 4, 3, 1, 2, 0], [15, 16, 7, 14, 6, 5, 4, 3, 1, 2, 0], [17, 7, 15, 16, 14, 6, 5, 4, 3, 1, 2, 0], [18, 7, 17, 15, 16, 14, 6, 5, 4, 3, 1, 2, 0], [13, 19, 7, 12, 11, 9, 10, 8, 6, 5, 4, 3, 1, 2, 0, 18, 17, 15, 16, 14], [7, 20, 6, 5, 4, 3, 1, 2, 0, 13, 19, 12, 11, 9, 10, 8, 18, 17, 15, 16, 14]] fun _ => ?_
 refine zk 3 ?_
 obtain ⟨e58, he, h⟩ := aC h
 refine cZ (v := .c (E9 e58)) (foot := []) (dN (enc := bC) (sz := 5) (l := p0.Kids) (ix := v52) he (by kernel_rfl) (gD e58) (by kernel_rfl)) (by kernel_rfl) rfl rfl ?_
 clear he
 refine zk 4 ?_
 refine zE (B9 0 4) ?_
 refine zE (.c (G6 p0.Kids)) ?_
 refine zE (B7 v52) ?_
 obtain ⟨e59, he, h⟩ := aC h
 refine jZ (e := [(!(bQ e58.Key (⟨#[]⟩ : ByteArray)))]) [(191, .c (G6 p0.Kids), some 1), (192, B7 v52, some 1)] (v := .c (E9 e59)) (foot := []) (by kernel_rfl) (by kernel_rfl) (by kernel_rfl) (fun hg => dN (enc := bC) (sz := 5) (l := p0.Kids) (ix := v52) (bR he hg) (by kernel_rfl) (gD e59) (by kernel_rfl)) rfl rfl ?_
 clear he
 refine zE (.c (.imm [Sx e59.Key, C7 e59.Attrs, D3 e59.Actions, G6 e59.Kids])) ?_
 refine zE (F0 e59.Key) ?_
 refine zE (B9 0 4) ?_
 refine zE (.c (G6 p0.Kids)) ?_
 refine zE (B7 v57) ?_
 obtain ⟨e60, he, h⟩ := aC h
 refine jZ (e := [(!(bQ e58.Key (⟨#[]⟩ : ByteArray)))]) [(197, .c (G6 p0.Kids), some 1), (198, B7 v57, some 1)] (v := .c (E9 e60)) (foot := []) (by kernel_rfl) (by kernel_rfl) (by kernel_rfl) (fun hg => dN (enc := bC) (sz := 5) (l := p0.Kids) (ix := v57) (bR he hg) (by kernel_rfl) (gD e60) (by kernel_rfl)) rfl rfl ?_
 clear he
 refine zE (.c (.imm [Sx e60.Key, C7 e60.Attrs, D3 e60.Actions, G6 e60.Kids])) ?_
 refine zE (F0 e60.Key) ?_
 refine zE (B3 (bQ e59.Key e60.Key)) ?_
 refine zP (.bool ((!(bQ e58.Key (⟨#[]⟩ : ByteArray))) && (bQ e59.Key e60.Key))) ?_
 refine jY [1, 2, 3, 14, 15, 203] (L2 := [A6 1 p1, K2 p2, I6, A6 14 v52, A6 15 v57, (203, .c (Bo ((!(bQ e58.Key (⟨#[]⟩ : ByteArray))) && (bQ e59.Key e60.Key))))]) (G2 := [(0, B0 p0)]) 26 ?_
 refine zi h (fun h => ?_) fun h => ?_
 refine za [6, 7] ?_
 cases h
 exact aD zr
 refine aB ?_
 refine aW ?_
 refine zb ?_
 exact dF (zv [(0, 0)] [1, 2, 3, 14, 15] 1) (⟨_, h, rfl⟩)
 exact aH (zv [(0, 0)] [1, 2, 3, 14] 1) (bG (hj53 _ h))
 exact aH (zv [(0, 0)] [1, 2, 3] 1) (bG (hj42 _ h))
 refine za [1, 2, 3, 10] ?_
 refine aG ?_
 refine bA (fun n s => ∃ v29, dC p0 p2 p1 j17 n v29 = some r ∧ s = mk [A6 1 p1, K2 p2, I6, A6 10 v29] [(0, B0 p0)] 1) n _ (zv [(0, 0)] [1, 2, 3, 10] 1) ⟨_, h, rfl⟩ (fun s ⟨v29, h, _⟩ => nomatch h) ?_
 rintro n s ⟨v29, h, rfl⟩
 rw [dC] at h
 refine aI ?_
 refine zx fun _ => ?_
 refine zk 3 ?_
 refine zl aF p0.Actions ?_
 refine zk 1 ?_
 refine ze [1, 2, 3, 10, 108] ?_
 refine zi h (fun h => ?_) fun h => ?_
 refine aB ?_
 refine aQ h (fun A j => ∀ u, j u = some r → A (mk [A6 1 p1, K2 p2, I6, A6 10 v29] [(0, B0 p0)] 1)) (fun u h => ?_) (fun j30 Aj30 hj30 h => ?_)
 refine aW ?_
 refine zb ?_
 exact dF (zv [(0, 0)] [1, 2, 3, 10] 1) (⟨_, h, rfl⟩)
 refine aG ?_
 refine zx fun _ => ?_
 refine zk 3 ?_
 obtain ⟨e31, he, h⟩ := aC h
 refine zd aF he ?_
 clear he
 refine zk 3 ?_
 refine ze [1, 2, 3, 10, 11] ?_
 refine aI ?_
 refine zx fun _ => ?_
 refine zk 2 ?_
 obtain ⟨y32, he, h⟩ := aC h
 refine zc xN (jS n _ y32 he) ?_
 clear he
 refine zk 2 ?_
 refine zE (B9 11 2) ?_
 refine zE (F0 e31.Handler) ?_
 obtain ⟨y33, he, h⟩ := aC h
 refine An [!(!y32)] xN (fun hg => jS n _ y33 (bR he hg)) ?_
 clear he
 refine zE (B3 (!y33)) ?_
 refine zP (.bool ((!y32) || (!y33))) ?_
 refine jY [1, 2, 3, 10, 11, 125] (L2 := [A6 1 p1, K2 p2, I6, A6 10 v29, A1 11 11 0, (125, B3 ((!y32) || (!y33)))]) (G2 := [(0, B0 p0), (11, G7 e31)]) 23 ?_
 refine zi h (fun h => ?_) fun h => ?_
 refine za [6, 7] ?_
 cases h
 exact aD zr
 refine aB ?_
 refine aI ?_
 refine xI [[], [0], [1, 0], [2, 1, 0], [3, 2, 1, 0], [2, 1, 0], [5, 2, 1, 0], [2, 1, 0], [7, 2, 1, 0], [6, 8, 2, 5, 1, 0, 7], [9, 2, 6, 8, 5, 1, 0, 7], [10, 2, 9, 6, 8, 5, 1, 0, 7], [4, 11, 2, 3, 1, 0, 10, 9, 6, 8, 5, 7], [2, 12, 1, 0, 4, 11, 3, 10, 9, 6, 8, 5, 7]] fun _ => ?_
 refine zk 3 ?_
 refine zE (B9 11 0) ?_
 refine zE (F0 e31.Event) ?_
 refine zE (B9 0 3) ?_
 refine zE (P0 p0.Actions) ?_
 refine zE (B7 v29) ?_
 refine zE (B7 (F5 v29)) ?_
 obtain ⟨e34, he, h⟩ := aC h
 refine jZ (e := [D5 v29 0]) [(133, P0 p0.Actions, some 1), (135, B7 (F5 v29), some 1)] (v := .c (K6 e34)) (foot := []) (by kernel_rfl) (by kernel_rfl) (by kernel_rfl) (fun hg => dN (enc := aF) (sz := 4) (l := p0.Actions) (ix := (F5 v29)) (bR he hg) (by kernel_rfl) (by kernel_rfl) (by kernel_rfl)) rfl rfl ?_
 clear he
 refine zE (.c (K6 e34)) ?_
 refine zE (F0 e34.Event) ?_
 refine zE (B3 (Nh e31.Event e34.Event)) ?_
 refine zP (.bool ((D5 v29 0) && (Nh e31.Event e34.Event))) ?_
 refine jY [1, 2, 3, 10, 11, 140] (L2 := [A6 1 p1, K2 p2, I6, A6 10 v29, A1 11 11 0, (140, B3 ((D5 v29 0) && (Nh e31.Event e34.Event)))]) (G2 := [(0, B0 p0), (11, G7 e31)]) 37 ?_
 refine zi h (fun h => ?_) fun h => ?_
 refine za [6, 7] ?_
 cases h
 exact aD zr
 refine aB ?_
 refine aI ?_
 refine zx fun _ => ?_
 refine zk 5 ?_
 refine zE (B9 11 3) ?_
 refine zE (M7 e31.Args) ?_
 refine jZ (e := [(!(decide ((ByteArray.size e31.Instance : Int) > 400)))]) [(148, M7 e31.Args, some 1)] (v := .c (I (List.length e31.Args : Int))) (foot := []) (by kernel_rfl) (by kernel_rfl) (by kernel_rfl) (fun hg => lN (enc := aP) (l := e31.Args) (by kernel_rfl)) rfl rfl ?_
 refine zE (.c (Bo (decide ((List.length e31.Args : Int) > 100)))) ?_
 refine zP (.bool ((decide ((ByteArray.size e31.Instance : Int) > 400)) || (decide ((List.length e31.Args : Int) > 100)))) ?_
 refine ze [1, 2, 3, 10, 11, 151] ?_
 refine zi h (fun h => ?_) fun h => ?_
 refine za [6, 7] ?_
 cases h
 exact aD zr
 refine aB ?_
 refine za [1, 2, 3, 10, 11, 12] ?_
 refine aG ?_
 refine bA (fun n s => ∃ v37, fE e31 p2 j30 p1 v29 p0 n v37 = some r ∧ s = mk [A6 1 p1, K2 p2, I6, A6 10 v29, A1 11 1 0, A6 12 v37] [(0, B0 p0), (1, G7 e31)] 2) n _ (zv [(0, 0), (11, 1)] [1, 2, 3, 10, 11, 12] 2) ⟨_, h, rfl⟩ (fun s ⟨v37, h, _⟩ => nomatch h) ?_
 rintro n s ⟨v37, h, rfl⟩
 rw [fE] at h
 refine aI ?_
 refine zx fun _ => ?_
 refine zk 3 ?_
 refine zl aP e31.Args ?_
 refine zk 1 ?_
 refine ze [1, 2, 3, 10, 11, 12, 157] ?_
 refine zi h (fun h => ?_) fun h => ?_
 refine aB ?_
 refine aI ?_
 refine aG ?_
 refine zx fun _ => ?_
 refine zk 3 ?_
 obtain ⟨e38, he, h⟩ := aC h
 refine cZ (v := .c (J7 e38)) (foot := []) (dN (enc := aP) (sz := 4) (l := e31.Args) (ix := v37) he (by kernel_rfl) (dR e38) (by kernel_rfl)) (by kernel_rfl) rfl rfl ?_
 clear he
 refine zk 1 ?_
 obtain ⟨y39, he, h⟩ := aC h
 refine zc Yi (vM n _ y39 he) ?_
 clear he
 refine zk 1 ?_
 refine ze [1, 2, 3, 10, 11, 12, 13] ?_
 refine za [1, 2, 3, 10, 11, 12, 13, 167] ?_
 refine zi h (fun h => ?_) fun h => ?_
 refine za [6, 7] ?_
 cases h
 exact aD zr
 refine aB ?_
 refine aW ?_
 refine zb ?_
 exact dF (zv [(0, 0), (1, 1)] [1, 2, 3, 10, 11, 12] 2) (⟨_, h, rfl⟩)
 exact aH (zv [(0, 0)] [1, 2, 3, 10] 1) (bG (hj30 _ h))
 exact aH (zv [(0, 0)] [1, 2, 3] 1) (bG (hj17 _ h))
 refine za [1, 2, 3, 8] ?_
 refine aG ?_
 refine bA (fun n s => ∃ v9, fR p0 p2 j2 p1 n v9 = some r ∧ s = mk [A6 1 p1, K2 p2, I6, A6 8 v9] [(0, B0 p0)] 1) n _ (zv [(0, 0)] [1, 2, 3, 8] 1) ⟨_, h, rfl⟩ (fun s ⟨v9, h, _⟩ => nomatch h) ?_
 rintro n s ⟨v9, h, rfl⟩
 rw [fR] at h
 refine aI ?_
 refine zx fun _ => ?_
 refine zk 3 ?_
 refine zl aM p0.Attrs ?_
 refine zk 1 ?_
 refine ze [1, 2, 3, 8, 62] ?_
 refine zi h (fun h => ?_) fun h => ?_
 refine aB ?_
 refine aI ?_
 refine aG ?_
 refine aI ?_
 refine zx fun _ => ?_
 refine zk 3 ?_
 obtain ⟨e10, he, h⟩ := aC h
 refine zd aM he ?_
 clear he
 refine zk 2 ?_
 obtain ⟨y11, he, h⟩ := aC h
 refine zc xN (jS n _ y11 he) ?_
 clear he
 refine zk 1 ?_
 refine ze [1, 2, 3, 8, 72] ?_
 refine zi h (fun h => ?_) fun h => ?_
 refine za [6, 7] ?_
 cases h
 exact aD zr
 refine aB ?_
 refine aI ?_
 refine xI [[], [0], [1, 0], [2, 1, 0], [3, 2, 1, 0], [2, 1, 0], [4, 5, 2, 3, 1, 0], [6, 2, 4, 5, 3, 1, 0], [7, 2, 6, 4, 5, 3, 1, 0], [2, 1, 0], [9, 2, 1, 0], [2, 1, 0], [11, 2, 1, 0], [10, 12, 2, 9, 1, 0, 11], [13, 2, 10, 12, 9, 1, 0, 11], [14, 2, 13, 10, 12, 9, 1, 0, 11], [8, 15, 2, 7, 6, 4, 5, 3, 1, 0, 14, 13, 10, 12, 9, 11], [2, 16, 1, 0, 8, 15, 7, 6, 4, 5, 3, 14, 13, 10, 12, 9, 11]] fun _ => ?_
 refine zk 3 ?_
 refine zE (B9 0 2) ?_
 refine zE (.c (C7 p0.Attrs)) ?_
 refine zE (B7 v9) ?_
 obtain ⟨e12, he, h⟩ := aC h
 refine jZ (e := [D5 v9 0]) [(78, .c (C7 p0.Attrs), some 1), (79, B7 v9, some 1)] (v := .c (G8 e12.Name e12.Value)) (foot := []) (by kernel_rfl) (by kernel_rfl) (by kernel_rfl) (fun hg => dN (enc := aM) (sz := 5) (l := p0.Attrs) (ix := v9) (bR he hg) (by kernel_rfl) (by kernel_rfl) (by kernel_rfl)) rfl rfl ?_
 clear he
 refine zE (.c (G8 e12.Name e12.Value)) ?_
 refine zE (F0 e12.Name) ?_
 refine zE (B9 0 2) ?_
 refine zE (.c (C7 p0.Attrs)) ?_
 refine zE (B7 v9) ?_
 refine zE (B7 (F5 v9)) ?_
 obtain ⟨e13, he, h⟩ := aC h
 refine jZ (e := [D5 v9 0]) [(84, .c (C7 p0.Attrs), some 1), (86, B7 (F5 v9), some 1)] (v := .c (G8 e13.Name e13.Value)) (foot := []) (by kernel_rfl) (by kernel_rfl) (by kernel_rfl) (fun hg => dN (enc := aM) (sz := 5) (l := p0.Attrs) (ix := (F5 v9)) (bR he hg) (by kernel_rfl) (by kernel_rfl) (by kernel_rfl)) rfl rfl ?_
 clear he
 refine zE (.c (G8 e13.Name e13.Value)) ?_
 refine zE (F0 e13.Name) ?_
 refine zE (B3 (Nh e12.Name e13.Name)) ?_
 refine zP (.bool ((D5 v9 0) && (Nh e12.Name e13.Name))) ?_
 refine jY [1, 2, 3, 8, 91] (L2 := [A6 1 p1, K2 p2, I6, A6 8 v9, (91, B3 ((D5 v9 0) && (Nh e12.Name e13.Name)))]) (G2 := [(0, B0 p0)]) 32 ?_
 refine zi h (fun h => ?_) fun h => ?_
 refine za [6, 7] ?_
 cases h
 exact aD zr
 refine aB ?_
 refine zx fun _ => ?_
 refine zk 3 ?_
 obtain ⟨e14, he, h⟩ := aC h
 refine zd aM he ?_
 clear he
 refine zk 2 ?_
 obtain ⟨y15, he, h⟩ := aC h
 refine zc Yi (vM n _ y15 he) ?_
 clear he
 refine zk 1 ?_
 refine ze [1, 2, 3, 8, 9] ?_
 refine za [1, 2, 3, 8, 9, 101] ?_
 refine zi h (fun h => ?_) fun h => ?_
 refine za [6, 7] ?_
 cases h
 exact aD zr
 refine aB ?_
 refine aW ?_
 refine zb ?_
 exact dF (zv [(0, 0)] [1, 2, 3, 8] 1) (⟨_, h, rfl⟩)
 exact aH (zv [(0, 0)] [1, 2, 3] 1) (bG (hj2 _ h))
def fQ : Nat → aL → Int → Int → Option (Int × Int)
 | 0, _, _, _ => none
 | n + 1, p0, p1, p2 => jV (fun a0 a1 a2 => fQ n a0 a1 a2) n p0 p1 p2
theorem zY (n : Nat) : (∀ (p0 : aL) (p1 : Int) (p2 : Int) (r : (O6)), fQ n p0 p1 p2 = some r → cW E 98 0 [B2 p0, B7 p1, B7 p2] [] (.tup [B7 r.1, B7 r.2]) []) := by
 induction n with
 | zero => intro p0 p1 p2 r h; rw [fQ] at h; cases h
 | succ n ih => intro p0 p1 p2 r h; rw [fQ] at h; exact uC _ ih n _ _ _ r h
def iR  (n : Nat) (p0 : aL) : Option Int := (fQ n p0 1 0).bind fun (y1 : (Int × Int)) => some y1.2
theorem nQ  (n : Nat) (p0 : aL) (r : Int) (h : iR n p0 = some r) : cW E 59 0 [B2 p0] [] (B7 r) [] := by
 refine eV Tryz.func59 rfl ?_
 unfold iR at h
 refine za [1] ?_
 refine zx fun _ => ?_
 refine zk 1 ?_
 obtain ⟨y1, he, h⟩ := aC h
 refine zc fok98 (zY n _ _ _ y1 he) ?_
 clear he
 refine zk 5 ?_
 refine ze [4] ?_
 refine za [2] ?_
 cases h
 exact aD zr
def wJ  (n : Nat) (p0 : aO) (p1 : Int) : Option (aL × aO) := (pO n p0 p1).bind fun (y1 : (aL × aO)) => (iR n y1.1).bind fun (y2 : Int) => (if (y2 != 0) = true then some ((aL.mk 1 (⟨#[]⟩ : ByteArray) ([] : List bF) ([] : List cR) ([] : List aL)), y1.2) else some (y1.1, y1.2))
theorem Nr  (n : Nat) (p0 : aO) (p1 : Int) (r : (aL × aO)) (h : wJ n p0 p1 = some r) : cW E 27 1 [B9 0 0, B7 p1] [E4 p0] (B2 r.1) [E4 r.2] := by
 refine eV Tryz.func27 rfl ?_
 unfold wJ at h
 refine za [0, 1, 4] ?_
 refine zx fun _ => ?_
 refine zk 2 ?_
 obtain ⟨y1, he, h⟩ := aC h
 refine zo [(0, 0)] fok58 (Nc n _ _ y1 he) ?_
 clear he
 refine zk 2 ?_
 refine ze [4, 5] ?_
 refine aI ?_
 refine zx fun _ => ?_
 refine zk 1 ?_
 obtain ⟨y2, he, h⟩ := aC h
 refine zc Yv (nQ n _ y2 he) ?_
 clear he
 refine zk 1 ?_
 refine ze [4, 5, 11] ?_
 refine zi h (fun h => ?_) fun h => ?_
 refine za [4] ?_
 cases h
 exact aD zr
 refine aB ?_
 refine za [4] ?_
 cases h
 exact aD zr
end Go.Proofs.YtojkihhnioeggaaGreatDoor.S
