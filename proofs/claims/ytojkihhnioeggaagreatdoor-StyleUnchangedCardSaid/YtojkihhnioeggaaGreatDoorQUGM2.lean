import Derived.Test.YtojkihhnioeggaaGreatDoorQUGM1
set_option linter.unusedVariables false
set_option linter.unusedSimpArgs false
set_option maxRecDepth 100000
set_option maxHeartbeats 4000000
namespace Go.Proofs.YtojkihhnioeggaaGreatDoor.S
open Go Go.Bm
def pI (self_ref11_join : aV → aV → Option (aV × Bool)) (n : Nat) (p0 : aV) (p1 : aV) : Option (aV × Bool) := (if (p0.Kind != p1.Kind) = true then some ((aV.mk 0 ([] : List aV)), false) else (if ((List.length p0.Of : Int) == 0) = true then some (p1, true) else (if ((List.length p1.Of : Int) == 0) = true then some (p0, true) else (idx p0.Of 0).bind fun (e1 : aV) => (idx p1.Of 0).bind fun (e2 : aV) => (self_ref11_join e1 e2).bind fun (y3 : (aV × Bool)) => (if (!y3.2) = true then some ((aV.mk 0 ([] : List aV)), false) else some ((aV.mk p0.Kind [y3.1]), true)))))
theorem xY (self_ref11_join : aV → aV → Option (aV × Bool)) (ih_ref11_join : ∀ (p0 : aV) (p1 : aV) (r : (aV × Bool)), self_ref11_join p0 p1 = some r → dI E 146 0 [C3 p0, C3 p1] [] (.tup [C3 r.1, B2 r.2]) []) (n : Nat) (p0 : aV) (p1 : aV) (r : (aV × Bool)) (h : pI self_ref11_join n p0 p1 = some r) : dI E 146 0 [C3 p0, C3 p1] [] (.tup [C3 r.1, B2 r.2]) [] := by
 refine gT Tryz.func146 rfl ?_
 unfold pI at h
 refine za [2, 3, 4] ?_
 refine aO ?_
 refine za [2, 3, 4, 12] ?_
 refine zi h (fun h => ?_) fun h => ?_
 refine za [4, 5] ?_
 cases h
 exact aI zr
 refine aC ?_
 refine aO ?_
 refine zx fun _ => ?_
 refine zk 2 ?_
 refine zl bI p0.Of ?_
 refine zk 1 ?_
 refine ze [2, 3, 4, 17] ?_
 refine zi h (fun h => ?_) fun h => ?_
 refine za [4, 5] ?_
 cases h
 exact aI zr
 refine aC ?_
 refine aO ?_
 refine zx fun _ => ?_
 refine zk 2 ?_
 refine zl bI p1.Of ?_
 refine zk 1 ?_
 refine ze [2, 3, 4, 22] ?_
 refine zi h (fun h => ?_) fun h => ?_
 refine za [4, 5] ?_
 cases h
 exact aI zr
 refine aC ?_
 refine Dm [[], [0], [1, 0], [2, 1, 0], [], [4], [5, 4], [6, 5, 4], [3, 7, 2, 1, 0, 6, 5, 4], [8, 3, 7, 2, 1, 0, 6, 5, 4], [9, 8, 3, 7, 2, 1, 0, 6, 5, 4], [9, 8, 3, 7, 2, 1, 0, 6, 5, 4], [], [12, 10, 8, 0, 1, 2, 3, 4, 5, 6, 7, 9], [11, 13, 0, 1, 2, 3, 4, 5, 6, 7, 8, 9, 10, 12]] fun _ => ?_
 refine zk 2 ?_
 obtain ⟨e1, he, h⟩ := aB h
 refine dT (v := .c (K7 e1)) (foot := []) (eK (enc := bI) (sz := 2) (l := p0.Of) (ix := 0) he (by kernel_rfl) (gB e1) (by kernel_rfl)) (by kernel_rfl) rfl rfl ?_
 clear he
 refine zk 3 ?_
 obtain ⟨e2, he, h⟩ := aB h
 refine dT (v := .c (K7 e2)) (foot := []) (eK (enc := bI) (sz := 2) (l := p1.Of) (ix := 0) he (by kernel_rfl) (gB e2) (by kernel_rfl)) (by kernel_rfl) rfl rfl ?_
 clear he
 refine zk 1 ?_
 obtain ⟨y3, he, h⟩ := aB h
 refine zc Vx (ih_ref11_join _ _ y3 he) ?_
 clear he
 refine zk 6 ?_
 refine mC [2, 4, 6, 7] (L2 := [J3, C0 4 2 0, C0 6 29 0, K2 7 y3.2]) (G2 := [(0, I4 p0), (1, I4 p1), (2, G4), (29, I4 y3.1)]) 32 ?_
 refine aO ?_
 refine za [2, 4, 6, 37] ?_
 refine zi h (fun h => ?_) fun h => ?_
 refine za [4, 5] ?_
 cases h
 exact aI zr
 refine aC ?_
 refine zx fun _ => ?_
 refine zk 3 ?_
 refine rG (e := 190) (sz := 2) (len := 1) (r := [I y3.1.Kind, E9 y3.1.Of]) (l' := List.map bI [y3.1]) (nm := 37) (by kernel_rfl) (by simp only [List.map_cons, List.map_nil, gB]; kernel_rfl) (by kernel_rfl) (by kernel_rfl) rfl rfl rfl ?_
 refine zk 3 ?_
 refine ze [4, 5] ?_
 cases h
 exact aI zr
def kW : Nat → aV → aV → Option (aV × Bool)
 | 0, _, _ => none
 | n + 1, p0, p1 => pI (fun a0 a1 => kW n a0 a1) n p0 p1
theorem Gy (n : Nat) : (∀ (p0 : aV) (p1 : aV) (r : (aV × Bool)), kW n p0 p1 = some r → dI E 146 0 [C3 p0, C3 p1] [] (.tup [C3 r.1, B2 r.2]) []) := by
 induction n with
 | zero => intro p0 p1 r h; rw [kW] at h; cases h
 | succ n ih => intro p0 p1 r h; rw [kW] at h; exact xY _ ih n _ _ r h
def eO (p0 : aF) (self_ref11_check : aF → Int → Int → Option (aV × Int × Int)) (p1 : Int) (j2 : Int → Bool → List aV → Option (aV × Int × Int)) : Nat → Int → Bool → Int → List aV → Option (aV × Int × Int)
 | 0, _, _, _, _ => none
 | n + 1, v16, v17, v18, v19 => (if (decide (v18 < (List.length p0.L : Int))) = true then (aS (fun (v25 : Bool) (v26 : Int) (v27 : List aV) => eO p0 self_ref11_check p1 j2 n v26 v25 (IntKind.wrap .i64 (v18 + 1)) v27) (fun (j20 : Bool → Int → List aV → Option (aV × Int × Int)) => (idx p0.L v18).bind fun (e21 : aF) => (self_ref11_check e21 (IntKind.wrap .i64 (p1 + 1)) v16).bind fun (y22 : (aV × Int × Int)) => (if (y22.2.2 != 0) = true then some ((aV.mk 0 ([] : List aV)), y22.2.1, y22.2.2) else (if (!v17) = true then j20 v17 y22.2.1 v19 else (if ((List.length v19 : Int) == 0) = true then j20 v17 y22.2.1 [y22.1] else (idx v19 0).bind fun (e23 : aV) => (kW n e23 y22.1).bind fun (y24 : (aV × Bool)) => j20 y24.2 y22.2.1 [y24.1]))))) else j2 v16 v17 v19)
def dW (self_ref11_check : aF → Int → Int → Option (aV × Int × Int)) (n : Nat) (p0 : aF) (p1 : Int) (p2 : Int) : Option (aV × Int × Int) := (if ((p0.Kind == 4) && (decide (p1 > 16))) = true then some ((aV.mk 0 ([] : List aV)), (IntKind.wrap .i64 (p2 + 1)), 8) else (if (((((decide (p0.Kind < 1)) || (decide (p0.Kind > 4))) || (((p0.N != 0) && (p0.Kind != 1)) && (p0.Kind != 2))) || ((!(bV p0.S (⟨#[]⟩ : ByteArray))) && (p0.Kind != 3))) || ((decide ((List.length p0.L : Int) > 0)) && (!(p0.Kind == 4)))) = true then some ((aV.mk 0 ([] : List aV)), (IntKind.wrap .i64 (p2 + 1)), 9) else (if (((p0.Kind == 1) && ((decide (p0.N < (-1099511627776 : Int))) || (decide (p0.N > 1099511627776)))) || (((p0.Kind == 2) && (p0.N != 0)) && (p0.N != 1))) = true then some ((aV.mk 0 ([] : List aV)), (IntKind.wrap .i64 (p2 + 1)), 1) else (if (((decide ((ByteArray.size p0.S : Int) > 2000)) || (decide ((List.length p0.L : Int) > 100))) || (decide ((IntKind.wrap .i64 (p2 + 1)) > 1000))) = true then some ((aV.mk 0 ([] : List aV)), (IntKind.wrap .i64 (p2 + 1)), 2) else (qF n p0.S).bind fun (y1 : Bool) => (if (!y1) = true then some ((aV.mk 0 ([] : List aV)), (IntKind.wrap .i64 (p2 + 1)), 3) else (aS (fun (v35 : Int) (v36 : Bool) (v37 : List aV) => (if (!v36) = true then some ((aV.mk 0 ([] : List aV)), v35, 5) else some ((aV.mk p0.Kind v37), v35, 0))) (fun (j2 : Int → Bool → List aV → Option (aV × Int × Int)) => eO p0 self_ref11_check p1 j2 n (IntKind.wrap .i64 (p2 + 1)) true 0 ([] : List aV))))))))
theorem wU (self_ref11_check : aF → Int → Int → Option (aV × Int × Int)) (ih_ref11_check : ∀ (p0 : aF) (p1 : Int) (p2 : Int) (r : (aV × Int × Int)), self_ref11_check p0 p1 p2 = some r → dI E 143 0 [B5 p0, A6 p1, A6 p2] [] (.tup [C3 r.1, A6 r.2.1, A6 r.2.2]) []) (n : Nat) (p0 : aF) (p1 : Int) (p2 : Int) (r : (aV × Int × Int)) (h : dW self_ref11_check n p0 p1 p2 = some r) : dI E 143 0 [B5 p0, A6 p1, A6 p2] [] (.tup [C3 r.1, A6 r.2.1, A6 r.2.2]) [] := by
 refine gT Tryz.func143 rfl ?_
 unfold dW at h
 refine za [1, 2, 3, 6] ?_
 refine za [1, 2, 3, 6] ?_
 refine za [1, 2, 3, 6, 9] ?_
 refine aO ?_
 refine zx fun _ => ?_
 refine zk 2 ?_
 refine zE (A6 p1) ?_
 refine zE (L3 p1 16) ?_
 refine zP (.bool ((p0.Kind == 4) && (E2 p1 16))) ?_
 refine ze [1, 2, 3, 6, 9, 27] ?_
 refine zi h (fun h => ?_) fun h => ?_
 refine za [6, 7, 8] ?_
 cases h
 exact aI zr
 refine aC ?_
 refine aO ?_
 refine zx fun _ => ?_
 refine zk 4 ?_
 refine zE (A1 0 0) ?_
 refine zE (A6 p0.Kind) ?_
 refine zE (L3 p0.Kind 4) ?_
 refine zP (.bool (N2 p0.Kind)) ?_
 refine zk 1 ?_
 refine zE (A1 0 1) ?_
 refine zE (A6 p0.N) ?_
 refine zE (B2 (p0.N != 0)) ?_
 refine zF [!(N2 p0.Kind)] (B2 (p0.N != 0)) ?_
 refine zE (A1 0 0) ?_
 refine zE (A6 p0.Kind) ?_
 refine zE (B2 (p0.Kind != 1)) ?_
 refine zP (.bool ((p0.N != 0) && (p0.Kind != 1))) ?_
 refine zF [!(N2 p0.Kind)] (B2 ((p0.N != 0) && (p0.Kind != 1))) ?_
 refine zE (A1 0 0) ?_
 refine zE (A6 p0.Kind) ?_
 refine zE (B2 (p0.Kind != 2)) ?_
 refine zP (.bool (((p0.N != 0) && (p0.Kind != 1)) && (p0.Kind != 2))) ?_
 refine zP (.bool ((N2 p0.Kind) || (((p0.N != 0) && (p0.Kind != 1)) && (p0.Kind != 2)))) ?_
 refine Zd 1 (L' := [C6 1 p1, I2 p2, I1, N0, (9, B2 (p0.Kind == 4)), (27, B2 ((p0.Kind == 4) && (E2 p1 16))), C0 30 0 0, C6 31 p0.Kind, (32, J5 p0.Kind 1), (33, J5 p0.Kind 1), (34, .cnd [!(D9 p0.Kind 1)] (A1 0 0)), (35, .cnd [!(D9 p0.Kind 1)] (A6 p0.Kind)), (36, .cnd [!(D9 p0.Kind 1)] (L3 p0.Kind 4)), (37, B2 (N2 p0.Kind)), (38, B2 (N2 p0.Kind)), (39, .cnd [!(N2 p0.Kind)] (A1 0 1)), (40, .cnd [!(N2 p0.Kind)] (A6 p0.N)), (41, .cnd [!(N2 p0.Kind)] (B2 (p0.N != 0))), (42, .cnd [!(N2 p0.Kind)] (B2 (p0.N != 0))), (43, .cnd [!(N2 p0.Kind), p0.N != 0] (A1 0 0)), (44, .cnd [!(N2 p0.Kind), p0.N != 0] (A6 p0.Kind)), (45, .cnd [!(N2 p0.Kind), p0.N != 0] (B2 (p0.Kind != 1))), (46, .cnd [!(N2 p0.Kind)] (B2 ((p0.N != 0) && (p0.Kind != 1)))), (47, .cnd [!(N2 p0.Kind)] (B2 ((p0.N != 0) && (p0.Kind != 1)))), (48, .cnd [!(N2 p0.Kind), (p0.N != 0) && (p0.Kind != 1)] (A1 0 0)), (49, .cnd [!(N2 p0.Kind), (p0.N != 0) && (p0.Kind != 1)] (A6 p0.Kind)), (50, .cnd [!(N2 p0.Kind), (p0.N != 0) && (p0.Kind != 1)] (B2 (p0.Kind != 2))), (51, .cnd [!(N2 p0.Kind)] (B2 (((p0.N != 0) && (p0.Kind != 1)) && (p0.Kind != 2)))), (52, B2 ((N2 p0.Kind) || (((p0.N != 0) && (p0.Kind != 1)) && (p0.Kind != 2)))), (53, B2 ((N2 p0.Kind) || (((p0.N != 0) && (p0.Kind != 1)) && (p0.Kind != 2))))]) (G' := [(0, E1 p0), (1, G4)]) (X' := []) ?_
 refine zE (A1 0 2) ?_
 refine zE (F1 p0.S) ?_
 refine zE (.c (Bo (!(bV p0.S (⟨#[]⟩ : ByteArray))))) ?_
 refine zF [!((N2 p0.Kind) || (((p0.N != 0) && (p0.Kind != 1)) && (p0.Kind != 2)))] (.c (Bo (!(bV p0.S (⟨#[]⟩ : ByteArray))))) ?_
 refine zE (A1 0 0) ?_
 refine zE (A6 p0.Kind) ?_
 refine zE (B2 (p0.Kind != 3)) ?_
 refine zP (.bool ((!(bV p0.S (⟨#[]⟩ : ByteArray))) && (p0.Kind != 3))) ?_
 refine zP (.bool (((N2 p0.Kind) || (((p0.N != 0) && (p0.Kind != 1)) && (p0.Kind != 2))) || ((!(bV p0.S (⟨#[]⟩ : ByteArray))) && (p0.Kind != 3)))) ?_
 refine zk 1 ?_
 refine zE (A1 0 3) ?_
 refine zE (K8 p0.L) ?_
 refine lM (e := [(!(((N2 p0.Kind) || (((p0.N != 0) && (p0.Kind != 1)) && (p0.Kind != 2))) || ((!(bV p0.S (⟨#[]⟩ : ByteArray))) && (p0.Kind != 3))))]) [(65, K8 p0.L, some 1)] (v := .c (I (List.length p0.L : Int))) (foot := []) (by kernel_rfl) (by kernel_rfl) (by kernel_rfl) (fun hg => lY (enc := aQ) (l := p0.L) (by kernel_rfl)) rfl rfl ?_
 refine zE (.c (Bo (decide ((List.length p0.L : Int) > 0)))) ?_
 refine zF [(!(((N2 p0.Kind) || (((p0.N != 0) && (p0.Kind != 1)) && (p0.Kind != 2))) || ((!(bV p0.S (⟨#[]⟩ : ByteArray))) && (p0.Kind != 3))))] (.c (Bo (decide ((List.length p0.L : Int) > 0)))) ?_
 refine zE (B2 (p0.Kind == 4)) ?_
 refine zE (B2 (!(p0.Kind == 4))) ?_
 refine zP (.bool ((decide ((List.length p0.L : Int) > 0)) && (!(p0.Kind == 4)))) ?_
 refine zP (.bool ((((N2 p0.Kind) || (((p0.N != 0) && (p0.Kind != 1)) && (p0.Kind != 2))) || ((!(bV p0.S (⟨#[]⟩ : ByteArray))) && (p0.Kind != 3))) || ((decide ((List.length p0.L : Int) > 0)) && (!(p0.Kind == 4))))) ?_
 refine mC [1, 2, 3, 6, 72] (L2 := [C6 1 p1, I2 p2, I1, N0, (72, .c (Bo ((((N2 p0.Kind) || (((p0.N != 0) && (p0.Kind != 1)) && (p0.Kind != 2))) || ((!(bV p0.S (⟨#[]⟩ : ByteArray))) && (p0.Kind != 3))) || ((decide ((List.length p0.L : Int) > 0)) && (!(p0.Kind == 4))))))]) (G2 := [(0, E1 p0), (1, G4)]) 59 ?_
 refine zi h (fun h => ?_) fun h => ?_
 refine za [6, 7, 8] ?_
 cases h
 exact aI zr
 refine aC ?_
 refine aO ?_
 refine zx fun _ => ?_
 refine zk 4 ?_
 refine zE (A1 0 1) ?_
 refine zE (A6 p0.N) ?_
 refine zE (.c (Bo (decide (p0.N < (-1099511627776 : Int))))) ?_
 refine zF [p0.Kind == 1] (.c (Bo (decide (p0.N < (-1099511627776 : Int))))) ?_
 refine zE (A1 0 1) ?_
 refine zE (A6 p0.N) ?_
 refine zE (B2 (J1 p0.N)) ?_
 refine zP (.bool ((decide (p0.N < (-1099511627776 : Int))) || (J1 p0.N))) ?_
 refine zP (.bool ((p0.Kind == 1) && ((decide (p0.N < (-1099511627776 : Int))) || (J1 p0.N)))) ?_
 refine zk 1 ?_
 refine zE (A1 0 0) ?_
 refine zE (A6 p0.Kind) ?_
 refine zE (B2 (p0.Kind == 2)) ?_
 refine zF [(!((p0.Kind == 1) && ((decide (p0.N < (-1099511627776 : Int))) || (J1 p0.N))))] (B2 (p0.Kind == 2)) ?_
 refine zE (A1 0 1) ?_
 refine zE (A6 p0.N) ?_
 refine zE (B2 (p0.N != 0)) ?_
 refine zP (.bool ((p0.Kind == 2) && (p0.N != 0))) ?_
 refine zF [(!((p0.Kind == 1) && ((decide (p0.N < (-1099511627776 : Int))) || (J1 p0.N))))] (B2 ((p0.Kind == 2) && (p0.N != 0))) ?_
 refine zE (A1 0 1) ?_
 refine zE (A6 p0.N) ?_
 refine zE (B2 (p0.N != 1)) ?_
 refine zP (.bool (((p0.Kind == 2) && (p0.N != 0)) && (p0.N != 1))) ?_
 refine zP (.bool (((p0.Kind == 1) && ((decide (p0.N < (-1099511627776 : Int))) || (J1 p0.N))) || (((p0.Kind == 2) && (p0.N != 0)) && (p0.N != 1)))) ?_
 refine mC [1, 2, 3, 6, 102] (L2 := [C6 1 p1, I2 p2, I1, N0, (102, .c (Bo (((p0.Kind == 1) && ((decide (p0.N < (-1099511627776 : Int))) || (J1 p0.N))) || (((p0.Kind == 2) && (p0.N != 0)) && (p0.N != 1)))))]) (G2 := [(0, E1 p0), (1, G4)]) 87 ?_
 refine zi h (fun h => ?_) fun h => ?_
 refine za [6, 7, 8] ?_
 cases h
 exact aI zr
 refine aC ?_
 refine aO ?_
 refine zx fun _ => ?_
 refine zk 5 ?_
 refine zE (A1 0 3) ?_
 refine zE (K8 p0.L) ?_
 refine lM (e := [(!(decide ((ByteArray.size p0.S : Int) > 2000)))]) [(111, K8 p0.L, some 1)] (v := .c (I (List.length p0.L : Int))) (foot := []) (by kernel_rfl) (by kernel_rfl) (by kernel_rfl) (fun hg => lY (enc := aQ) (l := p0.L) (by kernel_rfl)) rfl rfl ?_
 refine zE (.c (Bo (decide ((List.length p0.L : Int) > 100)))) ?_
 refine zP (.bool ((decide ((ByteArray.size p0.S : Int) > 2000)) || (decide ((List.length p0.L : Int) > 100)))) ?_
 refine zk 1 ?_
 refine zE (A6 (D2 p2 1)) ?_
 refine zE (B2 (decide ((D2 p2 1) > 1000))) ?_
 refine zP (.bool (((decide ((ByteArray.size p0.S : Int) > 2000)) || (decide ((List.length p0.L : Int) > 100))) || (decide ((D2 p2 1) > 1000)))) ?_
 refine mC [1, 2, 3, 6, 118] (L2 := [C6 1 p1, I2 p2, I1, N0, (118, .c (Bo (((decide ((ByteArray.size p0.S : Int) > 2000)) || (decide ((List.length p0.L : Int) > 100))) || (decide ((D2 p2 1) > 1000)))))]) (G2 := [(0, E1 p0), (1, G4)]) 101 ?_
 refine zi h (fun h => ?_) fun h => ?_
 refine za [6, 7, 8] ?_
 cases h
 exact aI zr
 refine aC ?_
 refine aO ?_
 refine zx fun _ => ?_
 refine zk 2 ?_
 obtain ⟨y1, he, h⟩ := aB h
 refine zc fok145 (Ha n _ y1 he) ?_
 clear he
 refine zk 1 ?_
 refine ze [1, 2, 3, 6, 124] ?_
 refine zi h (fun h => ?_) fun h => ?_
 refine za [6, 7, 8] ?_
 cases h
 exact aI zr
 refine aC ?_
 refine za [1, 2, 3, 6, 10] ?_
 refine za [1, 2, 3, 6, 10, 11] ?_
 refine aX h (fun A j => ∀ v35 v36 v37, j v35 v36 v37 = some r → A (mk [C6 2 v35, C0 6 0 0, C0 10 1 0, K2 11 v36] [(0, G4), (1, .blk 190 [I p0.Kind, .app 2 (List.map bI v37)]), B7 2 190 2 v37] 3)) (fun v35 v36 v37 h => ?_) (fun j2 Aj2 hj2 h => ?_)
 refine aO ?_
 refine za [2, 6, 10, 179] ?_
 refine zi h (fun h => ?_) fun h => ?_
 refine za [6, 7, 8] ?_
 cases h
 exact aI zr
 refine aC ?_
 refine za [6, 7, 8] ?_
 cases h
 exact aI zr
 refine za [1, 2, 3, 6, 10, 11, 12] ?_
 refine aK ?_
 refine bJ (fun n s => ∃ v16 v17 v18 v19, eO p0 self_ref11_check p1 j2 n v16 v17 v18 v19 = some r ∧ s = mk [C6 1 p1, C6 2 v16, I1, N0, C0 10 2 0, K2 11 v17, C6 12 v18] [(0, E1 p0), (1, G4), (2, .blk 190 [I p0.Kind, .app 3 (List.map bI v19)]), B7 3 190 2 v19] 4) n _ (eA.trans (lX (n := 108) (T0 := 190) (l := [I p0.Kind, cQ]) (G2 := [(0, E1 p0), (1, G4), (108, .blk 190 [I p0.Kind, .app 112 (List.map bI ([] : List aV))]), (112, .tok 190 2 (List.length ([] : List aV)))]) (lim2 := 113) 1 190 2 (by kernel_rfl) (by kernel_rfl) (by kernel_rfl) (by kernel_rfl)) (zv [(0, 0), (1, 1), (108, 2), (112, 3)] [1, 2, 3, 6, 10, 11, 12] 4)) ⟨_, _, _, _, h, rfl⟩ (fun s ⟨v16, v17, v18, v19, h, _⟩ => nomatch h) ?_
 rintro n s ⟨v16, v17, v18, v19, h, rfl⟩
 rw [eO] at h
 refine aO ?_
 refine zx fun _ => ?_
 refine zk 3 ?_
 refine zl aQ p0.L ?_
 refine zk 1 ?_
 refine ze [1, 2, 3, 6, 10, 11, 12, 134] ?_
 refine zi h (fun h => ?_) fun h => ?_
 refine aC ?_
 refine aX h (fun A j => ∀ v25 v26 v27, j v25 v26 v27 = some r → A (mk [C6 1 p1, I1, N0, C0 10 2 0, K2 11 v25, C6 12 v18, C6 2 v26] [(0, E1 p0), (1, G4), (2, .blk 190 [I p0.Kind, .app 3 (List.map bI v27)]), B7 3 190 2 v27] 4)) (fun v25 v26 v27 h => ?_) (fun j20 Aj20 hj20 h => ?_)
 refine bB ?_
 refine zb ?_
 exact eZ (zv [(0, 0), (1, 1), (2, 2), (3, 3)] [1, 2, 3, 6, 10, 11, 12] 4) (⟨_, _, _, _, h, rfl⟩)
 refine aK ?_
 refine zx fun _ => ?_
 refine zk 3 ?_
 obtain ⟨e21, he, h⟩ := aB h
 refine dT (v := .c (J2 e21)) (foot := []) (eK (enc := aQ) (sz := 4) (l := p0.L) (ix := v18) he (by kernel_rfl) (dR e21) (by kernel_rfl)) (by kernel_rfl) rfl rfl ?_
 clear he
 refine zk 4 ?_
 obtain ⟨y22, he, h⟩ := aB h
 refine zc Ym (ih_ref11_check _ _ _ y22 he) ?_
 clear he
 refine zk 8 ?_
 refine ze [1, 3, 6, 10, 11, 12, 13, 14, 15] ?_
 refine za [1, 2, 3, 6, 10, 11, 12, 13, 15] ?_
 refine aO ?_
 refine za [1, 2, 3, 6, 10, 11, 12, 13, 15, 152] ?_
 refine zi h (fun h => ?_) fun h => ?_
 refine za [6, 7, 8] ?_
 cases h
 exact aI zr
 refine aC ?_
 refine aO ?_
 refine za [1, 2, 3, 6, 10, 11, 12, 13, 157] ?_
 refine zi h (fun h => ?_) fun h => ?_
 exact aL (zv [(0, 0), (1, 1), (2, 2), (3, 3)] [1, 3, 6, 10, 11, 12, 2] 4) (bK (hj20 _ _ _ h))
 refine aC ?_
 refine aO ?_
 refine zx fun _ => ?_
 refine zk 2 ?_
 refine zl bI v19 ?_
 refine zk 1 ?_
 refine mC [1, 2, 3, 6, 10, 11, 12, 13, 161] (L2 := [C6 1 p1, I1, N0, C0 10 2 0, K2 11 v17, C6 12 v18, C0 13 22 0, C6 2 y22.2.1, (161, .c (Bo ((List.length v19 : Int) == 0)))]) (G2 := [(0, E1 p0), (1, G4), (2, .blk 190 [I p0.Kind, .app 3 (List.map bI v19)]), B7 3 190 2 v19, (22, I4 y22.1)]) 36 ?_
 refine zi h (fun h => ?_) fun h => ?_
 refine zx fun _ => ?_
 refine zk 1 ?_
 refine rG (e := 190) (sz := 2) (len := 1) (r := [I y22.1.Kind, E9 y22.1.Of]) (l' := List.map bI [y22.1]) (nm := 37) (by kernel_rfl) (by simp only [List.map_cons, List.map_nil, gB]; kernel_rfl) (by kernel_rfl) (by kernel_rfl) rfl rfl rfl ?_
 refine zk 2 ?_
 refine ze [1, 2, 3, 6, 10, 11, 12] ?_
 exact aL (zv [(0, 0), (1, 1), (2, 2), (37, 3)] [1, 3, 6, 10, 11, 12, 2] 4) (bK (hj20 _ _ _ h))
 refine aC ?_
 refine Dm [[], [0], [1, 0], [2, 1, 0], [], [3, 4, 2, 1, 0], [5, 3, 4, 2, 1, 0], [6, 5, 3, 4, 2, 1, 0], [6, 5, 3, 4, 2, 1, 0], [], [9, 7, 5, 0, 1, 2, 3, 4, 6], [8, 10, 0, 1, 2, 3, 4, 5, 6, 7, 9]] fun _ => ?_
 refine zk 2 ?_
 obtain ⟨e23, he, h⟩ := aB h
 refine dT (v := .c (K7 e23)) (foot := []) (eK (enc := bI) (sz := 2) (l := v19) (ix := 0) he (by kernel_rfl) (gB e23) (by kernel_rfl)) (by kernel_rfl) rfl rfl ?_
 clear he
 refine zk 2 ?_
 obtain ⟨y24, he, h⟩ := aB h
 refine zc Vx (Gy n _ _ y24 he) ?_
 clear he
 refine zk 6 ?_
 refine ze [1, 2, 3, 6, 10, 12, 16, 17] ?_
 refine za [1, 2, 3, 6, 10, 11, 12, 16] ?_
 refine bB ?_
 refine zy fun _ => ?_
 refine zk 1 ?_
 refine rG (e := 190) (sz := 2) (len := 1) (r := [I y24.1.Kind, E9 y24.1.Of]) (l' := List.map bI [y24.1]) (nm := 51) (by kernel_rfl) (by simp only [List.map_cons, List.map_nil, gB]; kernel_rfl) (by kernel_rfl) (by kernel_rfl) rfl rfl rfl ?_
 refine zk 2 ?_
 refine cF ?_
 exact eZ (zv [(0, 0), (1, 1), (2, 2), (51, 3)] [1, 3, 6, 10, 11, 12, 2] 4) (hj20 _ _ _ h)
 exact aL (zv [(1, 0), (2, 1), (3, 2)] [2, 6, 10, 11] 3) (bK (hj2 _ _ _ h))
def dL : Nat → aF → Int → Int → Option (aV × Int × Int)
 | 0, _, _, _ => none
 | n + 1, p0, p1, p2 => dW (fun a0 a1 a2 => dL n a0 a1 a2) n p0 p1 p2
theorem Gd (n : Nat) : (∀ (p0 : aF) (p1 : Int) (p2 : Int) (r : (aV × Int × Int)), dL n p0 p1 p2 = some r → dI E 143 0 [B5 p0, A6 p1, A6 p2] [] (.tup [C3 r.1, A6 r.2.1, A6 r.2.2]) []) := by
 induction n with
 | zero => intro p0 p1 p2 r h; rw [dL] at h; cases h
 | succ n ih => intro p0 p1 p2 r h; rw [dL] at h; exact wU _ ih n _ _ _ r h
def kE  (n : Nat) (p0 : aF) : Option (aV × Int) := (dL n p0 1 0).bind fun (y1 : (aV × Int × Int)) => some (y1.1, y1.2.2)
theorem Ch  (n : Nat) (p0 : aF) (r : (aV × Int)) (h : kE n p0 = some r) : dI E 135 0 [B5 p0] [] (.tup [C3 r.1, A6 r.2]) [] := by
 refine gT Tryz.func135 rfl ?_
 unfold kE at h
 refine za [1, 2] ?_
 refine zx fun _ => ?_
 refine zk 1 ?_
 obtain ⟨y1, he, h⟩ := aB h
 refine zc Ym (Gd n _ _ _ y1 he) ?_
 clear he
 refine zk 8 ?_
 refine ze [2, 4, 6] ?_
 refine za [2, 3] ?_
 cases h
 exact aI zr
def iS  (n : Nat) (p0 : aF) : Option Int := (kE n p0).bind fun (y1 : (aV × Int)) => some y1.2
theorem vH  (n : Nat) (p0 : aF) (r : Int) (h : iS n p0 = some r) : dI E 124 0 [B5 p0] [] (A6 r) [] := by
 refine gT Tryz.func124 rfl ?_
 unfold iS at h
 refine za [1] ?_
 refine zx fun _ => ?_
 refine zk 1 ?_
 obtain ⟨y1, he, h⟩ := aB h
 refine zc fok135 (Ch n _ y1 he) ?_
 clear he
 refine zk 6 ?_
 refine ze [4] ?_
 refine za [2] ?_
 cases h
 exact aI zr
def fJ (p0 : aJ) (self_ref14_validate : aJ → Int → Int → Option (Int × Int)) (p1 : Int) (j63 : Int → Option (Int × Int)) : Nat → Int → Int → Option (Int × Int)
 | 0, _, _ => none
 | n + 1, v66, v67 => (if (decide (v67 < (List.length p0.Kids : Int))) = true then (idx p0.Kids v67).bind fun (e68 : aJ) => (self_ref14_validate e68 (IntKind.wrap .i64 (p1 + 1)) v66).bind fun (y69 : (Int × Int)) => (if (y69.2 != 0) = true then some (y69.1, y69.2) else fJ p0 self_ref14_validate p1 j63 n y69.1 (IntKind.wrap .i64 (v67 + 1))) else j63 v66)
def fF (v52 : Int) (p0 : aJ) (p2 : Int) (j53 : Unit → Option (Int × Int)) (p1 : Int) : Nat → Int → Option (Int × Int)
 | 0, _ => none
 | n + 1, v57 => (if (decide (v57 < v52)) = true then (idx p0.Kids v52).bind fun (e58 : aJ) => (gd [(!(bV e58.Key (⟨#[]⟩ : ByteArray)))] (idx p0.Kids v52)).bind fun (e59 : aJ) => (gd [(!(bV e58.Key (⟨#[]⟩ : ByteArray)))] (idx p0.Kids v57)).bind fun (e60 : aJ) => (if ((!(bV e58.Key (⟨#[]⟩ : ByteArray))) && (bV e59.Key e60.Key)) = true then some ((IntKind.wrap .i64 (p2 + 1)), 6) else fF v52 p0 p2 j53 p1 n (IntKind.wrap .i64 (v57 + 1))) else j53 ())
def fK (p0 : aJ) (p2 : Int) (p1 : Int) (j42 : Unit → Option (Int × Int)) : Nat → Int → Option (Int × Int)
 | 0, _ => none
 | n + 1, v52 => (if (decide (v52 < (List.length p0.Kids : Int))) = true then (aS (fun (_ : Unit) => fK p0 p2 p1 j42 n (IntKind.wrap .i64 (v52 + 1))) (fun (j53 : Unit → Option (Int × Int)) => fF v52 p0 p2 j53 p1 n 0)) else j42 ())
def fD (e31 : cU) (p2 : Int) (j30 : Unit → Option (Int × Int)) (p1 : Int) (v29 : Int) (p0 : aJ) : Nat → Int → Option (Int × Int)
 | 0, _ => none
 | n + 1, v37 => (if (decide (v37 < (List.length e31.Args : Int))) = true then (idx e31.Args v37).bind fun (e38 : aF) => (iS n e38).bind fun (y39 : Int) => (if (y39 != 0) = true then some ((IntKind.wrap .i64 (p2 + 1)), y39) else fD e31 p2 j30 p1 v29 p0 n (IntKind.wrap .i64 (v37 + 1))) else j30 ())
def dD (p0 : aJ) (p2 : Int) (p1 : Int) (j17 : Unit → Option (Int × Int)) : Nat → Int → Option (Int × Int)
 | 0, _ => none
 | n + 1, v29 => (if (decide (v29 < (List.length p0.Actions : Int))) = true then (aS (fun (_ : Unit) => dD p0 p2 p1 j17 n (IntKind.wrap .i64 (v29 + 1))) (fun (j30 : Unit → Option (Int × Int)) => (idx p0.Actions v29).bind fun (e31 : cU) => (dQ n e31.Event).bind fun (y32 : Bool) => (gd [(!(!y32))] (dQ n e31.Handler)).bind fun (y33 : Bool) => (if ((!y32) || (!y33)) = true then some ((IntKind.wrap .i64 (p2 + 1)), 4) else (gd [(decide (v29 > 0))] (idx p0.Actions (IntKind.wrap .i64 (v29 - 1)))).bind fun (e34 : cU) => (if ((decide (v29 > 0)) && (Mn e31.Event e34.Event)) = true then some ((IntKind.wrap .i64 (p2 + 1)), 10) else (if ((decide ((ByteArray.size e31.Instance : Int) > 400)) || (decide ((List.length e31.Args : Int) > 100))) = true then some ((IntKind.wrap .i64 (p2 + 1)), 2) else fD e31 p2 j30 p1 v29 p0 n 0))))) else j17 ())
def fN (p0 : aJ) (p2 : Int) (j2 : Unit → Option (Int × Int)) (p1 : Int) : Nat → Int → Option (Int × Int)
 | 0, _ => none
 | n + 1, v9 => (if (decide (v9 < (List.length p0.Attrs : Int))) = true then (idx p0.Attrs v9).bind fun (e10 : bD) => (dQ n e10.Name).bind fun (y11 : Bool) => (if (!y11) = true then some ((IntKind.wrap .i64 (p2 + 1)), 4) else (gd [(decide (v9 > 0))] (idx p0.Attrs v9)).bind fun (e12 : bD) => (gd [(decide (v9 > 0))] (idx p0.Attrs (IntKind.wrap .i64 (v9 - 1)))).bind fun (e13 : bD) => (if ((decide (v9 > 0)) && (Mn e12.Name e13.Name)) = true then some ((IntKind.wrap .i64 (p2 + 1)), 10) else (idx p0.Attrs v9).bind fun (e14 : bD) => (iS n e14.Value).bind fun (y15 : Int) => (if (y15 != 0) = true then some ((IntKind.wrap .i64 (p2 + 1)), y15) else fN p0 p2 j2 p1 n (IntKind.wrap .i64 (v9 + 1))))) else j2 ())
def jL (self_ref14_validate : aJ → Int → Int → Option (Int × Int)) (n : Nat) (p0 : aJ) (p1 : Int) (p2 : Int) : Option (Int × Int) := (if (decide (p1 > 16)) = true then some ((IntKind.wrap .i64 (p2 + 1)), 8) else (if (decide ((IntKind.wrap .i64 (p2 + 1)) > 400)) = true then some ((IntKind.wrap .i64 (p2 + 1)), 2) else (if ((decide (p0.Kind < 1)) || (decide (p0.Kind > 13))) = true then some ((IntKind.wrap .i64 (p2 + 1)), 9) else (wS n p0.Key).bind fun (y1 : Bool) => (if (!y1) = true then some ((IntKind.wrap .i64 (p2 + 1)), 4) else (if (((decide ((List.length p0.Attrs : Int) > 24)) || (decide ((List.length p0.Actions : Int) > 24))) || (decide ((List.length p0.Kids : Int) > 100))) = true then some ((IntKind.wrap .i64 (p2 + 1)), 2) else (aS (fun (_ : Unit) => (aS (fun (_ : Unit) => (aS (fun (_ : Unit) => (aS (fun (v72 : Int) => some (v72, 0)) (fun (j63 : Int → Option (Int × Int)) => fJ p0 self_ref14_validate p1 j63 n (IntKind.wrap .i64 (p2 + 1)) 0))) (fun (j42 : Unit → Option (Int × Int)) => fK p0 p2 p1 j42 n 0))) (fun (j17 : Unit → Option (Int × Int)) => dD p0 p2 p1 j17 n 0))) (fun (j2 : Unit → Option (Int × Int)) => fN p0 p2 j2 p1 n 0)))))))
theorem uB (self_ref14_validate : aJ → Int → Int → Option (Int × Int)) (ih_ref14_validate : ∀ (p0 : aJ) (p1 : Int) (p2 : Int) (r : (Int × Int)), self_ref14_validate p0 p1 p2 = some r → dI E 98 0 [B0 p0, A6 p1, A6 p2] [] (.tup [A6 r.1, A6 r.2]) []) (n : Nat) (p0 : aJ) (p1 : Int) (p2 : Int) (r : (Int × Int)) (h : jL self_ref14_validate n p0 p1 p2 = some r) : dI E 98 0 [B0 p0, A6 p1, A6 p2] [] (.tup [A6 r.1, A6 r.2]) [] := by
 refine gT Tryz.func98 rfl ?_
 unfold jL at h
 refine za [1, 2, 3] ?_
 refine za [1, 2, 3] ?_
 refine aO ?_
 refine za [1, 2, 3, 22] ?_
 refine zi h (fun h => ?_) fun h => ?_
 refine za [6, 7] ?_
 cases h
 exact aI zr
 refine aC ?_
 refine aO ?_
 refine za [1, 2, 3, 25] ?_
 refine zi h (fun h => ?_) fun h => ?_
 refine za [6, 7] ?_
 cases h
 exact aI zr
 refine aC ?_
 refine aO ?_
 refine zx fun _ => ?_
 refine zk 4 ?_
 refine zE (A1 0 0) ?_
 refine zE (A6 p0.Kind) ?_
 refine zE (L3 p0.Kind 13) ?_
 refine zP (.bool (A3 p0.Kind 1 13)) ?_
 refine ze [1, 2, 3, 34] ?_
 refine zi h (fun h => ?_) fun h => ?_
 refine za [6, 7] ?_
 cases h
 exact aI zr
 refine aC ?_
 refine aO ?_
 refine zx fun _ => ?_
 refine zk 2 ?_
 obtain ⟨y1, he, h⟩ := aB h
 refine zc fok123 (Kk n _ y1 he) ?_
 clear he
 refine zk 1 ?_
 refine mC [1, 2, 3, 39] (L2 := [C6 1 p1, I2 p2, I1, (39, B2 (!y1))]) (G2 := [(0, A7 p0)]) 22 ?_
 refine zi h (fun h => ?_) fun h => ?_
 refine za [6, 7] ?_
 cases h
 exact aI zr
 refine aC ?_
 refine aO ?_
 refine zx fun _ => ?_
 refine zk 2 ?_
 refine zl aM p0.Attrs ?_
 refine zk 2 ?_
 refine zE (A1 0 3) ?_
 refine zE (N4 p0.Actions) ?_
 refine lM (e := [(!(decide ((List.length p0.Attrs : Int) > 24)))]) [(47, N4 p0.Actions, some 1)] (v := .c (I (List.length p0.Actions : Int))) (foot := []) (by kernel_rfl) (by kernel_rfl) (by kernel_rfl) (fun hg => lY (enc := aD) (l := p0.Actions) (by kernel_rfl)) rfl rfl ?_
 refine zE (.c (Bo (decide ((List.length p0.Actions : Int) > 24)))) ?_
 refine zP (.bool ((decide ((List.length p0.Attrs : Int) > 24)) || (decide ((List.length p0.Actions : Int) > 24)))) ?_
 refine zk 1 ?_
 refine zE (A1 0 4) ?_
 refine zE (.c (G8 p0.Kids)) ?_
 refine lM (e := [(!((decide ((List.length p0.Attrs : Int) > 24)) || (decide ((List.length p0.Actions : Int) > 24))))]) [(53, .c (G8 p0.Kids), some 1)] (v := .c (I (List.length p0.Kids : Int))) (foot := []) (by kernel_rfl) (by kernel_rfl) (by kernel_rfl) (fun hg => lY (enc := bE) (l := p0.Kids) (by kernel_rfl)) rfl rfl ?_
 refine zE (.c (Bo (decide ((List.length p0.Kids : Int) > 100)))) ?_
 refine zP (.bool (((decide ((List.length p0.Attrs : Int) > 24)) || (decide ((List.length p0.Actions : Int) > 24))) || (decide ((List.length p0.Kids : Int) > 100)))) ?_
 refine mC [1, 2, 3, 56] (L2 := [C6 1 p1, I2 p2, I1, (56, .c (Bo (((decide ((List.length p0.Attrs : Int) > 24)) || (decide ((List.length p0.Actions : Int) > 24))) || (decide ((List.length p0.Kids : Int) > 100)))))]) (G2 := [(0, A7 p0)]) 38 ?_
 refine zi h (fun h => ?_) fun h => ?_
 refine za [6, 7] ?_
 cases h
 exact aI zr
 refine aC ?_
 refine aX h (fun A j => ∀ u, j u = some r → A (mk [C6 1 p1, I2 p2, I1] [(0, A7 p0)] 1)) (fun u h => ?_) (fun j2 Aj2 hj2 h => ?_)
 refine aX h (fun A j => ∀ u, j u = some r → A (mk [C6 1 p1, I2 p2, I1] [(0, A7 p0)] 1)) (fun u h => ?_) (fun j17 Aj17 hj17 h => ?_)
 refine aX h (fun A j => ∀ u, j u = some r → A (mk [C6 1 p1, I2 p2, I1] [(0, A7 p0)] 1)) (fun u h => ?_) (fun j42 Aj42 hj42 h => ?_)
 refine aX h (fun A j => ∀ v72, j v72 = some r → A (mk [C6 2 v72] [] 0)) (fun v72 h => ?_) (fun j63 Aj63 hj63 h => ?_)
 refine za [6, 7] ?_
 cases h
 exact aI zr
 refine za [1, 2, 3, 16] ?_
 refine aK ?_
 refine bJ (fun n s => ∃ v66 v67, fJ p0 self_ref14_validate p1 j63 n v66 v67 = some r ∧ s = mk [C6 1 p1, C6 2 v66, I1, C6 16 v67] [(0, A7 p0)] 1) n _ (zv [(0, 0)] [1, 2, 3, 16] 1) ⟨_, _, h, rfl⟩ (fun s ⟨v66, v67, h, _⟩ => nomatch h) ?_
 rintro n s ⟨v66, v67, h, rfl⟩
 rw [fJ] at h
 refine aO ?_
 refine zx fun _ => ?_
 refine zk 3 ?_
 refine zl bE p0.Kids ?_
 refine zk 1 ?_
 refine ze [1, 2, 3, 16, 209] ?_
 refine zi h (fun h => ?_) fun h => ?_
 refine aC ?_
 refine aO ?_
 refine aK ?_
 refine zx fun _ => ?_
 refine zk 3 ?_
 obtain ⟨e68, he, h⟩ := aB h
 refine dT (v := .c (E5 e68)) (foot := []) (eK (enc := bE) (sz := 5) (l := p0.Kids) (ix := v67) he (by kernel_rfl) (iA e68) (by kernel_rfl)) (by kernel_rfl) rfl rfl ?_
 clear he
 refine zk 4 ?_
 obtain ⟨y69, he, h⟩ := aB h
 refine zc fok98 (ih_ref14_validate _ _ _ y69 he) ?_
 clear he
 refine zk 5 ?_
 refine ze [1, 3, 16, 17, 18] ?_
 refine za [1, 2, 3, 16, 18] ?_
 refine za [1, 2, 3, 16, 18, 226] ?_
 refine zi h (fun h => ?_) fun h => ?_
 refine za [6, 7] ?_
 cases h
 exact aI zr
 refine aC ?_
 refine bB ?_
 refine zb ?_
 exact eZ (zv [(0, 0)] [1, 2, 3, 16] 1) (⟨_, _, h, rfl⟩)
 exact aL (zv [] [2] 0) (bK (hj63 _ h))
 refine za [1, 2, 3, 14] ?_
 refine aK ?_
 refine bJ (fun n s => ∃ v52, fK p0 p2 p1 j42 n v52 = some r ∧ s = mk [C6 1 p1, I2 p2, I1, C6 14 v52] [(0, A7 p0)] 1) n _ (zv [(0, 0)] [1, 2, 3, 14] 1) ⟨_, h, rfl⟩ (fun s ⟨v52, h, _⟩ => nomatch h) ?_
 rintro n s ⟨v52, h, rfl⟩
 rw [fK] at h
 refine aO ?_
 refine zx fun _ => ?_
 refine zk 3 ?_
 refine zl bE p0.Kids ?_
 refine zk 1 ?_
 refine ze [1, 2, 3, 14, 174] ?_
 refine zi h (fun h => ?_) fun h => ?_
 refine aC ?_
 refine aX h (fun A j => ∀ u, j u = some r → A (mk [C6 1 p1, I2 p2, I1, C6 14 v52] [(0, A7 p0)] 1)) (fun u h => ?_) (fun j53 Aj53 hj53 h => ?_)
 refine bB ?_
 refine zb ?_
 exact eZ (zv [(0, 0)] [1, 2, 3, 14] 1) (⟨_, h, rfl⟩)
 refine aK ?_
 refine za [1, 2, 3, 14, 15] ?_
 refine aK ?_
 refine bJ (fun n s => ∃ v57, fF v52 p0 p2 j53 p1 n v57 = some r ∧ s = mk [C6 1 p1, I2 p2, I1, C6 14 v52, C6 15 v57] [(0, A7 p0)] 1) n _ (zv [(0, 0)] [1, 2, 3, 14, 15] 1) ⟨_, h, rfl⟩ (fun s ⟨v57, h, _⟩ => nomatch h) ?_
 rintro n s ⟨v57, h, rfl⟩
 rw [fF] at h
 refine aO ?_
 refine za [1, 2, 3, 14, 15, 179] ?_
 refine zi h (fun h => ?_) fun h => ?_
 refine aC ?_
 refine aO ?_
 refine aK ?_
 refine Dm [[], [0], [], [1, 2, 0], [3, 1, 2, 0], [4, 3, 1, 2, 0], [5, 4, 3, 1, 2, 0], [6, 5, 4, 3, 1, 2, 0], [7, 6, 5, 4, 3, 1, 2, 0], [8, 7, 6, 5, 4, 3, 1, 2, 0], [7, 6, 5, 4, 3, 1, 2, 0], [9, 10, 7, 8, 6, 5, 4, 3, 1, 2, 0], [11, 7, 9, 10, 8, 6, 5, 4, 3, 1, 2, 0], [12, 7, 11, 9, 10, 8, 6, 5, 4, 3, 1, 2, 0], [7, 6, 5, 4, 3, 1, 2, 0], [14, 7, 6, 5, 4, 3, 1, 2, 0], [7, 6, 5, 4, 3, 1, 2, 0], [15, 16, 7, 14, 6, 5, 4, 3, 1, 2, 0], [17, 7, 15, 16, 14, 6, 5, 4, 3, 1, 2, 0], [18, 7, 17, 15, 16, 14, 6, 5, 4, 3, 1, 2, 0], [13, 19, 7, 12, 11, 9, 10, 8, 6, 5, 4, 3, 1, 2, 0, 18, 17, 15, 16, 14], [7, 20, 6, 5, 4, 3, 1, 2, 0, 13, 19, 12, 11, 9, 10, 8, 18, 17, 15, 16, 14]] fun _ => ?_
 refine zk 3 ?_
 obtain ⟨e58, he, h⟩ := aB h
 refine dT (v := .c (E5 e58)) (foot := []) (eK (enc := bE) (sz := 5) (l := p0.Kids) (ix := v52) he (by kernel_rfl) (iA e58) (by kernel_rfl)) (by kernel_rfl) rfl rfl ?_
 clear he
 refine zk 4 ?_
 refine zE (A1 0 4) ?_
 refine zE (.c (G8 p0.Kids)) ?_
 refine zE (A6 v52) ?_
 obtain ⟨e59, he, h⟩ := aB h
 refine lM (e := [(!(bV e58.Key (⟨#[]⟩ : ByteArray)))]) [(191, .c (G8 p0.Kids), some 1), (192, A6 v52, some 1)] (v := .c (E5 e59)) (foot := []) (by kernel_rfl) (by kernel_rfl) (by kernel_rfl) (fun hg => eK (enc := bE) (sz := 5) (l := p0.Kids) (ix := v52) (cD he hg) (by kernel_rfl) (iA e59) (by kernel_rfl)) rfl rfl ?_
 clear he
 refine zE (.c (.imm [Sx e59.Key, C7 e59.Attrs, C9 e59.Actions, G8 e59.Kids])) ?_
 refine zE (F1 e59.Key) ?_
 refine zE (A1 0 4) ?_
 refine zE (.c (G8 p0.Kids)) ?_
 refine zE (A6 v57) ?_
 obtain ⟨e60, he, h⟩ := aB h
 refine lM (e := [(!(bV e58.Key (⟨#[]⟩ : ByteArray)))]) [(197, .c (G8 p0.Kids), some 1), (198, A6 v57, some 1)] (v := .c (E5 e60)) (foot := []) (by kernel_rfl) (by kernel_rfl) (by kernel_rfl) (fun hg => eK (enc := bE) (sz := 5) (l := p0.Kids) (ix := v57) (cD he hg) (by kernel_rfl) (iA e60) (by kernel_rfl)) rfl rfl ?_
 clear he
 refine zE (.c (.imm [Sx e60.Key, C7 e60.Attrs, C9 e60.Actions, G8 e60.Kids])) ?_
 refine zE (F1 e60.Key) ?_
 refine zE (B2 (bV e59.Key e60.Key)) ?_
 refine zP (.bool ((!(bV e58.Key (⟨#[]⟩ : ByteArray))) && (bV e59.Key e60.Key))) ?_
 refine mC [1, 2, 3, 14, 15, 203] (L2 := [C6 1 p1, I2 p2, I1, C6 14 v52, C6 15 v57, (203, .c (Bo ((!(bV e58.Key (⟨#[]⟩ : ByteArray))) && (bV e59.Key e60.Key))))]) (G2 := [(0, A7 p0)]) 26 ?_
 refine zi h (fun h => ?_) fun h => ?_
 refine za [6, 7] ?_
 cases h
 exact aI zr
 refine aC ?_
 refine bB ?_
 refine zb ?_
 exact eZ (zv [(0, 0)] [1, 2, 3, 14, 15] 1) (⟨_, h, rfl⟩)
 exact aL (zv [(0, 0)] [1, 2, 3, 14] 1) (bK (hj53 _ h))
 exact aL (zv [(0, 0)] [1, 2, 3] 1) (bK (hj42 _ h))
 refine za [1, 2, 3, 10] ?_
 refine aK ?_
 refine bJ (fun n s => ∃ v29, dD p0 p2 p1 j17 n v29 = some r ∧ s = mk [C6 1 p1, I2 p2, I1, C6 10 v29] [(0, A7 p0)] 1) n _ (zv [(0, 0)] [1, 2, 3, 10] 1) ⟨_, h, rfl⟩ (fun s ⟨v29, h, _⟩ => nomatch h) ?_
 rintro n s ⟨v29, h, rfl⟩
 rw [dD] at h
 refine aO ?_
 refine zx fun _ => ?_
 refine zk 3 ?_
 refine zl aD p0.Actions ?_
 refine zk 1 ?_
 refine ze [1, 2, 3, 10, 108] ?_
 refine zi h (fun h => ?_) fun h => ?_
 refine aC ?_
 refine aX h (fun A j => ∀ u, j u = some r → A (mk [C6 1 p1, I2 p2, I1, C6 10 v29] [(0, A7 p0)] 1)) (fun u h => ?_) (fun j30 Aj30 hj30 h => ?_)
 refine bB ?_
 refine zb ?_
 exact eZ (zv [(0, 0)] [1, 2, 3, 10] 1) (⟨_, h, rfl⟩)
 refine aK ?_
 refine zx fun _ => ?_
 refine zk 3 ?_
 obtain ⟨e31, he, h⟩ := aB h
 refine zd aD he ?_
 clear he
 refine zk 3 ?_
 refine ze [1, 2, 3, 10, 11] ?_
 refine aO ?_
 refine zx fun _ => ?_
 refine zk 2 ?_
 obtain ⟨y32, he, h⟩ := aB h
 refine zc Oq (rU n _ y32 he) ?_
 clear he
 refine zk 2 ?_
 refine zE (A1 11 2) ?_
 refine zE (F1 e31.Handler) ?_
 obtain ⟨y33, he, h⟩ := aB h
 refine Om [!(!y32)] Oq (fun hg => rU n _ y33 (cD he hg)) ?_
 clear he
 refine zE (B2 (!y33)) ?_
 refine zP (.bool ((!y32) || (!y33))) ?_
 refine mC [1, 2, 3, 10, 11, 125] (L2 := [C6 1 p1, I2 p2, I1, C6 10 v29, C0 11 11 0, (125, B2 ((!y32) || (!y33)))]) (G2 := [(0, A7 p0), (11, G5 e31)]) 23 ?_
 refine zi h (fun h => ?_) fun h => ?_
 refine za [6, 7] ?_
 cases h
 exact aI zr
 refine aC ?_
 refine aO ?_
 refine Dm [[], [0], [1, 0], [2, 1, 0], [3, 2, 1, 0], [2, 1, 0], [5, 2, 1, 0], [2, 1, 0], [7, 2, 1, 0], [6, 8, 2, 5, 1, 0, 7], [9, 2, 6, 8, 5, 1, 0, 7], [10, 2, 9, 6, 8, 5, 1, 0, 7], [4, 11, 2, 3, 1, 0, 10, 9, 6, 8, 5, 7], [2, 12, 1, 0, 4, 11, 3, 10, 9, 6, 8, 5, 7]] fun _ => ?_
 refine zk 3 ?_
 refine zE (A1 11 0) ?_
 refine zE (F1 e31.Event) ?_
 refine zE (A1 0 3) ?_
 refine zE (N4 p0.Actions) ?_
 refine zE (A6 v29) ?_
 refine zE (A6 (F6 v29)) ?_
 obtain ⟨e34, he, h⟩ := aB h
 refine lM (e := [E2 v29 0]) [(133, N4 p0.Actions, some 1), (135, A6 (F6 v29), some 1)] (v := .c (J6 e34)) (foot := []) (by kernel_rfl) (by kernel_rfl) (by kernel_rfl) (fun hg => eK (enc := aD) (sz := 4) (l := p0.Actions) (ix := (F6 v29)) (cD he hg) (by kernel_rfl) (by kernel_rfl) (by kernel_rfl)) rfl rfl ?_
 clear he
 refine zE (.c (J6 e34)) ?_
 refine zE (F1 e34.Event) ?_
 refine zE (B2 (Mn e31.Event e34.Event)) ?_
 refine zP (.bool ((E2 v29 0) && (Mn e31.Event e34.Event))) ?_
 refine mC [1, 2, 3, 10, 11, 140] (L2 := [C6 1 p1, I2 p2, I1, C6 10 v29, C0 11 11 0, (140, B2 ((E2 v29 0) && (Mn e31.Event e34.Event)))]) (G2 := [(0, A7 p0), (11, G5 e31)]) 37 ?_
 refine zi h (fun h => ?_) fun h => ?_
 refine za [6, 7] ?_
 cases h
 exact aI zr
 refine aC ?_
 refine aO ?_
 refine zx fun _ => ?_
 refine zk 5 ?_
 refine zE (A1 11 3) ?_
 refine zE (K8 e31.Args) ?_
 refine lM (e := [(!(decide ((ByteArray.size e31.Instance : Int) > 400)))]) [(148, K8 e31.Args, some 1)] (v := .c (I (List.length e31.Args : Int))) (foot := []) (by kernel_rfl) (by kernel_rfl) (by kernel_rfl) (fun hg => lY (enc := aQ) (l := e31.Args) (by kernel_rfl)) rfl rfl ?_
 refine zE (.c (Bo (decide ((List.length e31.Args : Int) > 100)))) ?_
 refine zP (.bool ((decide ((ByteArray.size e31.Instance : Int) > 400)) || (decide ((List.length e31.Args : Int) > 100)))) ?_
 refine ze [1, 2, 3, 10, 11, 151] ?_
 refine zi h (fun h => ?_) fun h => ?_
 refine za [6, 7] ?_
 cases h
 exact aI zr
 refine aC ?_
 refine za [1, 2, 3, 10, 11, 12] ?_
 refine aK ?_
 refine bJ (fun n s => ∃ v37, fD e31 p2 j30 p1 v29 p0 n v37 = some r ∧ s = mk [C6 1 p1, I2 p2, I1, C6 10 v29, C0 11 1 0, C6 12 v37] [(0, A7 p0), (1, G5 e31)] 2) n _ (zv [(0, 0), (11, 1)] [1, 2, 3, 10, 11, 12] 2) ⟨_, h, rfl⟩ (fun s ⟨v37, h, _⟩ => nomatch h) ?_
 rintro n s ⟨v37, h, rfl⟩
 rw [fD] at h
 refine aO ?_
 refine zx fun _ => ?_
 refine zk 3 ?_
 refine zl aQ e31.Args ?_
 refine zk 1 ?_
 refine ze [1, 2, 3, 10, 11, 12, 157] ?_
 refine zi h (fun h => ?_) fun h => ?_
 refine aC ?_
 refine aO ?_
 refine aK ?_
 refine zx fun _ => ?_
 refine zk 3 ?_
 obtain ⟨e38, he, h⟩ := aB h
 refine dT (v := .c (J2 e38)) (foot := []) (eK (enc := aQ) (sz := 4) (l := e31.Args) (ix := v37) he (by kernel_rfl) (dR e38) (by kernel_rfl)) (by kernel_rfl) rfl rfl ?_
 clear he
 refine zk 1 ?_
 obtain ⟨y39, he, h⟩ := aB h
 refine zc Xy (vH n _ y39 he) ?_
 clear he
 refine zk 1 ?_
 refine ze [1, 2, 3, 10, 11, 12, 13] ?_
 refine za [1, 2, 3, 10, 11, 12, 13, 167] ?_
 refine zi h (fun h => ?_) fun h => ?_
 refine za [6, 7] ?_
 cases h
 exact aI zr
 refine aC ?_
 refine bB ?_
 refine zb ?_
 exact eZ (zv [(0, 0), (1, 1)] [1, 2, 3, 10, 11, 12] 2) (⟨_, h, rfl⟩)
 exact aL (zv [(0, 0)] [1, 2, 3, 10] 1) (bK (hj30 _ h))
 exact aL (zv [(0, 0)] [1, 2, 3] 1) (bK (hj17 _ h))
 refine za [1, 2, 3, 8] ?_
 refine aK ?_
 refine bJ (fun n s => ∃ v9, fN p0 p2 j2 p1 n v9 = some r ∧ s = mk [C6 1 p1, I2 p2, I1, C6 8 v9] [(0, A7 p0)] 1) n _ (zv [(0, 0)] [1, 2, 3, 8] 1) ⟨_, h, rfl⟩ (fun s ⟨v9, h, _⟩ => nomatch h) ?_
 rintro n s ⟨v9, h, rfl⟩
 rw [fN] at h
 refine aO ?_
 refine zx fun _ => ?_
 refine zk 3 ?_
 refine zl aM p0.Attrs ?_
 refine zk 1 ?_
 refine ze [1, 2, 3, 8, 62] ?_
 refine zi h (fun h => ?_) fun h => ?_
 refine aC ?_
 refine aO ?_
 refine aK ?_
 refine aO ?_
 refine zx fun _ => ?_
 refine zk 3 ?_
 obtain ⟨e10, he, h⟩ := aB h
 refine zd aM he ?_
 clear he
 refine zk 2 ?_
 obtain ⟨y11, he, h⟩ := aB h
 refine zc Oq (rU n _ y11 he) ?_
 clear he
 refine zk 1 ?_
 refine ze [1, 2, 3, 8, 72] ?_
 refine zi h (fun h => ?_) fun h => ?_
 refine za [6, 7] ?_
 cases h
 exact aI zr
 refine aC ?_
 refine aO ?_
 refine Dm [[], [0], [1, 0], [2, 1, 0], [3, 2, 1, 0], [2, 1, 0], [4, 5, 2, 3, 1, 0], [6, 2, 4, 5, 3, 1, 0], [7, 2, 6, 4, 5, 3, 1, 0], [2, 1, 0], [9, 2, 1, 0], [2, 1, 0], [11, 2, 1, 0], [10, 12, 2, 9, 1, 0, 11], [13, 2, 10, 12, 9, 1, 0, 11], [14, 2, 13, 10, 12, 9, 1, 0, 11], [8, 15, 2, 7, 6, 4, 5, 3, 1, 0, 14, 13, 10, 12, 9, 11], [2, 16, 1, 0, 8, 15, 7, 6, 4, 5, 3, 14, 13, 10, 12, 9, 11]] fun _ => ?_
 refine zk 3 ?_
 refine zE (A1 0 2) ?_
 refine zE (.c (C7 p0.Attrs)) ?_
 refine zE (A6 v9) ?_
 obtain ⟨e12, he, h⟩ := aB h
 refine lM (e := [E2 v9 0]) [(78, .c (C7 p0.Attrs), some 1), (79, A6 v9, some 1)] (v := .c (G6 e12.Name e12.Value)) (foot := []) (by kernel_rfl) (by kernel_rfl) (by kernel_rfl) (fun hg => eK (enc := aM) (sz := 5) (l := p0.Attrs) (ix := v9) (cD he hg) (by kernel_rfl) (by kernel_rfl) (by kernel_rfl)) rfl rfl ?_
 clear he
 refine zE (.c (G6 e12.Name e12.Value)) ?_
 refine zE (F1 e12.Name) ?_
 refine zE (A1 0 2) ?_
 refine zE (.c (C7 p0.Attrs)) ?_
 refine zE (A6 v9) ?_
 refine zE (A6 (F6 v9)) ?_
 obtain ⟨e13, he, h⟩ := aB h
 refine lM (e := [E2 v9 0]) [(84, .c (C7 p0.Attrs), some 1), (86, A6 (F6 v9), some 1)] (v := .c (G6 e13.Name e13.Value)) (foot := []) (by kernel_rfl) (by kernel_rfl) (by kernel_rfl) (fun hg => eK (enc := aM) (sz := 5) (l := p0.Attrs) (ix := (F6 v9)) (cD he hg) (by kernel_rfl) (by kernel_rfl) (by kernel_rfl)) rfl rfl ?_
 clear he
 refine zE (.c (G6 e13.Name e13.Value)) ?_
 refine zE (F1 e13.Name) ?_
 refine zE (B2 (Mn e12.Name e13.Name)) ?_
 refine zP (.bool ((E2 v9 0) && (Mn e12.Name e13.Name))) ?_
 refine mC [1, 2, 3, 8, 91] (L2 := [C6 1 p1, I2 p2, I1, C6 8 v9, (91, B2 ((E2 v9 0) && (Mn e12.Name e13.Name)))]) (G2 := [(0, A7 p0)]) 32 ?_
 refine zi h (fun h => ?_) fun h => ?_
 refine za [6, 7] ?_
 cases h
 exact aI zr
 refine aC ?_
 refine zx fun _ => ?_
 refine zk 3 ?_
 obtain ⟨e14, he, h⟩ := aB h
 refine zd aM he ?_
 clear he
 refine zk 2 ?_
 obtain ⟨y15, he, h⟩ := aB h
 refine zc Xy (vH n _ y15 he) ?_
 clear he
 refine zk 1 ?_
 refine ze [1, 2, 3, 8, 9] ?_
 refine za [1, 2, 3, 8, 9, 101] ?_
 refine zi h (fun h => ?_) fun h => ?_
 refine za [6, 7] ?_
 cases h
 exact aI zr
 refine aC ?_
 refine bB ?_
 refine zb ?_
 exact eZ (zv [(0, 0)] [1, 2, 3, 8] 1) (⟨_, h, rfl⟩)
 exact aL (zv [(0, 0)] [1, 2, 3] 1) (bK (hj2 _ h))
def fM : Nat → aJ → Int → Int → Option (Int × Int)
 | 0, _, _, _ => none
 | n + 1, p0, p1, p2 => jL (fun a0 a1 a2 => fM n a0 a1 a2) n p0 p1 p2
theorem zQ (n : Nat) : (∀ (p0 : aJ) (p1 : Int) (p2 : Int) (r : (Int × Int)), fM n p0 p1 p2 = some r → dI E 98 0 [B0 p0, A6 p1, A6 p2] [] (.tup [A6 r.1, A6 r.2]) []) := by
 induction n with
 | zero => intro p0 p1 p2 r h; rw [fM] at h; cases h
 | succ n ih => intro p0 p1 p2 r h; rw [fM] at h; exact uB _ ih n _ _ _ r h
def iG  (n : Nat) (p0 : aJ) : Option Int := (fM n p0 1 0).bind fun (y1 : (Int × Int)) => some y1.2
theorem rC  (n : Nat) (p0 : aJ) (r : Int) (h : iG n p0 = some r) : dI E 59 0 [B0 p0] [] (A6 r) [] := by
 refine gT Tryz.func59 rfl ?_
 unfold iG at h
 refine za [1] ?_
 refine zx fun _ => ?_
 refine zk 1 ?_
 obtain ⟨y1, he, h⟩ := aB h
 refine zc fok98 (zQ n _ _ _ y1 he) ?_
 clear he
 refine zk 5 ?_
 refine ze [4] ?_
 refine za [2] ?_
 cases h
 exact aI zr
def wB  (n : Nat) (p0 : aN) (p1 : Int) : Option (aJ × aN) := (pA n p0 p1).bind fun (y1 : (aJ × aN)) => (iG n y1.1).bind fun (y2 : Int) => (if (y2 != 0) = true then some ((aJ.mk 1 (⟨#[]⟩ : ByteArray) ([] : List bD) ([] : List cU) ([] : List aJ)), y1.2) else some (y1.1, y1.2))
theorem Mx  (n : Nat) (p0 : aN) (p1 : Int) (r : (aJ × aN)) (h : wB n p0 p1 = some r) : dI E 27 1 [A1 0 0, A6 p1] [E0 p0] (B0 r.1) [E0 r.2] := by
 refine gT Tryz.func27 rfl ?_
 unfold wB at h
 refine za [0, 1, 4] ?_
 refine zx fun _ => ?_
 refine zk 2 ?_
 obtain ⟨y1, he, h⟩ := aB h
 refine zo [(0, 0)] fok58 (Mj n _ _ y1 he) ?_
 clear he
 refine zk 2 ?_
 refine ze [4, 5] ?_
 refine aO ?_
 refine zx fun _ => ?_
 refine zk 1 ?_
 obtain ⟨y2, he, h⟩ := aB h
 refine zc fok59 (rC n _ y2 he) ?_
 clear he
 refine zk 1 ?_
 refine ze [4, 5, 11] ?_
 refine zi h (fun h => ?_) fun h => ?_
 refine za [4] ?_
 cases h
 exact aI zr
 refine aC ?_
 refine za [4] ?_
 cases h
 exact aI zr
end Go.Proofs.YtojkihhnioeggaaGreatDoor.S
