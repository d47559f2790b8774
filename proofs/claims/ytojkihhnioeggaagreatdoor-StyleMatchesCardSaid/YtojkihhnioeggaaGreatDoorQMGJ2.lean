import Derived.Test.YtojkihhnioeggaaGreatDoorQMGJ1
set_option linter.unusedVariables false
set_option linter.unusedSimpArgs false
set_option maxRecDepth 100000
set_option maxHeartbeats 4000000
namespace Go.Proofs.YtojkihhnioeggaaGreatDoor.S
open Go Go.Bm
def oK (self_ref11_join : aS → aS → Option (aS × Bool)) (n : Nat) (p0 : aS) (p1 : aS) : Option (aS × Bool) := (if (p0.Kind != p1.Kind) = true then some ((aS.mk 0 ([] : List aS)), false) else (if ((List.length p0.Of : Int) == 0) = true then some (p1, true) else (if ((List.length p1.Of : Int) == 0) = true then some (p0, true) else (idx p0.Of 0).bind fun (e1 : aS) => (idx p1.Of 0).bind fun (e2 : aS) => (self_ref11_join e1 e2).bind fun (y3 : (aS × Bool)) => (if (!y3.2) = true then some ((aS.mk 0 ([] : List aS)), false) else some ((aS.mk p0.Kind [y3.1]), true)))))
theorem wN (self_ref11_join : aS → aS → Option (aS × Bool)) (ih_ref11_join : ∀ (p0 : aS) (p1 : aS) (r : (aS × Bool)), self_ref11_join p0 p1 = some r → cN E 146 0 [.agg [I p0.Kind, .lit (List.map bF p0.Of)], .agg [I p1.Kind, .lit (List.map bF p1.Of)]] [] (.tup [.agg [I r.1.Kind, .lit (List.map bF r.1.Of)], .c (Bo r.2)]) []) (n : Nat) (p0 : aS) (p1 : aS) (r : (aS × Bool)) (h : oK self_ref11_join n p0 p1 = some r) : cN E 146 0 [.agg [I p0.Kind, .lit (List.map bF p0.Of)], .agg [I p1.Kind, .lit (List.map bF p1.Of)]] [] (.tup [.agg [I r.1.Kind, .lit (List.map bF r.1.Of)], .c (Bo r.2)]) [] := by
 refine fW Tryz.func146 rfl ?_
 unfold oK at h
 refine za [2, 3, 4] ?_
 refine aK ?_
 refine za [2, 3, 4, 12] ?_
 refine zi h (fun h => ?_) fun h => ?_
 refine za [4, 5] ?_
 cases h
 exact aG zr
 refine aC ?_
 refine aK ?_
 refine zx fun _ => ?_
 refine zk 2 ?_
 refine zl bF p0.Of ?_
 refine zk 1 ?_
 refine ze [2, 3, 4, 17] ?_
 refine zi h (fun h => ?_) fun h => ?_
 refine za [4, 5] ?_
 cases h
 exact aG zr
 refine aC ?_
 refine aK ?_
 refine zx fun _ => ?_
 refine zk 2 ?_
 refine zl bF p1.Of ?_
 refine zk 1 ?_
 refine ze [2, 3, 4, 22] ?_
 refine zi h (fun h => ?_) fun h => ?_
 refine za [4, 5] ?_
 cases h
 exact aG zr
 refine aC ?_
 refine wP [[], [0], [1, 0], [2, 1, 0], [], [4], [5, 4], [6, 5, 4], [3, 7, 2, 1, 0, 6, 5, 4], [8, 3, 7, 2, 1, 0, 6, 5, 4], [9, 8, 3, 7, 2, 1, 0, 6, 5, 4], [9, 8, 3, 7, 2, 1, 0, 6, 5, 4], [], [12, 10, 8, 0, 1, 2, 3, 4, 5, 6, 7, 9], [11, 13, 0, 1, 2, 3, 4, 5, 6, 7, 8, 9, 10, 12]] fun _ => ?_
 refine zk 2 ?_
 obtain ⟨e1, he, h⟩ := aB h
 refine cF (v := .c (.imm [I e1.Kind, .lit (List.map bF e1.Of)])) (foot := []) (dR (enc := bF) (sz := 2) (l := p0.Of) (ix := 0) he (by kernel_rfl) (fU e1) (by kernel_rfl)) (by kernel_rfl) rfl rfl ?_
 clear he
 refine zk 3 ?_
 obtain ⟨e2, he, h⟩ := aB h
 refine cF (v := .c (.imm [I e2.Kind, .lit (List.map bF e2.Of)])) (foot := []) (dR (enc := bF) (sz := 2) (l := p1.Of) (ix := 0) he (by kernel_rfl) (fU e2) (by kernel_rfl)) (by kernel_rfl) rfl rfl ?_
 clear he
 refine zk 1 ?_
 obtain ⟨y3, he, h⟩ := aB h
 refine zc Rg (ih_ref11_join _ _ y3 he) ?_
 clear he
 refine zk 6 ?_
 refine jV [2, 4, 6, 7] (L2 := [(2, .c (.ptr 0 0)), (4, .c (.ptr 2 0)), (6, .c (.ptr 29 0)), (7, .c (Bo y3.2))]) (G2 := [(0, .blk 190 [I p0.Kind, .lit (List.map bF p0.Of)]), (1, .blk 190 [I p1.Kind, .lit (List.map bF p1.Of)]), (2, .blk 190 [I 0, bY]), (29, .blk 190 [I y3.1.Kind, .lit (List.map bF y3.1.Of)])]) 32 ?_
 refine aK ?_
 refine za [2, 4, 6, 37] ?_
 refine zi h (fun h => ?_) fun h => ?_
 refine za [4, 5] ?_
 cases h
 exact aG zr
 refine aC ?_
 refine zx fun _ => ?_
 refine zk 3 ?_
 refine pO (e := 190) (sz := 2) (len := 1) (r := [I y3.1.Kind, .lit (List.map bF y3.1.Of)]) (l' := List.map bF [y3.1]) (nm := 37) (by kernel_rfl) (by simp only [List.map_cons, List.map_nil, fU]; kernel_rfl) (by kernel_rfl) (by kernel_rfl) rfl rfl rfl ?_
 refine zk 3 ?_
 refine ze [4, 5] ?_
 cases h
 exact aG zr
def kO : Nat → aS → aS → Option (aS × Bool)
 | 0, _, _ => none
 | n + 1, p0, p1 => oK (fun a0 a1 => kO n a0 a1) n p0 p1
theorem Ew (n : Nat) : (∀ (p0 : aS) (p1 : aS) (r : (aS × Bool)), kO n p0 p1 = some r → cN E 146 0 [.agg [I p0.Kind, .lit (List.map bF p0.Of)], .agg [I p1.Kind, .lit (List.map bF p1.Of)]] [] (.tup [.agg [I r.1.Kind, .lit (List.map bF r.1.Of)], .c (Bo r.2)]) []) := by
 induction n with
 | zero => intro p0 p1 r h; rw [kO] at h; cases h
 | succ n ih => intro p0 p1 r h; rw [kO] at h; exact wN _ ih n _ _ r h
def eG (p0 : aH) (self_ref11_check : aH → Int → Int → Option (aS × Int × Int)) (p1 : Int) (j2 : Int → Bool → List aS → Option (aS × Int × Int)) : Nat → Int → Bool → Int → List aS → Option (aS × Int × Int)
 | 0, _, _, _, _ => none
 | n + 1, v16, v17, v18, v19 => (if (decide (v18 < (List.length p0.L : Int))) = true then (aV (fun (v25 : Bool) (v26 : Int) (v27 : List aS) => eG p0 self_ref11_check p1 j2 n v26 v25 (IntKind.wrap .i64 (v18 + 1)) v27) (fun (j20 : Bool → Int → List aS → Option (aS × Int × Int)) => (idx p0.L v18).bind fun (e21 : aH) => (self_ref11_check e21 (IntKind.wrap .i64 (p1 + 1)) v16).bind fun (y22 : (aS × Int × Int)) => (if (y22.2.2 != 0) = true then some ((aS.mk 0 ([] : List aS)), y22.2.1, y22.2.2) else (if (!v17) = true then j20 v17 y22.2.1 v19 else (if ((List.length v19 : Int) == 0) = true then j20 v17 y22.2.1 [y22.1] else (idx v19 0).bind fun (e23 : aS) => (kO n e23 y22.1).bind fun (y24 : (aS × Bool)) => j20 y24.2 y22.2.1 [y24.1]))))) else j2 v16 v17 v19)
def dQ (self_ref11_check : aH → Int → Int → Option (aS × Int × Int)) (n : Nat) (p0 : aH) (p1 : Int) (p2 : Int) : Option (aS × Int × Int) := (if ((p0.Kind == 4) && (decide (p1 > 16))) = true then some ((aS.mk 0 ([] : List aS)), (IntKind.wrap .i64 (p2 + 1)), 8) else (if (((((decide (p0.Kind < 1)) || (decide (p0.Kind > 4))) || (((p0.N != 0) && (p0.Kind != 1)) && (p0.Kind != 2))) || ((!(cG p0.S (⟨#[]⟩ : ByteArray))) && (p0.Kind != 3))) || ((decide ((List.length p0.L : Int) > 0)) && (!(p0.Kind == 4)))) = true then some ((aS.mk 0 ([] : List aS)), (IntKind.wrap .i64 (p2 + 1)), 9) else (if (((p0.Kind == 1) && ((decide (p0.N < (-1099511627776 : Int))) || (decide (p0.N > 1099511627776)))) || (((p0.Kind == 2) && (p0.N != 0)) && (p0.N != 1))) = true then some ((aS.mk 0 ([] : List aS)), (IntKind.wrap .i64 (p2 + 1)), 1) else (if (((decide ((ByteArray.size p0.S : Int) > 2000)) || (decide ((List.length p0.L : Int) > 100))) || (decide ((IntKind.wrap .i64 (p2 + 1)) > 1000))) = true then some ((aS.mk 0 ([] : List aS)), (IntKind.wrap .i64 (p2 + 1)), 2) else (pM n p0.S).bind fun (y1 : Bool) => (if (!y1) = true then some ((aS.mk 0 ([] : List aS)), (IntKind.wrap .i64 (p2 + 1)), 3) else (aV (fun (v35 : Int) (v36 : Bool) (v37 : List aS) => (if (!v36) = true then some ((aS.mk 0 ([] : List aS)), v35, 5) else some ((aS.mk p0.Kind v37), v35, 0))) (fun (j2 : Int → Bool → List aS → Option (aS × Int × Int)) => eG p0 self_ref11_check p1 j2 n (IntKind.wrap .i64 (p2 + 1)) true 0 ([] : List aS))))))))
theorem vP (self_ref11_check : aH → Int → Int → Option (aS × Int × Int)) (ih_ref11_check : ∀ (p0 : aH) (p1 : Int) (p2 : Int) (r : (aS × Int × Int)), self_ref11_check p0 p1 p2 = some r → cN E 143 0 [.agg [I p0.Kind, I p0.N, Sx p0.S, .lit (List.map aO p0.L)], .c (I p1), .c (I p2)] [] (.tup [.agg [I r.1.Kind, .lit (List.map bF r.1.Of)], .c (I r.2.1), .c (I r.2.2)]) []) (n : Nat) (p0 : aH) (p1 : Int) (p2 : Int) (r : (aS × Int × Int)) (h : dQ self_ref11_check n p0 p1 p2 = some r) : cN E 143 0 [.agg [I p0.Kind, I p0.N, Sx p0.S, .lit (List.map aO p0.L)], .c (I p1), .c (I p2)] [] (.tup [.agg [I r.1.Kind, .lit (List.map bF r.1.Of)], .c (I r.2.1), .c (I r.2.2)]) [] := by
 refine fW Tryz.func143 rfl ?_
 unfold dQ at h
 refine za [1, 2, 3, 6] ?_
 refine za [1, 2, 3, 6] ?_
 refine za [1, 2, 3, 6, 9] ?_
 refine aK ?_
 refine zx fun _ => ?_
 refine zk 2 ?_
 refine zE (.c (I p1)) ?_
 refine zE (.c (Bo (decide (p1 > 16)))) ?_
 refine zP (.bool ((p0.Kind == 4) && (decide (p1 > 16)))) ?_
 refine ze [1, 2, 3, 6, 9, 27] ?_
 refine zi h (fun h => ?_) fun h => ?_
 refine za [6, 7, 8] ?_
 cases h
 exact aG zr
 refine aC ?_
 refine aK ?_
 refine zx fun _ => ?_
 refine zk 4 ?_
 refine zE (.c (.ptr 0 0)) ?_
 refine zE (.c (I p0.Kind)) ?_
 refine zE (.c (Bo (decide (p0.Kind > 4)))) ?_
 refine zP (.bool ((decide (p0.Kind < 1)) || (decide (p0.Kind > 4)))) ?_
 refine zk 1 ?_
 refine zE (.c (.ptr 0 1)) ?_
 refine zE (.c (I p0.N)) ?_
 refine zE (.c (Bo (p0.N != 0))) ?_
 refine zF [(!((decide (p0.Kind < 1)) || (decide (p0.Kind > 4))))] (.c (Bo (p0.N != 0))) ?_
 refine zE (.c (.ptr 0 0)) ?_
 refine zE (.c (I p0.Kind)) ?_
 refine zE (.c (Bo (p0.Kind != 1))) ?_
 refine zP (.bool ((p0.N != 0) && (p0.Kind != 1))) ?_
 refine zF [(!((decide (p0.Kind < 1)) || (decide (p0.Kind > 4))))] (.c (Bo ((p0.N != 0) && (p0.Kind != 1)))) ?_
 refine zE (.c (.ptr 0 0)) ?_
 refine zE (.c (I p0.Kind)) ?_
 refine zE (.c (Bo (p0.Kind != 2))) ?_
 refine zP (.bool (((p0.N != 0) && (p0.Kind != 1)) && (p0.Kind != 2))) ?_
 refine zP (.bool (((decide (p0.Kind < 1)) || (decide (p0.Kind > 4))) || (((p0.N != 0) && (p0.Kind != 1)) && (p0.Kind != 2)))) ?_
 refine Ym 1 (L' := [(1, .c (I p1)), (2, .c (I (IntKind.wrap .i64 (p2 + 1)))), (3, .c (.ptr 0 0)), (6, .c (.ptr 1 0)), (9, .c (Bo (p0.Kind == 4))), (27, .c (Bo ((p0.Kind == 4) && (decide (p1 > 16))))), (30, .c (.ptr 0 0)), (31, .c (I p0.Kind)), (32, .c (Bo (decide (p0.Kind < 1)))), (33, .c (Bo (decide (p0.Kind < 1)))), (34, .cnd [(!(decide (p0.Kind < 1)))] (.c (.ptr 0 0))), (35, .cnd [(!(decide (p0.Kind < 1)))] (.c (I p0.Kind))), (36, .cnd [(!(decide (p0.Kind < 1)))] (.c (Bo (decide (p0.Kind > 4))))), (37, .c (Bo ((decide (p0.Kind < 1)) || (decide (p0.Kind > 4))))), (38, .c (Bo ((decide (p0.Kind < 1)) || (decide (p0.Kind > 4))))), (39, .cnd [(!((decide (p0.Kind < 1)) || (decide (p0.Kind > 4))))] (.c (.ptr 0 1))), (40, .cnd [(!((decide (p0.Kind < 1)) || (decide (p0.Kind > 4))))] (.c (I p0.N))), (41, .cnd [(!((decide (p0.Kind < 1)) || (decide (p0.Kind > 4))))] (.c (Bo (p0.N != 0)))), (42, .cnd [(!((decide (p0.Kind < 1)) || (decide (p0.Kind > 4))))] (.c (Bo (p0.N != 0)))), (43, .cnd [(!((decide (p0.Kind < 1)) || (decide (p0.Kind > 4)))), (p0.N != 0)] (.c (.ptr 0 0))), (44, .cnd [(!((decide (p0.Kind < 1)) || (decide (p0.Kind > 4)))), (p0.N != 0)] (.c (I p0.Kind))), (45, .cnd [(!((decide (p0.Kind < 1)) || (decide (p0.Kind > 4)))), (p0.N != 0)] (.c (Bo (p0.Kind != 1)))), (46, .cnd [(!((decide (p0.Kind < 1)) || (decide (p0.Kind > 4))))] (.c (Bo ((p0.N != 0) && (p0.Kind != 1))))), (47, .cnd [(!((decide (p0.Kind < 1)) || (decide (p0.Kind > 4))))] (.c (Bo ((p0.N != 0) && (p0.Kind != 1))))), (48, .cnd [(!((decide (p0.Kind < 1)) || (decide (p0.Kind > 4)))), ((p0.N != 0) && (p0.Kind != 1))] (.c (.ptr 0 0))), (49, .cnd [(!((decide (p0.Kind < 1)) || (decide (p0.Kind > 4)))), ((p0.N != 0) && (p0.Kind != 1))] (.c (I p0.Kind))), (50, .cnd [(!((decide (p0.Kind < 1)) || (decide (p0.Kind > 4)))), ((p0.N != 0) && (p0.Kind != 1))] (.c (Bo (p0.Kind != 2)))), (51, .cnd [(!((decide (p0.Kind < 1)) || (decide (p0.Kind > 4))))] (.c (Bo (((p0.N != 0) && (p0.Kind != 1)) && (p0.Kind != 2))))), (52, .c (Bo (((decide (p0.Kind < 1)) || (decide (p0.Kind > 4))) || (((p0.N != 0) && (p0.Kind != 1)) && (p0.Kind != 2))))), (53, .c (Bo (((decide (p0.Kind < 1)) || (decide (p0.Kind > 4))) || (((p0.N != 0) && (p0.Kind != 1)) && (p0.Kind != 2)))))]) (G' := [(0, .blk 152 [I p0.Kind, I p0.N, Sx p0.S, .lit (List.map aO p0.L)]), (1, .blk 190 [I 0, bY])]) (X' := []) ?_
 refine zE (.c (.ptr 0 2)) ?_
 refine zE (.c (Sx p0.S)) ?_
 refine zE (.c (Bo (!(cG p0.S (⟨#[]⟩ : ByteArray))))) ?_
 refine zF [(!(((decide (p0.Kind < 1)) || (decide (p0.Kind > 4))) || (((p0.N != 0) && (p0.Kind != 1)) && (p0.Kind != 2))))] (.c (Bo (!(cG p0.S (⟨#[]⟩ : ByteArray))))) ?_
 refine zE (.c (.ptr 0 0)) ?_
 refine zE (.c (I p0.Kind)) ?_
 refine zE (.c (Bo (p0.Kind != 3))) ?_
 refine zP (.bool ((!(cG p0.S (⟨#[]⟩ : ByteArray))) && (p0.Kind != 3))) ?_
 refine zP (.bool ((((decide (p0.Kind < 1)) || (decide (p0.Kind > 4))) || (((p0.N != 0) && (p0.Kind != 1)) && (p0.Kind != 2))) || ((!(cG p0.S (⟨#[]⟩ : ByteArray))) && (p0.Kind != 3)))) ?_
 refine zk 1 ?_
 refine zE (.c (.ptr 0 3)) ?_
 refine zE (.c (.lit (List.map aO p0.L))) ?_
 refine jW (e := [(!((((decide (p0.Kind < 1)) || (decide (p0.Kind > 4))) || (((p0.N != 0) && (p0.Kind != 1)) && (p0.Kind != 2))) || ((!(cG p0.S (⟨#[]⟩ : ByteArray))) && (p0.Kind != 3))))]) [(65, .c (.lit (List.map aO p0.L)), some 1)] (v := .c (I (List.length p0.L : Int))) (foot := []) (by kernel_rfl) (by kernel_rfl) (by kernel_rfl) (fun hg => kR (enc := aO) (l := p0.L) (by kernel_rfl)) rfl rfl ?_
 refine zE (.c (Bo (decide ((List.length p0.L : Int) > 0)))) ?_
 refine zF [(!((((decide (p0.Kind < 1)) || (decide (p0.Kind > 4))) || (((p0.N != 0) && (p0.Kind != 1)) && (p0.Kind != 2))) || ((!(cG p0.S (⟨#[]⟩ : ByteArray))) && (p0.Kind != 3))))] (.c (Bo (decide ((List.length p0.L : Int) > 0)))) ?_
 refine zE (.c (Bo (p0.Kind == 4))) ?_
 refine zE (.c (Bo (!(p0.Kind == 4)))) ?_
 refine zP (.bool ((decide ((List.length p0.L : Int) > 0)) && (!(p0.Kind == 4)))) ?_
 refine zP (.bool (((((decide (p0.Kind < 1)) || (decide (p0.Kind > 4))) || (((p0.N != 0) && (p0.Kind != 1)) && (p0.Kind != 2))) || ((!(cG p0.S (⟨#[]⟩ : ByteArray))) && (p0.Kind != 3))) || ((decide ((List.length p0.L : Int) > 0)) && (!(p0.Kind == 4))))) ?_
 refine jV [1, 2, 3, 6, 72] (L2 := [(1, .c (I p1)), (2, .c (I (IntKind.wrap .i64 (p2 + 1)))), (3, .c (.ptr 0 0)), (6, .c (.ptr 1 0)), (72, .c (Bo (((((decide (p0.Kind < 1)) || (decide (p0.Kind > 4))) || (((p0.N != 0) && (p0.Kind != 1)) && (p0.Kind != 2))) || ((!(cG p0.S (⟨#[]⟩ : ByteArray))) && (p0.Kind != 3))) || ((decide ((List.length p0.L : Int) > 0)) && (!(p0.Kind == 4))))))]) (G2 := [(0, .blk 152 [I p0.Kind, I p0.N, Sx p0.S, .lit (List.map aO p0.L)]), (1, .blk 190 [I 0, bY])]) 59 ?_
 refine zi h (fun h => ?_) fun h => ?_
 refine za [6, 7, 8] ?_
 cases h
 exact aG zr
 refine aC ?_
 refine aK ?_
 refine zx fun _ => ?_
 refine zk 4 ?_
 refine zE (.c (.ptr 0 1)) ?_
 refine zE (.c (I p0.N)) ?_
 refine zE (.c (Bo (decide (p0.N < (-1099511627776 : Int))))) ?_
 refine zF [(p0.Kind == 1)] (.c (Bo (decide (p0.N < (-1099511627776 : Int))))) ?_
 refine zE (.c (.ptr 0 1)) ?_
 refine zE (.c (I p0.N)) ?_
 refine zE (.c (Bo (decide (p0.N > 1099511627776)))) ?_
 refine zP (.bool ((decide (p0.N < (-1099511627776 : Int))) || (decide (p0.N > 1099511627776)))) ?_
 refine zP (.bool ((p0.Kind == 1) && ((decide (p0.N < (-1099511627776 : Int))) || (decide (p0.N > 1099511627776))))) ?_
 refine zk 1 ?_
 refine zE (.c (.ptr 0 0)) ?_
 refine zE (.c (I p0.Kind)) ?_
 refine zE (.c (Bo (p0.Kind == 2))) ?_
 refine zF [(!((p0.Kind == 1) && ((decide (p0.N < (-1099511627776 : Int))) || (decide (p0.N > 1099511627776)))))] (.c (Bo (p0.Kind == 2))) ?_
 refine zE (.c (.ptr 0 1)) ?_
 refine zE (.c (I p0.N)) ?_
 refine zE (.c (Bo (p0.N != 0))) ?_
 refine zP (.bool ((p0.Kind == 2) && (p0.N != 0))) ?_
 refine zF [(!((p0.Kind == 1) && ((decide (p0.N < (-1099511627776 : Int))) || (decide (p0.N > 1099511627776)))))] (.c (Bo ((p0.Kind == 2) && (p0.N != 0)))) ?_
 refine zE (.c (.ptr 0 1)) ?_
 refine zE (.c (I p0.N)) ?_
 refine zE (.c (Bo (p0.N != 1))) ?_
 refine zP (.bool (((p0.Kind == 2) && (p0.N != 0)) && (p0.N != 1))) ?_
 refine zP (.bool (((p0.Kind == 1) && ((decide (p0.N < (-1099511627776 : Int))) || (decide (p0.N > 1099511627776)))) || (((p0.Kind == 2) && (p0.N != 0)) && (p0.N != 1)))) ?_
 refine jV [1, 2, 3, 6, 102] (L2 := [(1, .c (I p1)), (2, .c (I (IntKind.wrap .i64 (p2 + 1)))), (3, .c (.ptr 0 0)), (6, .c (.ptr 1 0)), (102, .c (Bo (((p0.Kind == 1) && ((decide (p0.N < (-1099511627776 : Int))) || (decide (p0.N > 1099511627776)))) || (((p0.Kind == 2) && (p0.N != 0)) && (p0.N != 1)))))]) (G2 := [(0, .blk 152 [I p0.Kind, I p0.N, Sx p0.S, .lit (List.map aO p0.L)]), (1, .blk 190 [I 0, bY])]) 87 ?_
 refine zi h (fun h => ?_) fun h => ?_
 refine za [6, 7, 8] ?_
 cases h
 exact aG zr
 refine aC ?_
 refine aK ?_
 refine zx fun _ => ?_
 refine zk 5 ?_
 refine zE (.c (.ptr 0 3)) ?_
 refine zE (.c (.lit (List.map aO p0.L))) ?_
 refine jW (e := [(!(decide ((ByteArray.size p0.S : Int) > 2000)))]) [(111, .c (.lit (List.map aO p0.L)), some 1)] (v := .c (I (List.length p0.L : Int))) (foot := []) (by kernel_rfl) (by kernel_rfl) (by kernel_rfl) (fun hg => kR (enc := aO) (l := p0.L) (by kernel_rfl)) rfl rfl ?_
 refine zE (.c (Bo (decide ((List.length p0.L : Int) > 100)))) ?_
 refine zP (.bool ((decide ((ByteArray.size p0.S : Int) > 2000)) || (decide ((List.length p0.L : Int) > 100)))) ?_
 refine zk 1 ?_
 refine zE (.c (I (IntKind.wrap .i64 (p2 + 1)))) ?_
 refine zE (.c (Bo (decide ((IntKind.wrap .i64 (p2 + 1)) > 1000)))) ?_
 refine zP (.bool (((decide ((ByteArray.size p0.S : Int) > 2000)) || (decide ((List.length p0.L : Int) > 100))) || (decide ((IntKind.wrap .i64 (p2 + 1)) > 1000)))) ?_
 refine jV [1, 2, 3, 6, 118] (L2 := [(1, .c (I p1)), (2, .c (I (IntKind.wrap .i64 (p2 + 1)))), (3, .c (.ptr 0 0)), (6, .c (.ptr 1 0)), (118, .c (Bo (((decide ((ByteArray.size p0.S : Int) > 2000)) || (decide ((List.length p0.L : Int) > 100))) || (decide ((IntKind.wrap .i64 (p2 + 1)) > 1000)))))]) (G2 := [(0, .blk 152 [I p0.Kind, I p0.N, Sx p0.S, .lit (List.map aO p0.L)]), (1, .blk 190 [I 0, bY])]) 101 ?_
 refine zi h (fun h => ?_) fun h => ?_
 refine za [6, 7, 8] ?_
 cases h
 exact aG zr
 refine aC ?_
 refine aK ?_
 refine zx fun _ => ?_
 refine zk 2 ?_
 obtain ⟨y1, he, h⟩ := aB h
 refine zc Yq (Fa n _ y1 he) ?_
 clear he
 refine zk 1 ?_
 refine ze [1, 2, 3, 6, 124] ?_
 refine zi h (fun h => ?_) fun h => ?_
 refine za [6, 7, 8] ?_
 cases h
 exact aG zr
 refine aC ?_
 refine za [1, 2, 3, 6, 10] ?_
 refine za [1, 2, 3, 6, 10, 11] ?_
 refine aQ h (fun A j => ∀ v35 v36 v37, j v35 v36 v37 = some r → A (mk [(2, .c (I v35)), (6, .c (.ptr 0 0)), (10, .c (.ptr 1 0)), (11, .c (Bo v36))] [(0, .blk 190 [I 0, bY]), (1, .blk 190 [I p0.Kind, .app 2 (List.map bF v37)]), (2, .tok 190 2 (List.length v37))] 3)) (fun v35 v36 v37 h => ?_) (fun j2 Aj2 hj2 h => ?_)
 refine aK ?_
 refine za [2, 6, 10, 179] ?_
 refine zi h (fun h => ?_) fun h => ?_
 refine za [6, 7, 8] ?_
 cases h
 exact aG zr
 refine aC ?_
 refine za [6, 7, 8] ?_
 cases h
 exact aG zr
 refine za [1, 2, 3, 6, 10, 11, 12] ?_
 refine aF ?_
 refine bA (fun n s => ∃ v16 v17 v18 v19, eG p0 self_ref11_check p1 j2 n v16 v17 v18 v19 = some r ∧ s = mk [(1, .c (I p1)), (2, .c (I v16)), (3, .c (.ptr 0 0)), (6, .c (.ptr 1 0)), (10, .c (.ptr 2 0)), (11, .c (Bo v17)), (12, .c (I v18))] [(0, .blk 152 [I p0.Kind, I p0.N, Sx p0.S, .lit (List.map aO p0.L)]), (1, .blk 190 [I 0, bY]), (2, .blk 190 [I p0.Kind, .app 3 (List.map bF v19)]), (3, .tok 190 2 (List.length v19))] 4) n _ (dU.trans (lB (n := 108) (T0 := 190) (l := [I p0.Kind, bY]) (G2 := [(0, .blk 152 [I p0.Kind, I p0.N, Sx p0.S, .lit (List.map aO p0.L)]), (1, .blk 190 [I 0, bY]), (108, .blk 190 [I p0.Kind, .app 112 (List.map bF ([] : List aS))]), (112, .tok 190 2 (List.length ([] : List aS)))]) (lim2 := 113) 1 190 2 (by kernel_rfl) (by kernel_rfl) (by kernel_rfl) (by kernel_rfl)) (zv [(0, 0), (1, 1), (108, 2), (112, 3)] [1, 2, 3, 6, 10, 11, 12] 4)) ⟨_, _, _, _, h, rfl⟩ (fun s ⟨v16, v17, v18, v19, h, _⟩ => nomatch h) ?_
 rintro n s ⟨v16, v17, v18, v19, h, rfl⟩
 rw [eG] at h
 refine aK ?_
 refine zx fun _ => ?_
 refine zk 3 ?_
 refine zl aO p0.L ?_
 refine zk 1 ?_
 refine ze [1, 2, 3, 6, 10, 11, 12, 134] ?_
 refine zi h (fun h => ?_) fun h => ?_
 refine aC ?_
 refine aQ h (fun A j => ∀ v25 v26 v27, j v25 v26 v27 = some r → A (mk [(1, .c (I p1)), (3, .c (.ptr 0 0)), (6, .c (.ptr 1 0)), (10, .c (.ptr 2 0)), (11, .c (Bo v25)), (12, .c (I v18)), (2, .c (I v26))] [(0, .blk 152 [I p0.Kind, I p0.N, Sx p0.S, .lit (List.map aO p0.L)]), (1, .blk 190 [I 0, bY]), (2, .blk 190 [I p0.Kind, .app 3 (List.map bF v27)]), (3, .tok 190 2 (List.length v27))] 4)) (fun v25 v26 v27 h => ?_) (fun j20 Aj20 hj20 h => ?_)
 refine aT ?_
 refine zb ?_
 exact dI (zv [(0, 0), (1, 1), (2, 2), (3, 3)] [1, 2, 3, 6, 10, 11, 12] 4) (⟨_, _, _, _, h, rfl⟩)
 refine aF ?_
 refine zx fun _ => ?_
 refine zk 3 ?_
 obtain ⟨e21, he, h⟩ := aB h
 refine cF (v := .c (.imm [I e21.Kind, I e21.N, Sx e21.S, .lit (List.map aO e21.L)])) (foot := []) (dR (enc := aO) (sz := 4) (l := p0.L) (ix := v18) he (by kernel_rfl) (dO e21) (by kernel_rfl)) (by kernel_rfl) rfl rfl ?_
 clear he
 refine zk 4 ?_
 obtain ⟨y22, he, h⟩ := aB h
 refine zc Re (ih_ref11_check _ _ _ y22 he) ?_
 clear he
 refine zk 8 ?_
 refine ze [1, 3, 6, 10, 11, 12, 13, 14, 15] ?_
 refine za [1, 2, 3, 6, 10, 11, 12, 13, 15] ?_
 refine aK ?_
 refine za [1, 2, 3, 6, 10, 11, 12, 13, 15, 152] ?_
 refine zi h (fun h => ?_) fun h => ?_
 refine za [6, 7, 8] ?_
 cases h
 exact aG zr
 refine aC ?_
 refine aK ?_
 refine za [1, 2, 3, 6, 10, 11, 12, 13, 157] ?_
 refine zi h (fun h => ?_) fun h => ?_
 exact aI (zv [(0, 0), (1, 1), (2, 2), (3, 3)] [1, 3, 6, 10, 11, 12, 2] 4) (bD (hj20 _ _ _ h))
 refine aC ?_
 refine aK ?_
 refine zx fun _ => ?_
 refine zk 2 ?_
 refine zl bF v19 ?_
 refine zk 1 ?_
 refine jV [1, 2, 3, 6, 10, 11, 12, 13, 161] (L2 := [(1, .c (I p1)), (3, .c (.ptr 0 0)), (6, .c (.ptr 1 0)), (10, .c (.ptr 2 0)), (11, .c (Bo v17)), (12, .c (I v18)), (13, .c (.ptr 22 0)), (2, .c (I y22.2.1)), (161, .c (Bo ((List.length v19 : Int) == 0)))]) (G2 := [(0, .blk 152 [I p0.Kind, I p0.N, Sx p0.S, .lit (List.map aO p0.L)]), (1, .blk 190 [I 0, bY]), (2, .blk 190 [I p0.Kind, .app 3 (List.map bF v19)]), (3, .tok 190 2 (List.length v19)), (22, .blk 190 [I y22.1.Kind, .lit (List.map bF y22.1.Of)])]) 36 ?_
 refine zi h (fun h => ?_) fun h => ?_
 refine zx fun _ => ?_
 refine zk 1 ?_
 refine pO (e := 190) (sz := 2) (len := 1) (r := [I y22.1.Kind, .lit (List.map bF y22.1.Of)]) (l' := List.map bF [y22.1]) (nm := 37) (by kernel_rfl) (by simp only [List.map_cons, List.map_nil, fU]; kernel_rfl) (by kernel_rfl) (by kernel_rfl) rfl rfl rfl ?_
 refine zk 2 ?_
 refine ze [1, 2, 3, 6, 10, 11, 12] ?_
 exact aI (zv [(0, 0), (1, 1), (2, 2), (37, 3)] [1, 3, 6, 10, 11, 12, 2] 4) (bD (hj20 _ _ _ h))
 refine aC ?_
 refine wP [[], [0], [1, 0], [2, 1, 0], [], [3, 4, 2, 1, 0], [5, 3, 4, 2, 1, 0], [6, 5, 3, 4, 2, 1, 0], [6, 5, 3, 4, 2, 1, 0], [], [9, 7, 5, 0, 1, 2, 3, 4, 6], [8, 10, 0, 1, 2, 3, 4, 5, 6, 7, 9]] fun _ => ?_
 refine zk 2 ?_
 obtain ⟨e23, he, h⟩ := aB h
 refine cF (v := .c (.imm [I e23.Kind, .lit (List.map bF e23.Of)])) (foot := []) (dR (enc := bF) (sz := 2) (l := v19) (ix := 0) he (by kernel_rfl) (fU e23) (by kernel_rfl)) (by kernel_rfl) rfl rfl ?_
 clear he
 refine zk 2 ?_
 obtain ⟨y24, he, h⟩ := aB h
 refine zc Rg (Ew n _ _ y24 he) ?_
 clear he
 refine zk 6 ?_
 refine ze [1, 2, 3, 6, 10, 12, 16, 17] ?_
 refine za [1, 2, 3, 6, 10, 11, 12, 16] ?_
 refine aT ?_
 refine zy fun _ => ?_
 refine zk 1 ?_
 refine pO (e := 190) (sz := 2) (len := 1) (r := [I y24.1.Kind, .lit (List.map bF y24.1.Of)]) (l' := List.map bF [y24.1]) (nm := 51) (by kernel_rfl) (by simp only [List.map_cons, List.map_nil, fU]; kernel_rfl) (by kernel_rfl) (by kernel_rfl) rfl rfl rfl ?_
 refine zk 2 ?_
 refine bL ?_
 exact dI (zv [(0, 0), (1, 1), (2, 2), (51, 3)] [1, 3, 6, 10, 11, 12, 2] 4) (hj20 _ _ _ h)
 exact aI (zv [(1, 0), (2, 1), (3, 2)] [2, 6, 10, 11] 3) (bD (hj2 _ _ _ h))
def dF : Nat → aH → Int → Int → Option (aS × Int × Int)
 | 0, _, _, _ => none
 | n + 1, p0, p1, p2 => dQ (fun a0 a1 a2 => dF n a0 a1 a2) n p0 p1 p2
theorem Ej (n : Nat) : (∀ (p0 : aH) (p1 : Int) (p2 : Int) (r : (aS × Int × Int)), dF n p0 p1 p2 = some r → cN E 143 0 [.agg [I p0.Kind, I p0.N, Sx p0.S, .lit (List.map aO p0.L)], .c (I p1), .c (I p2)] [] (.tup [.agg [I r.1.Kind, .lit (List.map bF r.1.Of)], .c (I r.2.1), .c (I r.2.2)]) []) := by
 induction n with
 | zero => intro p0 p1 p2 r h; rw [dF] at h; cases h
 | succ n ih => intro p0 p1 p2 r h; rw [dF] at h; exact vP _ ih n _ _ _ r h
def jM  (n : Nat) (p0 : aH) : Option (aS × Int) := (dF n p0 1 0).bind fun (y1 : (aS × Int × Int)) => some (y1.1, y1.2.2)
theorem Ar  (n : Nat) (p0 : aH) (r : (aS × Int)) (h : jM n p0 = some r) : cN E 135 0 [.agg [I p0.Kind, I p0.N, Sx p0.S, .lit (List.map aO p0.L)]] [] (.tup [.agg [I r.1.Kind, .lit (List.map bF r.1.Of)], .c (I r.2)]) [] := by
 refine fW Tryz.func135 rfl ?_
 unfold jM at h
 refine za [1, 2] ?_
 refine zx fun _ => ?_
 refine zk 1 ?_
 obtain ⟨y1, he, h⟩ := aB h
 refine zc Re (Ej n _ _ _ y1 he) ?_
 clear he
 refine zk 8 ?_
 refine ze [2, 4, 6] ?_
 refine za [2, 3] ?_
 cases h
 exact aG zr
def iK  (n : Nat) (p0 : aH) : Option Int := (jM n p0).bind fun (y1 : (aS × Int)) => some y1.2
theorem uK  (n : Nat) (p0 : aH) (r : Int) (h : iK n p0 = some r) : cN E 124 0 [.agg [I p0.Kind, I p0.N, Sx p0.S, .lit (List.map aO p0.L)]] [] (.c (I r)) [] := by
 refine fW Tryz.func124 rfl ?_
 unfold iK at h
 refine za [1] ?_
 refine zx fun _ => ?_
 refine zk 1 ?_
 obtain ⟨y1, he, h⟩ := aB h
 refine zc Xp (Ar n _ y1 he) ?_
 clear he
 refine zk 6 ?_
 refine ze [4] ?_
 refine za [2] ?_
 cases h
 exact aG zr
def eZ (p0 : aL) (self_ref14_validate : aL → Int → Int → Option (Int × Int)) (p1 : Int) (j63 : Int → Option (Int × Int)) : Nat → Int → Int → Option (Int × Int)
 | 0, _, _ => none
 | n + 1, v66, v67 => (if (decide (v67 < (List.length p0.Kids : Int))) = true then (idx p0.Kids v67).bind fun (e68 : aL) => (self_ref14_validate e68 (IntKind.wrap .i64 (p1 + 1)) v66).bind fun (y69 : (Int × Int)) => (if (y69.2 != 0) = true then some (y69.1, y69.2) else eZ p0 self_ref14_validate p1 j63 n y69.1 (IntKind.wrap .i64 (v67 + 1))) else j63 v66)
def eX (v52 : Int) (p0 : aL) (p2 : Int) (j53 : Unit → Option (Int × Int)) (p1 : Int) : Nat → Int → Option (Int × Int)
 | 0, _ => none
 | n + 1, v57 => (if (decide (v57 < v52)) = true then (idx p0.Kids v52).bind fun (e58 : aL) => (gd [(!(cG e58.Key (⟨#[]⟩ : ByteArray)))] (idx p0.Kids v52)).bind fun (e59 : aL) => (gd [(!(cG e58.Key (⟨#[]⟩ : ByteArray)))] (idx p0.Kids v57)).bind fun (e60 : aL) => (if ((!(cG e58.Key (⟨#[]⟩ : ByteArray))) && (cG e59.Key e60.Key)) = true then some ((IntKind.wrap .i64 (p2 + 1)), 6) else eX v52 p0 p2 j53 p1 n (IntKind.wrap .i64 (v57 + 1))) else j53 ())
def fE (p0 : aL) (p2 : Int) (p1 : Int) (j42 : Unit → Option (Int × Int)) : Nat → Int → Option (Int × Int)
 | 0, _ => none
 | n + 1, v52 => (if (decide (v52 < (List.length p0.Kids : Int))) = true then (aV (fun (_ : Unit) => fE p0 p2 p1 j42 n (IntKind.wrap .i64 (v52 + 1))) (fun (j53 : Unit → Option (Int × Int)) => eX v52 p0 p2 j53 p1 n 0)) else j42 ())
def fC (e31 : cE) (p2 : Int) (j30 : Unit → Option (Int × Int)) (p1 : Int) (v29 : Int) (p0 : aL) : Nat → Int → Option (Int × Int)
 | 0, _ => none
 | n + 1, v37 => (if (decide (v37 < (List.length e31.Args : Int))) = true then (idx e31.Args v37).bind fun (e38 : aH) => (iK n e38).bind fun (y39 : Int) => (if (y39 != 0) = true then some ((IntKind.wrap .i64 (p2 + 1)), y39) else fC e31 p2 j30 p1 v29 p0 n (IntKind.wrap .i64 (v37 + 1))) else j30 ())
def cR (p0 : aL) (p2 : Int) (p1 : Int) (j17 : Unit → Option (Int × Int)) : Nat → Int → Option (Int × Int)
 | 0, _ => none
 | n + 1, v29 => (if (decide (v29 < (List.length p0.Actions : Int))) = true then (aV (fun (_ : Unit) => cR p0 p2 p1 j17 n (IntKind.wrap .i64 (v29 + 1))) (fun (j30 : Unit → Option (Int × Int)) => (idx p0.Actions v29).bind fun (e31 : cE) => (iX n e31.Event).bind fun (y32 : Bool) => (gd [(!(!y32))] (iX n e31.Handler)).bind fun (y33 : Bool) => (if ((!y32) || (!y33)) = true then some ((IntKind.wrap .i64 (p2 + 1)), 4) else (gd [(decide (v29 > 0))] (idx p0.Actions (IntKind.wrap .i64 (v29 - 1)))).bind fun (e34 : cE) => (if ((decide (v29 > 0)) && (Jm e31.Event e34.Event)) = true then some ((IntKind.wrap .i64 (p2 + 1)), 10) else (if ((decide ((ByteArray.size e31.Instance : Int) > 400)) || (decide ((List.length e31.Args : Int) > 100))) = true then some ((IntKind.wrap .i64 (p2 + 1)), 2) else fC e31 p2 j30 p1 v29 p0 n 0))))) else j17 ())
def eW (p0 : aL) (p2 : Int) (j2 : Unit → Option (Int × Int)) (p1 : Int) : Nat → Int → Option (Int × Int)
 | 0, _ => none
 | n + 1, v9 => (if (decide (v9 < (List.length p0.Attrs : Int))) = true then (idx p0.Attrs v9).bind fun (e10 : aZ) => (iX n e10.Name).bind fun (y11 : Bool) => (if (!y11) = true then some ((IntKind.wrap .i64 (p2 + 1)), 4) else (gd [(decide (v9 > 0))] (idx p0.Attrs v9)).bind fun (e12 : aZ) => (gd [(decide (v9 > 0))] (idx p0.Attrs (IntKind.wrap .i64 (v9 - 1)))).bind fun (e13 : aZ) => (if ((decide (v9 > 0)) && (Jm e12.Name e13.Name)) = true then some ((IntKind.wrap .i64 (p2 + 1)), 10) else (idx p0.Attrs v9).bind fun (e14 : aZ) => (iK n e14.Value).bind fun (y15 : Int) => (if (y15 != 0) = true then some ((IntKind.wrap .i64 (p2 + 1)), y15) else eW p0 p2 j2 p1 n (IntKind.wrap .i64 (v9 + 1))))) else j2 ())
def jC (self_ref14_validate : aL → Int → Int → Option (Int × Int)) (n : Nat) (p0 : aL) (p1 : Int) (p2 : Int) : Option (Int × Int) := (if (decide (p1 > 16)) = true then some ((IntKind.wrap .i64 (p2 + 1)), 8) else (if (decide ((IntKind.wrap .i64 (p2 + 1)) > 400)) = true then some ((IntKind.wrap .i64 (p2 + 1)), 2) else (if ((decide (p0.Kind < 1)) || (decide (p0.Kind > 13))) = true then some ((IntKind.wrap .i64 (p2 + 1)), 9) else (vD n p0.Key).bind fun (y1 : Bool) => (if (!y1) = true then some ((IntKind.wrap .i64 (p2 + 1)), 4) else (if (((decide ((List.length p0.Attrs : Int) > 24)) || (decide ((List.length p0.Actions : Int) > 24))) || (decide ((List.length p0.Kids : Int) > 100))) = true then some ((IntKind.wrap .i64 (p2 + 1)), 2) else (aV (fun (_ : Unit) => (aV (fun (_ : Unit) => (aV (fun (_ : Unit) => (aV (fun (v72 : Int) => some (v72, 0)) (fun (j63 : Int → Option (Int × Int)) => eZ p0 self_ref14_validate p1 j63 n (IntKind.wrap .i64 (p2 + 1)) 0))) (fun (j42 : Unit → Option (Int × Int)) => fE p0 p2 p1 j42 n 0))) (fun (j17 : Unit → Option (Int × Int)) => cR p0 p2 p1 j17 n 0))) (fun (j2 : Unit → Option (Int × Int)) => eW p0 p2 j2 p1 n 0)))))))
theorem sN (self_ref14_validate : aL → Int → Int → Option (Int × Int)) (ih_ref14_validate : ∀ (p0 : aL) (p1 : Int) (p2 : Int) (r : (Int × Int)), self_ref14_validate p0 p1 p2 = some r → cN E 98 0 [.agg [I p0.Kind, Sx p0.Key, .lit (List.map aM p0.Attrs), .lit (List.map aD p0.Actions), .lit (List.map aX p0.Kids)], .c (I p1), .c (I p2)] [] (.tup [.c (I r.1), .c (I r.2)]) []) (n : Nat) (p0 : aL) (p1 : Int) (p2 : Int) (r : (Int × Int)) (h : jC self_ref14_validate n p0 p1 p2 = some r) : cN E 98 0 [.agg [I p0.Kind, Sx p0.Key, .lit (List.map aM p0.Attrs), .lit (List.map aD p0.Actions), .lit (List.map aX p0.Kids)], .c (I p1), .c (I p2)] [] (.tup [.c (I r.1), .c (I r.2)]) [] := by
 refine fW Tryz.func98 rfl ?_
 unfold jC at h
 refine za [1, 2, 3] ?_
 refine za [1, 2, 3] ?_
 refine aK ?_
 refine za [1, 2, 3, 22] ?_
 refine zi h (fun h => ?_) fun h => ?_
 refine za [6, 7] ?_
 cases h
 exact aG zr
 refine aC ?_
 refine aK ?_
 refine za [1, 2, 3, 25] ?_
 refine zi h (fun h => ?_) fun h => ?_
 refine za [6, 7] ?_
 cases h
 exact aG zr
 refine aC ?_
 refine aK ?_
 refine zx fun _ => ?_
 refine zk 4 ?_
 refine zE (.c (.ptr 0 0)) ?_
 refine zE (.c (I p0.Kind)) ?_
 refine zE (.c (Bo (decide (p0.Kind > 13)))) ?_
 refine zP (.bool ((decide (p0.Kind < 1)) || (decide (p0.Kind > 13)))) ?_
 refine ze [1, 2, 3, 34] ?_
 refine zi h (fun h => ?_) fun h => ?_
 refine za [6, 7] ?_
 cases h
 exact aG zr
 refine aC ?_
 refine aK ?_
 refine zx fun _ => ?_
 refine zk 2 ?_
 obtain ⟨y1, he, h⟩ := aB h
 refine zc Zg (Ie n _ y1 he) ?_
 clear he
 refine zk 1 ?_
 refine jV [1, 2, 3, 39] (L2 := [(1, .c (I p1)), (2, .c (I (IntKind.wrap .i64 (p2 + 1)))), (3, .c (.ptr 0 0)), (39, .c (Bo (!y1)))]) (G2 := [(0, .blk 70 [I p0.Kind, Sx p0.Key, .lit (List.map aM p0.Attrs), .lit (List.map aD p0.Actions), .lit (List.map aX p0.Kids)])]) 22 ?_
 refine zi h (fun h => ?_) fun h => ?_
 refine za [6, 7] ?_
 cases h
 exact aG zr
 refine aC ?_
 refine aK ?_
 refine zx fun _ => ?_
 refine zk 2 ?_
 refine zl aM p0.Attrs ?_
 refine zk 2 ?_
 refine zE (.c (.ptr 0 3)) ?_
 refine zE (.c (.lit (List.map aD p0.Actions))) ?_
 refine jW (e := [(!(decide ((List.length p0.Attrs : Int) > 24)))]) [(47, .c (.lit (List.map aD p0.Actions)), some 1)] (v := .c (I (List.length p0.Actions : Int))) (foot := []) (by kernel_rfl) (by kernel_rfl) (by kernel_rfl) (fun hg => kR (enc := aD) (l := p0.Actions) (by kernel_rfl)) rfl rfl ?_
 refine zE (.c (Bo (decide ((List.length p0.Actions : Int) > 24)))) ?_
 refine zP (.bool ((decide ((List.length p0.Attrs : Int) > 24)) || (decide ((List.length p0.Actions : Int) > 24)))) ?_
 refine zk 1 ?_
 refine zE (.c (.ptr 0 4)) ?_
 refine zE (.c (.lit (List.map aX p0.Kids))) ?_
 refine jW (e := [(!((decide ((List.length p0.Attrs : Int) > 24)) || (decide ((List.length p0.Actions : Int) > 24))))]) [(53, .c (.lit (List.map aX p0.Kids)), some 1)] (v := .c (I (List.length p0.Kids : Int))) (foot := []) (by kernel_rfl) (by kernel_rfl) (by kernel_rfl) (fun hg => kR (enc := aX) (l := p0.Kids) (by kernel_rfl)) rfl rfl ?_
 refine zE (.c (Bo (decide ((List.length p0.Kids : Int) > 100)))) ?_
 refine zP (.bool (((decide ((List.length p0.Attrs : Int) > 24)) || (decide ((List.length p0.Actions : Int) > 24))) || (decide ((List.length p0.Kids : Int) > 100)))) ?_
 refine jV [1, 2, 3, 56] (L2 := [(1, .c (I p1)), (2, .c (I (IntKind.wrap .i64 (p2 + 1)))), (3, .c (.ptr 0 0)), (56, .c (Bo (((decide ((List.length p0.Attrs : Int) > 24)) || (decide ((List.length p0.Actions : Int) > 24))) || (decide ((List.length p0.Kids : Int) > 100)))))]) (G2 := [(0, .blk 70 [I p0.Kind, Sx p0.Key, .lit (List.map aM p0.Attrs), .lit (List.map aD p0.Actions), .lit (List.map aX p0.Kids)])]) 38 ?_
 refine zi h (fun h => ?_) fun h => ?_
 refine za [6, 7] ?_
 cases h
 exact aG zr
 refine aC ?_
 refine aQ h (fun A j => ∀ u, j u = some r → A (mk [(1, .c (I p1)), (2, .c (I (IntKind.wrap .i64 (p2 + 1)))), (3, .c (.ptr 0 0))] [(0, .blk 70 [I p0.Kind, Sx p0.Key, .lit (List.map aM p0.Attrs), .lit (List.map aD p0.Actions), .lit (List.map aX p0.Kids)])] 1)) (fun u h => ?_) (fun j2 Aj2 hj2 h => ?_)
 refine aQ h (fun A j => ∀ u, j u = some r → A (mk [(1, .c (I p1)), (2, .c (I (IntKind.wrap .i64 (p2 + 1)))), (3, .c (.ptr 0 0))] [(0, .blk 70 [I p0.Kind, Sx p0.Key, .lit (List.map aM p0.Attrs), .lit (List.map aD p0.Actions), .lit (List.map aX p0.Kids)])] 1)) (fun u h => ?_) (fun j17 Aj17 hj17 h => ?_)
 refine aQ h (fun A j => ∀ u, j u = some r → A (mk [(1, .c (I p1)), (2, .c (I (IntKind.wrap .i64 (p2 + 1)))), (3, .c (.ptr 0 0))] [(0, .blk 70 [I p0.Kind, Sx p0.Key, .lit (List.map aM p0.Attrs), .lit (List.map aD p0.Actions), .lit (List.map aX p0.Kids)])] 1)) (fun u h => ?_) (fun j42 Aj42 hj42 h => ?_)
 refine aQ h (fun A j => ∀ v72, j v72 = some r → A (mk [(2, .c (I v72))] [] 0)) (fun v72 h => ?_) (fun j63 Aj63 hj63 h => ?_)
 refine za [6, 7] ?_
 cases h
 exact aG zr
 refine za [1, 2, 3, 16] ?_
 refine aF ?_
 refine bA (fun n s => ∃ v66 v67, eZ p0 self_ref14_validate p1 j63 n v66 v67 = some r ∧ s = mk [(1, .c (I p1)), (2, .c (I v66)), (3, .c (.ptr 0 0)), (16, .c (I v67))] [(0, .blk 70 [I p0.Kind, Sx p0.Key, .lit (List.map aM p0.Attrs), .lit (List.map aD p0.Actions), .lit (List.map aX p0.Kids)])] 1) n _ (zv [(0, 0)] [1, 2, 3, 16] 1) ⟨_, _, h, rfl⟩ (fun s ⟨v66, v67, h, _⟩ => nomatch h) ?_
 rintro n s ⟨v66, v67, h, rfl⟩
 rw [eZ] at h
 refine aK ?_
 refine zx fun _ => ?_
 refine zk 3 ?_
 refine zl aX p0.Kids ?_
 refine zk 1 ?_
 refine ze [1, 2, 3, 16, 209] ?_
 refine zi h (fun h => ?_) fun h => ?_
 refine aC ?_
 refine aK ?_
 refine aF ?_
 refine zx fun _ => ?_
 refine zk 3 ?_
 obtain ⟨e68, he, h⟩ := aB h
 refine cF (v := .c (.imm [I e68.Kind, Sx e68.Key, .lit (List.map aM e68.Attrs), .lit (List.map aD e68.Actions), .lit (List.map aX e68.Kids)])) (foot := []) (dR (enc := aX) (sz := 5) (l := p0.Kids) (ix := v67) he (by kernel_rfl) (fR e68) (by kernel_rfl)) (by kernel_rfl) rfl rfl ?_
 clear he
 refine zk 4 ?_
 obtain ⟨y69, he, h⟩ := aB h
 refine zc Xe (ih_ref14_validate _ _ _ y69 he) ?_
 clear he
 refine zk 5 ?_
 refine ze [1, 3, 16, 17, 18] ?_
 refine za [1, 2, 3, 16, 18] ?_
 refine za [1, 2, 3, 16, 18, 226] ?_
 refine zi h (fun h => ?_) fun h => ?_
 refine za [6, 7] ?_
 cases h
 exact aG zr
 refine aC ?_
 refine aT ?_
 refine zb ?_
 exact dI (zv [(0, 0)] [1, 2, 3, 16] 1) (⟨_, _, h, rfl⟩)
 exact aI (zv [] [2] 0) (bD (hj63 _ h))
 refine za [1, 2, 3, 14] ?_
 refine aF ?_
 refine bA (fun n s => ∃ v52, fE p0 p2 p1 j42 n v52 = some r ∧ s = mk [(1, .c (I p1)), (2, .c (I (IntKind.wrap .i64 (p2 + 1)))), (3, .c (.ptr 0 0)), (14, .c (I v52))] [(0, .blk 70 [I p0.Kind, Sx p0.Key, .lit (List.map aM p0.Attrs), .lit (List.map aD p0.Actions), .lit (List.map aX p0.Kids)])] 1) n _ (zv [(0, 0)] [1, 2, 3, 14] 1) ⟨_, h, rfl⟩ (fun s ⟨v52, h, _⟩ => nomatch h) ?_
 rintro n s ⟨v52, h, rfl⟩
 rw [fE] at h
 refine aK ?_
 refine zx fun _ => ?_
 refine zk 3 ?_
 refine zl aX p0.Kids ?_
 refine zk 1 ?_
 refine ze [1, 2, 3, 14, 174] ?_
 refine zi h (fun h => ?_) fun h => ?_
 refine aC ?_
 refine aQ h (fun A j => ∀ u, j u = some r → A (mk [(1, .c (I p1)), (2, .c (I (IntKind.wrap .i64 (p2 + 1)))), (3, .c (.ptr 0 0)), (14, .c (I v52))] [(0, .blk 70 [I p0.Kind, Sx p0.Key, .lit (List.map aM p0.Attrs), .lit (List.map aD p0.Actions), .lit (List.map aX p0.Kids)])] 1)) (fun u h => ?_) (fun j53 Aj53 hj53 h => ?_)
 refine aT ?_
 refine zb ?_
 exact dI (zv [(0, 0)] [1, 2, 3, 14] 1) (⟨_, h, rfl⟩)
 refine aF ?_
 refine za [1, 2, 3, 14, 15] ?_
 refine aF ?_
 refine bA (fun n s => ∃ v57, eX v52 p0 p2 j53 p1 n v57 = some r ∧ s = mk [(1, .c (I p1)), (2, .c (I (IntKind.wrap .i64 (p2 + 1)))), (3, .c (.ptr 0 0)), (14, .c (I v52)), (15, .c (I v57))] [(0, .blk 70 [I p0.Kind, Sx p0.Key, .lit (List.map aM p0.Attrs), .lit (List.map aD p0.Actions), .lit (List.map aX p0.Kids)])] 1) n _ (zv [(0, 0)] [1, 2, 3, 14, 15] 1) ⟨_, h, rfl⟩ (fun s ⟨v57, h, _⟩ => nomatch h) ?_
 rintro n s ⟨v57, h, rfl⟩
 rw [eX] at h
 refine aK ?_
 refine za [1, 2, 3, 14, 15, 179] ?_
 refine zi h (fun h => ?_) fun h => ?_
 refine aC ?_
 refine aK ?_
 refine aF ?_
 refine wP [[], [0], [], [1, 2, 0], [3, 1, 2, 0], [4, 3, 1, 2, 0], [5, 4, 3, 1, 2, 0], [6, 5, 4, 3, 1, 2, 0], [7, 6, 5, 4, 3, 1, 2, 0], [8, 7, 6, 5, 4, 3, 1, 2, 0], [7, 6, 5, 4, 3, 1, 2, 0], [9, 10, 7, 8, 6, 5, 4, 3, 1, 2, 0], [11, 7, 9, 10, 8, 6, 5, 4, 3, 1, 2, 0], [12, 7, 11, 9, 10, 8, 6, 5, 4, 3, 1, 2, 0], [7, 6, 5, 4, 3, 1, 2, 0], [14, 7, 6, 5, 4, 3, 1, 2, 0], [7, 6, 5, 4, 3, 1, 2, 0], [15, 16, 7, 14, 6, 5, 4, 3, 1, 2, 0], [17, 7, 15, 16, 14, 6, 5, 4, 3, 1, 2, 0], [18, 7, 17, 15, 16, 14, 6, 5, 4, 3, 1, 2, 0], [13, 19, 7, 12, 11, 9, 10, 8, 6, 5, 4, 3, 1, 2, 0, 18, 17, 15, 16, 14], [7, 20, 6, 5, 4, 3, 1, 2, 0, 13, 19, 12, 11, 9, 10, 8, 18, 17, 15, 16, 14]] fun _ => ?_
 refine zk 3 ?_
 obtain ⟨e58, he, h⟩ := aB h
 refine cF (v := .c (.imm [I e58.Kind, Sx e58.Key, .lit (List.map aM e58.Attrs), .lit (List.map aD e58.Actions), .lit (List.map aX e58.Kids)])) (foot := []) (dR (enc := aX) (sz := 5) (l := p0.Kids) (ix := v52) he (by kernel_rfl) (fR e58) (by kernel_rfl)) (by kernel_rfl) rfl rfl ?_
 clear he
 refine zk 4 ?_
 refine zE (.c (.ptr 0 4)) ?_
 refine zE (.c (.lit (List.map aX p0.Kids))) ?_
 refine zE (.c (I v52)) ?_
 obtain ⟨e59, he, h⟩ := aB h
 refine jW (e := [(!(cG e58.Key (⟨#[]⟩ : ByteArray)))]) [(191, .c (.lit (List.map aX p0.Kids)), some 1), (192, .c (I v52), some 1)] (v := .c (.imm [I e59.Kind, Sx e59.Key, .lit (List.map aM e59.Attrs), .lit (List.map aD e59.Actions), .lit (List.map aX e59.Kids)])) (foot := []) (by kernel_rfl) (by kernel_rfl) (by kernel_rfl) (fun hg => dR (enc := aX) (sz := 5) (l := p0.Kids) (ix := v52) (bT he hg) (by kernel_rfl) (fR e59) (by kernel_rfl)) rfl rfl ?_
 clear he
 refine zE (.c (.imm [Sx e59.Key, .lit (List.map aM e59.Attrs), .lit (List.map aD e59.Actions), .lit (List.map aX e59.Kids)])) ?_
 refine zE (.c (Sx e59.Key)) ?_
 refine zE (.c (.ptr 0 4)) ?_
 refine zE (.c (.lit (List.map aX p0.Kids))) ?_
 refine zE (.c (I v57)) ?_
 obtain ⟨e60, he, h⟩ := aB h
 refine jW (e := [(!(cG e58.Key (⟨#[]⟩ : ByteArray)))]) [(197, .c (.lit (List.map aX p0.Kids)), some 1), (198, .c (I v57), some 1)] (v := .c (.imm [I e60.Kind, Sx e60.Key, .lit (List.map aM e60.Attrs), .lit (List.map aD e60.Actions), .lit (List.map aX e60.Kids)])) (foot := []) (by kernel_rfl) (by kernel_rfl) (by kernel_rfl) (fun hg => dR (enc := aX) (sz := 5) (l := p0.Kids) (ix := v57) (bT he hg) (by kernel_rfl) (fR e60) (by kernel_rfl)) rfl rfl ?_
 clear he
 refine zE (.c (.imm [Sx e60.Key, .lit (List.map aM e60.Attrs), .lit (List.map aD e60.Actions), .lit (List.map aX e60.Kids)])) ?_
 refine zE (.c (Sx e60.Key)) ?_
 refine zE (.c (Bo (cG e59.Key e60.Key))) ?_
 refine zP (.bool ((!(cG e58.Key (⟨#[]⟩ : ByteArray))) && (cG e59.Key e60.Key))) ?_
 refine jV [1, 2, 3, 14, 15, 203] (L2 := [(1, .c (I p1)), (2, .c (I (IntKind.wrap .i64 (p2 + 1)))), (3, .c (.ptr 0 0)), (14, .c (I v52)), (15, .c (I v57)), (203, .c (Bo ((!(cG e58.Key (⟨#[]⟩ : ByteArray))) && (cG e59.Key e60.Key))))]) (G2 := [(0, .blk 70 [I p0.Kind, Sx p0.Key, .lit (List.map aM p0.Attrs), .lit (List.map aD p0.Actions), .lit (List.map aX p0.Kids)])]) 26 ?_
 refine zi h (fun h => ?_) fun h => ?_
 refine za [6, 7] ?_
 cases h
 exact aG zr
 refine aC ?_
 refine aT ?_
 refine zb ?_
 exact dI (zv [(0, 0)] [1, 2, 3, 14, 15] 1) (⟨_, h, rfl⟩)
 exact aI (zv [(0, 0)] [1, 2, 3, 14] 1) (bD (hj53 _ h))
 exact aI (zv [(0, 0)] [1, 2, 3] 1) (bD (hj42 _ h))
 refine za [1, 2, 3, 10] ?_
 refine aF ?_
 refine bA (fun n s => ∃ v29, cR p0 p2 p1 j17 n v29 = some r ∧ s = mk [(1, .c (I p1)), (2, .c (I (IntKind.wrap .i64 (p2 + 1)))), (3, .c (.ptr 0 0)), (10, .c (I v29))] [(0, .blk 70 [I p0.Kind, Sx p0.Key, .lit (List.map aM p0.Attrs), .lit (List.map aD p0.Actions), .lit (List.map aX p0.Kids)])] 1) n _ (zv [(0, 0)] [1, 2, 3, 10] 1) ⟨_, h, rfl⟩ (fun s ⟨v29, h, _⟩ => nomatch h) ?_
 rintro n s ⟨v29, h, rfl⟩
 rw [cR] at h
 refine aK ?_
 refine zx fun _ => ?_
 refine zk 3 ?_
 refine zl aD p0.Actions ?_
 refine zk 1 ?_
 refine ze [1, 2, 3, 10, 108] ?_
 refine zi h (fun h => ?_) fun h => ?_
 refine aC ?_
 refine aQ h (fun A j => ∀ u, j u = some r → A (mk [(1, .c (I p1)), (2, .c (I (IntKind.wrap .i64 (p2 + 1)))), (3, .c (.ptr 0 0)), (10, .c (I v29))] [(0, .blk 70 [I p0.Kind, Sx p0.Key, .lit (List.map aM p0.Attrs), .lit (List.map aD p0.Actions), .lit (List.map aX p0.Kids)])] 1)) (fun u h => ?_) (fun j30 Aj30 hj30 h => ?_)
 refine aT ?_
 refine zb ?_
 exact dI (zv [(0, 0)] [1, 2, 3, 10] 1) (⟨_, h, rfl⟩)
 refine aF ?_
 refine zx fun _ => ?_
 refine zk 3 ?_
 obtain ⟨e31, he, h⟩ := aB h
 refine zd aD he ?_
 clear he
 refine zk 3 ?_
 refine ze [1, 2, 3, 10, 11] ?_
 refine aK ?_
 refine zx fun _ => ?_
 refine zk 2 ?_
 obtain ⟨y32, he, h⟩ := aB h
 refine zc Mh (qT n _ y32 he) ?_
 clear he
 refine zk 2 ?_
 refine zE (.c (.ptr 11 2)) ?_
 refine zE (.c (Sx e31.Handler)) ?_
 obtain ⟨y33, he, h⟩ := aB h
 refine Ho [(!(!y32))] Mh (fun hg => qT n _ y33 (bT he hg)) ?_
 clear he
 refine zE (.c (Bo (!y33))) ?_
 refine zP (.bool ((!y32) || (!y33))) ?_
 refine jV [1, 2, 3, 10, 11, 125] (L2 := [(1, .c (I p1)), (2, .c (I (IntKind.wrap .i64 (p2 + 1)))), (3, .c (.ptr 0 0)), (10, .c (I v29)), (11, .c (.ptr 11 0)), (125, .c (Bo ((!y32) || (!y33))))]) (G2 := [(0, .blk 70 [I p0.Kind, Sx p0.Key, .lit (List.map aM p0.Attrs), .lit (List.map aD p0.Actions), .lit (List.map aX p0.Kids)]), (11, .blk 159 [Sx e31.Event, Sx e31.Instance, Sx e31.Handler, .lit (List.map aO e31.Args)])]) 23 ?_
 refine zi h (fun h => ?_) fun h => ?_
 refine za [6, 7] ?_
 cases h
 exact aG zr
 refine aC ?_
 refine aK ?_
 refine wP [[], [0], [1, 0], [2, 1, 0], [3, 2, 1, 0], [2, 1, 0], [5, 2, 1, 0], [2, 1, 0], [7, 2, 1, 0], [6, 8, 2, 5, 1, 0, 7], [9, 2, 6, 8, 5, 1, 0, 7], [10, 2, 9, 6, 8, 5, 1, 0, 7], [4, 11, 2, 3, 1, 0, 10, 9, 6, 8, 5, 7], [2, 12, 1, 0, 4, 11, 3, 10, 9, 6, 8, 5, 7]] fun _ => ?_
 refine zk 3 ?_
 refine zE (.c (.ptr 11 0)) ?_
 refine zE (.c (Sx e31.Event)) ?_
 refine zE (.c (.ptr 0 3)) ?_
 refine zE (.c (.lit (List.map aD p0.Actions))) ?_
 refine zE (.c (I v29)) ?_
 refine zE (.c (I (IntKind.wrap .i64 (v29 - 1)))) ?_
 obtain ⟨e34, he, h⟩ := aB h
 refine jW (e := [(decide (v29 > 0))]) [(133, .c (.lit (List.map aD p0.Actions)), some 1), (135, .c (I (IntKind.wrap .i64 (v29 - 1))), some 1)] (v := .c (.imm [Sx e34.Event, Sx e34.Instance, Sx e34.Handler, .lit (List.map aO e34.Args)])) (foot := []) (by kernel_rfl) (by kernel_rfl) (by kernel_rfl) (fun hg => dR (enc := aD) (sz := 4) (l := p0.Actions) (ix := (IntKind.wrap .i64 (v29 - 1))) (bT he hg) (by kernel_rfl) (by kernel_rfl) (by kernel_rfl)) rfl rfl ?_
 clear he
 refine zE (.c (.imm [Sx e34.Event, Sx e34.Instance, Sx e34.Handler, .lit (List.map aO e34.Args)])) ?_
 refine zE (.c (Sx e34.Event)) ?_
 refine zE (.c (Bo (Jm e31.Event e34.Event))) ?_
 refine zP (.bool ((decide (v29 > 0)) && (Jm e31.Event e34.Event))) ?_
 refine jV [1, 2, 3, 10, 11, 140] (L2 := [(1, .c (I p1)), (2, .c (I (IntKind.wrap .i64 (p2 + 1)))), (3, .c (.ptr 0 0)), (10, .c (I v29)), (11, .c (.ptr 11 0)), (140, .c (Bo ((decide (v29 > 0)) && (Jm e31.Event e34.Event))))]) (G2 := [(0, .blk 70 [I p0.Kind, Sx p0.Key, .lit (List.map aM p0.Attrs), .lit (List.map aD p0.Actions), .lit (List.map aX p0.Kids)]), (11, .blk 159 [Sx e31.Event, Sx e31.Instance, Sx e31.Handler, .lit (List.map aO e31.Args)])]) 37 ?_
 refine zi h (fun h => ?_) fun h => ?_
 refine za [6, 7] ?_
 cases h
 exact aG zr
 refine aC ?_
 refine aK ?_
 refine zx fun _ => ?_
 refine zk 5 ?_
 refine zE (.c (.ptr 11 3)) ?_
 refine zE (.c (.lit (List.map aO e31.Args))) ?_
 refine jW (e := [(!(decide ((ByteArray.size e31.Instance : Int) > 400)))]) [(148, .c (.lit (List.map aO e31.Args)), some 1)] (v := .c (I (List.length e31.Args : Int))) (foot := []) (by kernel_rfl) (by kernel_rfl) (by kernel_rfl) (fun hg => kR (enc := aO) (l := e31.Args) (by kernel_rfl)) rfl rfl ?_
 refine zE (.c (Bo (decide ((List.length e31.Args : Int) > 100)))) ?_
 refine zP (.bool ((decide ((ByteArray.size e31.Instance : Int) > 400)) || (decide ((List.length e31.Args : Int) > 100)))) ?_
 refine ze [1, 2, 3, 10, 11, 151] ?_
 refine zi h (fun h => ?_) fun h => ?_
 refine za [6, 7] ?_
 cases h
 exact aG zr
 refine aC ?_
 refine za [1, 2, 3, 10, 11, 12] ?_
 refine aF ?_
 refine bA (fun n s => ∃ v37, fC e31 p2 j30 p1 v29 p0 n v37 = some r ∧ s = mk [(1, .c (I p1)), (2, .c (I (IntKind.wrap .i64 (p2 + 1)))), (3, .c (.ptr 0 0)), (10, .c (I v29)), (11, .c (.ptr 1 0)), (12, .c (I v37))] [(0, .blk 70 [I p0.Kind, Sx p0.Key, .lit (List.map aM p0.Attrs), .lit (List.map aD p0.Actions), .lit (List.map aX p0.Kids)]), (1, .blk 159 [Sx e31.Event, Sx e31.Instance, Sx e31.Handler, .lit (List.map aO e31.Args)])] 2) n _ (zv [(0, 0), (11, 1)] [1, 2, 3, 10, 11, 12] 2) ⟨_, h, rfl⟩ (fun s ⟨v37, h, _⟩ => nomatch h) ?_
 rintro n s ⟨v37, h, rfl⟩
 rw [fC] at h
 refine aK ?_
 refine zx fun _ => ?_
 refine zk 3 ?_
 refine zl aO e31.Args ?_
 refine zk 1 ?_
 refine ze [1, 2, 3, 10, 11, 12, 157] ?_
 refine zi h (fun h => ?_) fun h => ?_
 refine aC ?_
 refine aK ?_
 refine aF ?_
 refine zx fun _ => ?_
 refine zk 3 ?_
 obtain ⟨e38, he, h⟩ := aB h
 refine cF (v := .c (.imm [I e38.Kind, I e38.N, Sx e38.S, .lit (List.map aO e38.L)])) (foot := []) (dR (enc := aO) (sz := 4) (l := e31.Args) (ix := v37) he (by kernel_rfl) (dO e38) (by kernel_rfl)) (by kernel_rfl) rfl rfl ?_
 clear he
 refine zk 1 ?_
 obtain ⟨y39, he, h⟩ := aB h
 refine zc Rr (uK n _ y39 he) ?_
 clear he
 refine zk 1 ?_
 refine ze [1, 2, 3, 10, 11, 12, 13] ?_
 refine za [1, 2, 3, 10, 11, 12, 13, 167] ?_
 refine zi h (fun h => ?_) fun h => ?_
 refine za [6, 7] ?_
 cases h
 exact aG zr
 refine aC ?_
 refine aT ?_
 refine zb ?_
 exact dI (zv [(0, 0), (1, 1)] [1, 2, 3, 10, 11, 12] 2) (⟨_, h, rfl⟩)
 exact aI (zv [(0, 0)] [1, 2, 3, 10] 1) (bD (hj30 _ h))
 exact aI (zv [(0, 0)] [1, 2, 3] 1) (bD (hj17 _ h))
 refine za [1, 2, 3, 8] ?_
 refine aF ?_
 refine bA (fun n s => ∃ v9, eW p0 p2 j2 p1 n v9 = some r ∧ s = mk [(1, .c (I p1)), (2, .c (I (IntKind.wrap .i64 (p2 + 1)))), (3, .c (.ptr 0 0)), (8, .c (I v9))] [(0, .blk 70 [I p0.Kind, Sx p0.Key, .lit (List.map aM p0.Attrs), .lit (List.map aD p0.Actions), .lit (List.map aX p0.Kids)])] 1) n _ (zv [(0, 0)] [1, 2, 3, 8] 1) ⟨_, h, rfl⟩ (fun s ⟨v9, h, _⟩ => nomatch h) ?_
 rintro n s ⟨v9, h, rfl⟩
 rw [eW] at h
 refine aK ?_
 refine zx fun _ => ?_
 refine zk 3 ?_
 refine zl aM p0.Attrs ?_
 refine zk 1 ?_
 refine ze [1, 2, 3, 8, 62] ?_
 refine zi h (fun h => ?_) fun h => ?_
 refine aC ?_
 refine aK ?_
 refine aF ?_
 refine aK ?_
 refine zx fun _ => ?_
 refine zk 3 ?_
 obtain ⟨e10, he, h⟩ := aB h
 refine zd aM he ?_
 clear he
 refine zk 2 ?_
 obtain ⟨y11, he, h⟩ := aB h
 refine zc Mh (qT n _ y11 he) ?_
 clear he
 refine zk 1 ?_
 refine ze [1, 2, 3, 8, 72] ?_
 refine zi h (fun h => ?_) fun h => ?_
 refine za [6, 7] ?_
 cases h
 exact aG zr
 refine aC ?_
 refine aK ?_
 refine wP [[], [0], [1, 0], [2, 1, 0], [3, 2, 1, 0], [2, 1, 0], [4, 5, 2, 3, 1, 0], [6, 2, 4, 5, 3, 1, 0], [7, 2, 6, 4, 5, 3, 1, 0], [2, 1, 0], [9, 2, 1, 0], [2, 1, 0], [11, 2, 1, 0], [10, 12, 2, 9, 1, 0, 11], [13, 2, 10, 12, 9, 1, 0, 11], [14, 2, 13, 10, 12, 9, 1, 0, 11], [8, 15, 2, 7, 6, 4, 5, 3, 1, 0, 14, 13, 10, 12, 9, 11], [2, 16, 1, 0, 8, 15, 7, 6, 4, 5, 3, 14, 13, 10, 12, 9, 11]] fun _ => ?_
 refine zk 3 ?_
 refine zE (.c (.ptr 0 2)) ?_
 refine zE (.c (.lit (List.map aM p0.Attrs))) ?_
 refine zE (.c (I v9)) ?_
 obtain ⟨e12, he, h⟩ := aB h
 refine jW (e := [(decide (v9 > 0))]) [(78, .c (.lit (List.map aM p0.Attrs)), some 1), (79, .c (I v9), some 1)] (v := .c (.imm [Sx e12.Name, I e12.Value.Kind, I e12.Value.N, Sx e12.Value.S, .lit (List.map aO e12.Value.L)])) (foot := []) (by kernel_rfl) (by kernel_rfl) (by kernel_rfl) (fun hg => dR (enc := aM) (sz := 5) (l := p0.Attrs) (ix := v9) (bT he hg) (by kernel_rfl) (by kernel_rfl) (by kernel_rfl)) rfl rfl ?_
 clear he
 refine zE (.c (.imm [Sx e12.Name, I e12.Value.Kind, I e12.Value.N, Sx e12.Value.S, .lit (List.map aO e12.Value.L)])) ?_
 refine zE (.c (Sx e12.Name)) ?_
 refine zE (.c (.ptr 0 2)) ?_
 refine zE (.c (.lit (List.map aM p0.Attrs))) ?_
 refine zE (.c (I v9)) ?_
 refine zE (.c (I (IntKind.wrap .i64 (v9 - 1)))) ?_
 obtain ⟨e13, he, h⟩ := aB h
 refine jW (e := [(decide (v9 > 0))]) [(84, .c (.lit (List.map aM p0.Attrs)), some 1), (86, .c (I (IntKind.wrap .i64 (v9 - 1))), some 1)] (v := .c (.imm [Sx e13.Name, I e13.Value.Kind, I e13.Value.N, Sx e13.Value.S, .lit (List.map aO e13.Value.L)])) (foot := []) (by kernel_rfl) (by kernel_rfl) (by kernel_rfl) (fun hg => dR (enc := aM) (sz := 5) (l := p0.Attrs) (ix := (IntKind.wrap .i64 (v9 - 1))) (bT he hg) (by kernel_rfl) (by kernel_rfl) (by kernel_rfl)) rfl rfl ?_
 clear he
 refine zE (.c (.imm [Sx e13.Name, I e13.Value.Kind, I e13.Value.N, Sx e13.Value.S, .lit (List.map aO e13.Value.L)])) ?_
 refine zE (.c (Sx e13.Name)) ?_
 refine zE (.c (Bo (Jm e12.Name e13.Name))) ?_
 refine zP (.bool ((decide (v9 > 0)) && (Jm e12.Name e13.Name))) ?_
 refine jV [1, 2, 3, 8, 91] (L2 := [(1, .c (I p1)), (2, .c (I (IntKind.wrap .i64 (p2 + 1)))), (3, .c (.ptr 0 0)), (8, .c (I v9)), (91, .c (Bo ((decide (v9 > 0)) && (Jm e12.Name e13.Name))))]) (G2 := [(0, .blk 70 [I p0.Kind, Sx p0.Key, .lit (List.map aM p0.Attrs), .lit (List.map aD p0.Actions), .lit (List.map aX p0.Kids)])]) 32 ?_
 refine zi h (fun h => ?_) fun h => ?_
 refine za [6, 7] ?_
 cases h
 exact aG zr
 refine aC ?_
 refine zx fun _ => ?_
 refine zk 3 ?_
 obtain ⟨e14, he, h⟩ := aB h
 refine zd aM he ?_
 clear he
 refine zk 2 ?_
 obtain ⟨y15, he, h⟩ := aB h
 refine zc Rr (uK n _ y15 he) ?_
 clear he
 refine zk 1 ?_
 refine ze [1, 2, 3, 8, 9] ?_
 refine za [1, 2, 3, 8, 9, 101] ?_
 refine zi h (fun h => ?_) fun h => ?_
 refine za [6, 7] ?_
 cases h
 exact aG zr
 refine aC ?_
 refine aT ?_
 refine zb ?_
 exact dI (zv [(0, 0)] [1, 2, 3, 8] 1) (⟨_, h, rfl⟩)
 exact aI (zv [(0, 0)] [1, 2, 3] 1) (bD (hj2 _ h))
def fB : Nat → aL → Int → Int → Option (Int × Int)
 | 0, _, _, _ => none
 | n + 1, p0, p1, p2 => jC (fun a0 a1 a2 => fB n a0 a1 a2) n p0 p1 p2
theorem xB (n : Nat) : (∀ (p0 : aL) (p1 : Int) (p2 : Int) (r : (Int × Int)), fB n p0 p1 p2 = some r → cN E 98 0 [.agg [I p0.Kind, Sx p0.Key, .lit (List.map aM p0.Attrs), .lit (List.map aD p0.Actions), .lit (List.map aX p0.Kids)], .c (I p1), .c (I p2)] [] (.tup [.c (I r.1), .c (I r.2)]) []) := by
 induction n with
 | zero => intro p0 p1 p2 r h; rw [fB] at h; cases h
 | succ n ih => intro p0 p1 p2 r h; rw [fB] at h; exact sN _ ih n _ _ _ r h
def gV  (n : Nat) (p0 : aL) : Option Int := (fB n p0 1 0).bind fun (y1 : (Int × Int)) => some y1.2
theorem mN  (n : Nat) (p0 : aL) (r : Int) (h : gV n p0 = some r) : cN E 59 0 [.agg [I p0.Kind, Sx p0.Key, .lit (List.map aM p0.Attrs), .lit (List.map aD p0.Actions), .lit (List.map aX p0.Kids)]] [] (.c (I r)) [] := by
 refine fW Tryz.func59 rfl ?_
 unfold gV at h
 refine za [1] ?_
 refine zx fun _ => ?_
 refine zk 1 ?_
 obtain ⟨y1, he, h⟩ := aB h
 refine zc Xe (xB n _ _ _ y1 he) ?_
 clear he
 refine zk 5 ?_
 refine ze [4] ?_
 refine za [2] ?_
 cases h
 exact aG zr
def tP  (n : Nat) (p0 : aP) (p1 : Int) : Option (aL × aP) := (nY n p0 p1).bind fun (y1 : (aL × aP)) => (gV n y1.1).bind fun (y2 : Int) => (if (y2 != 0) = true then some ((aL.mk 1 (⟨#[]⟩ : ByteArray) ([] : List aZ) ([] : List cE) ([] : List aL)), y1.2) else some (y1.1, y1.2))
theorem Kj  (n : Nat) (p0 : aP) (p1 : Int) (r : (aL × aP)) (h : tP n p0 p1 = some r) : cN E 27 1 [.c (.ptr 0 0), .c (I p1)] [(0, .blk 78 [.lit (List.map aJ p0.L), I p0.At])] (.agg [I r.1.Kind, Sx r.1.Key, .lit (List.map aM r.1.Attrs), .lit (List.map aD r.1.Actions), .lit (List.map aX r.1.Kids)]) [(0, .blk 78 [.lit (List.map aJ r.2.L), I r.2.At])] := by
 refine fW Tryz.func27 rfl ?_
 unfold tP at h
 refine za [0, 1, 4] ?_
 refine zx fun _ => ?_
 refine zk 2 ?_
 obtain ⟨y1, he, h⟩ := aB h
 refine zo [(0, 0)] Xi (Jk n _ _ y1 he) ?_
 clear he
 refine zk 2 ?_
 refine ze [4, 5] ?_
 refine aK ?_
 refine zx fun _ => ?_
 refine zk 1 ?_
 obtain ⟨y2, he, h⟩ := aB h
 refine zc Sl (mN n _ y2 he) ?_
 clear he
 refine zk 1 ?_
 refine ze [4, 5, 11] ?_
 refine zi h (fun h => ?_) fun h => ?_
 refine za [4] ?_
 cases h
 exact aG zr
 refine aC ?_
 refine za [4] ?_
 cases h
 exact aG zr
end Go.Proofs.YtojkihhnioeggaaGreatDoor.S
