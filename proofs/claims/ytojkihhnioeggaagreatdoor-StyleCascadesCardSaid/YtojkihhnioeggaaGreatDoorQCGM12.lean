import Derived.Test.YtojkihhnioeggaaGreatDoorQCGM11
set_option linter.unusedVariables false
set_option linter.unusedSimpArgs false
set_option maxRecDepth 100000
set_option maxHeartbeats 4000000
namespace Go.Proofs.YtojkihhnioeggaaGreatDoor.S
open Go Go.Bm
def eZ (e175 : bZ) (v109 : Int) (y176 : (Int × Int)) (p1 : bS) (p2 : cQ) (p7 : Bool) (p6 : aA) (j174 : Int → Bool → Int → Int → Option aA) (p4 : (List aT)) (p5 : Int) (v173 : Int) (p0 : bK) (p3 : bB) (v110 : aA) : Nat → Int → Bool → Int → Int → Int → Option aA
 | 0, _, _, _, _, _ => none
 | n + 1, v193, v194, v195, v196, v197 => (if (decide (v197 < (List.length e175.Decls : Int))) = true then (aS (fun (v209 : Int) (v210 : Bool) (v211 : Int) (v212 : Int) => eZ e175 v109 y176 p1 p2 p7 p6 j174 p4 p5 v173 p0 p3 v110 n v209 v210 v211 v212 (IntKind.wrap .i64 (v197 + 1))) (fun (j198 : Int → Bool → Int → Int → Option aA) => (idx e175.Decls v197).bind fun (e199 : bN) => (if (e199.Prop_ != v109) = true then j198 v193 v194 v195 v196 else (lE n).bind fun (y200 : aA) => (idx (aA.toL y200) v109).bind fun (e201 : Int) => (aS (fun (v207 : Int) (v208 : Bool) => j198 v207 v208 y176.1 y176.2) (fun (j202 : Int → Bool → Option aA) => (if (e199.Source == 0) = true then j202 e199.N false else (if (e199.Source == 1) = true then (oA n p1 p2 e199.Token).bind fun (y203 : (Int × Bool)) => (gd [(!(!y203.2))] (dI n v109 y203.1)).bind fun (y204 : Bool) => (if ((!y203.2) || (!y204)) = true then j198 v193 v194 v195 v196 else j202 y203.1 false) else (if (e199.Source == 2) = true then (if (!p7) = true then (uU v109 22).bind fun (k205 : Nat) => ((aA.toL p6)[k205]?).bind fun (e206 : Int) => j202 e206 true else j202 e201 false) else j202 e201 false)))))))) else j174 v193 v194 v195 v196)
def cX (p0 : bK) (p3 : bB) (p4 : (List aT)) (p5 : Int) (v109 : Int) (p1 : bS) (p2 : cQ) (p7 : Bool) (p6 : aA) (v110 : aA) (j120 : Int → Bool → Option aA) : Nat → Int → Bool → Int → Int → Int → Option aA
 | 0, _, _, _, _, _ => none
 | n + 1, v169, v170, v171, v172, v173 => (if (decide (v173 < (List.length p0.Rules : Int))) = true then (aS (fun (v218 : Int) (v219 : Bool) (v220 : Int) (v221 : Int) => cX p0 p3 p4 p5 v109 p1 p2 p7 p6 v110 j120 n v218 v219 v220 v221 (IntKind.wrap .i64 (v173 + 1))) (fun (j174 : Int → Bool → Int → Int → Option aA) => (idx p0.Rules v173).bind fun (e175 : bZ) => (kM n e175).bind fun (y176 : (Int × Int)) => (gd [(!((decide (y176.1 < v171)) || ((y176.1 == v171) && (decide (y176.2 < v172)))))] (jH n e175 p3 p4 p5)).bind fun (y177 : Bool) => (if (((decide (y176.1 < v171)) || ((y176.1 == v171) && (decide (y176.2 < v172)))) || (!y177)) = true then j174 v169 v170 v171 v172 else eZ e175 v109 y176 p1 p2 p7 p6 j174 p4 p5 v173 p0 p3 v110 n v169 v170 v171 v172 0))) else j120 v169 v170)
def dW (p2 : cQ) (p0 : bK) (p3 : bB) (p4 : (List aT)) (p5 : Int) (p1 : bS) (p7 : Bool) (p6 : aA) (j1 : aA → Option aA) : Nat → Int → aA → Option aA
 | 0, _, _ => none
 | n + 1, v109, v110 => (if (decide (v109 < 22)) = true then (aS (fun (v233 : aA) => dW p2 p0 p3 p4 p5 p1 p7 p6 j1 n (IntKind.wrap .i64 (v109 + 1)) v233) (fun (j111 : aA → Option aA) => (lE n).bind fun (y112 : aA) => (idx (aA.toL y112) v109).bind fun (e113 : Int) => (aS (fun (v118 : Int) (v119 : Bool) => (aS (fun (v227 : Int) (v228 : Bool) => (aS (fun (v231 : Int) => (uU v109 22).bind fun (k232 : Nat) => j111 (aA.set v110 k232 v231)) (fun (j229 : Int → Option aA) => (if ((v109 == 2) && (!v228)) = true then (nD n p2 v227).bind fun (y230 : Int) => j229 y230 else j229 v227)))) (fun (j120 : Int → Bool → Option aA) => cX p0 p3 p4 p5 v109 p1 p2 p7 p6 v110 j120 n v118 v119 (-1 : Int) (-1 : Int) 0))) (fun (j114 : Int → Bool → Option aA) => (iZ n v109).bind fun (y115 : Bool) => (if (y115 && (!p7)) = true then (uU v109 22).bind fun (k116 : Nat) => ((aA.toL p6)[k116]?).bind fun (e117 : Int) => j114 e117 true else j114 e113 false))))) else j1 v110)
def mU  (n : Nat) (p0 : bK) (p1 : bS) (p2 : cQ) (p3 : bB) (p4 : (List aT)) (p5 : Int) (p6 : aA) (p7 : Bool) : Option aA := (aS (fun (v236 : aA) => some v236) (fun (j1 : aA → Option aA) => dW p2 p0 p3 p4 p5 p1 p7 p6 j1 n 0 (aA.mk 0 0 0 0 0 0 0 0 0 0 0 0 0 0 0 0 0 0 0 0 0 0)))
theorem Aj  (n : Nat) (p0 : bK) (p1 : bS) (p2 : cQ) (p3 : bB) (p4 : (List aT)) (p5 : Int) (p6 : aA) (p7 : Bool) (r : aA) (h : mU n p0 p1 p2 p3 p4 p5 p6 p7 = some r) : cW E 46 0 [.agg [C5 p0.Rules], .agg [F8 p1.Tokens], F9 p2, C0 p3, D6 p4, B7 p5, C3 p6, B3 p7] [] (C3 r) [] := by
 refine eV Tryz.func46 rfl ?_
 unfold mU at h
 refine za [4, 5, 7, 8, 9, 10, 11, 14, 16] ?_
 refine za [4, 5, 7, 8, 9, 10, 11, 14, 16, 17] ?_
 refine aQ h (fun A j => ∀ v236, j v236 = some r → A (mk [A1 16 0 0, A1 17 1 0] [(0, A7), K1 1 v236] 2)) (fun v236 h => ?_) (fun j1 Aj1 hj1 h => ?_)
 refine za [16] ?_
 cases h
 exact aD zr
 refine za [4, 5, 7, 8, 9, 10, 11, 14, 16, 17, 18] ?_
 refine aG ?_
 refine bA (fun n s => ∃ v109 v110, dW p2 p0 p3 p4 p5 p1 p7 p6 j1 n v109 v110 = some r ∧ s = mk [N3 p4, A6 5 p5, J3 7 p7, L5, M3, J8, K8, K9, L0, L3, A6 18 v109] [F2 p0.Rules, M1 p1.Tokens, M2 p2, I1 3 p3, K1 4 p6, (5, A7), K1 6 v110] 7) n _ (zv [(0, 0), (1, 1), (2, 2), (3, 3), (4, 4), (5, 5), (6, 6)] [4, 5, 7, 8, 9, 10, 11, 14, 16, 17, 18] 7) ⟨_, _, h, rfl⟩ (fun s ⟨v109, v110, h, _⟩ => nomatch h) ?_
 rintro n s ⟨v109, v110, h, rfl⟩
 rw [dW] at h
 refine aI ?_
 refine za [4, 5, 7, 8, 9, 10, 11, 14, 16, 17, 18, 34] ?_
 refine zi h (fun h => ?_) fun h => ?_
 refine aB ?_
 refine aQ h (fun A j => ∀ v233, j v233 = some r → A (mk [N3 p4, A6 5 p5, J3 7 p7, L5, M3, J8, K8, K9, L0, L3, A6 18 v109] [F2 p0.Rules, M1 p1.Tokens, M2 p2, I1 3 p3, K1 4 p6, (5, A7), K1 6 v233] 7)) (fun v233 h => ?_) (fun j111 Aj111 hj111 h => ?_)
 refine aW ?_
 refine zb ?_
 exact dF (zv [(0, 0), (1, 1), (2, 2), (3, 3), (4, 4), (5, 5), (6, 6)] [4, 5, 7, 8, 9, 10, 11, 14, 16, 17, 18] 7) (⟨_, _, h, rfl⟩)
 refine aG ?_
 refine zx fun _ => ?_
 obtain ⟨y112, he, h⟩ := aC h
 refine zc fok81 (rZ n  y112 he) ?_
 clear he
 refine zk 1 ?_
 obtain ⟨e113, he, h⟩ := aC h
 refine cZ (v := .c (I e113)) (foot := []) (wV (enc := aN) (xs := (aA.toL y112)) (ix := v109) (e := e113) (len := 22) (j := ⟨.int .i64, 1, 8, [.int .i64 0]⟩) (v := .c (I e113)) he (by kernel_rfl) (by kernel_rfl) (fun x => by kernel_rfl) (by decide) (by kernel_rfl)) (by kernel_rfl) rfl rfl ?_
 clear he
 refine zk 2 ?_
 refine ze [4, 5, 7, 8, 9, 10, 11, 14, 16, 17, 18, 19, 20] ?_
 refine aQ h (fun A j => ∀ v118 v119, j v118 v119 = some r → A (mk [N3 p4, A6 5 p5, J3 7 p7, L5, M3, J8, K8, K9, L0, L3, A6 18 v109, A6 19 v118, J3 20 v119] [F2 p0.Rules, M1 p1.Tokens, M2 p2, I1 3 p3, K1 4 p6, (5, A7), K1 6 v110] 7)) (fun v118 v119 h => ?_) (fun j114 Aj114 hj114 h => ?_)
 refine za [4, 5, 7, 8, 9, 10, 11, 14, 16, 17, 18, 19, 20, 21, 22] ?_
 refine aQ h (fun A j => ∀ v227 v228, j v227 v228 = some r → A (mk [N3 p4, A6 5 p5, J3 7 p7, L5, M3, J8, K8, K9, L0, L3, A6 18 v109, A6 19 v227, J3 20 v228] [F2 p0.Rules, M1 p1.Tokens, M2 p2, I1 3 p3, K1 4 p6, (5, A7), K1 6 v110] 7)) (fun v227 v228 h => ?_) (fun j120 Aj120 hj120 h => ?_)
 refine aQ h (fun A j => ∀ v231, j v231 = some r → A (mk [N3 p4, A6 5 p5, J3 7 p7, L5, M3, J8, K8, K9, L0, L3, A6 18 v109, A6 19 v231] [F2 p0.Rules, M1 p1.Tokens, M2 p2, I1 3 p3, K1 4 p6, (5, A7), K1 6 v110] 7)) (fun v231 h => ?_) (fun j229 Aj229 hj229 h => ?_)
 refine aW ?_
 refine zy fun _ => ?_
 refine zk 2 ?_
 obtain ⟨k232, he, h⟩ := aC h
 refine cZ (v := .c (.ptr 6 (0 + k232 * 1))) (foot := []) (xK (n := 6) (q := 0) (len := 22) (sz := 1) (k := k232) (ix := v109) he (by kernel_rfl)) (by kernel_rfl) rfl rfl ?_
 have hb_k232 := mR he; clear he
 refine qK (n := 6) (off := (0 + k232 * 1)) (T0 := 52) (sz := 1) (lx := [I v231]) (l := [I v110.x0, I v110.x1, I v110.x2, I v110.x3, I v110.x4, I v110.x5, I v110.x6, I v110.x7, I v110.x8, I v110.x9, I v110.x10, I v110.x11, I v110.x12, I v110.x13, I v110.x14, I v110.x15, I v110.x16, I v110.x17, I v110.x18, I v110.x19, I v110.x20, I v110.x21]) (l2 := [I ((E8 v110 k232 v231).x0), I ((E8 v110 k232 v231).x1), I ((E8 v110 k232 v231).x2), I ((E8 v110 k232 v231).x3), I ((E8 v110 k232 v231).x4), I ((E8 v110 k232 v231).x5), I ((E8 v110 k232 v231).x6), I ((E8 v110 k232 v231).x7), I ((E8 v110 k232 v231).x8), I ((E8 v110 k232 v231).x9), I ((E8 v110 k232 v231).x10), I ((E8 v110 k232 v231).x11), I ((E8 v110 k232 v231).x12), I ((E8 v110 k232 v231).x13), I ((E8 v110 k232 v231).x14), I ((E8 v110 k232 v231).x15), I ((E8 v110 k232 v231).x16), I ((E8 v110 k232 v231).x17), I ((E8 v110 k232 v231).x18), I ((E8 v110 k232 v231).x19), I ((E8 v110 k232 v231).x20), I ((E8 v110 k232 v231).x21)]) (by kernel_rfl) (by kernel_rfl) (by simp only [List.length_cons, List.length_nil]; omega) (by rw [Nat.zero_add]; exact aA.splice_eq v110 k232 v231 hb_k232) (by kernel_rfl) rfl rfl ?_
 refine bV ?_
 exact dF (zv [(0, 0), (1, 1), (2, 2), (3, 3), (4, 4), (5, 5), (6, 6)] [4, 5, 7, 8, 9, 10, 11, 14, 16, 17, 18] 7) (hj111 _ h)
 refine zx fun _ => ?_
 refine zk 3 ?_
 refine zE (B3 v228) ?_
 refine zE (B3 (!v228)) ?_
 refine zP (.bool ((v109 == 2) && (!v228))) ?_
 refine ze [4, 5, 7, 8, 9, 10, 11, 14, 16, 17, 18, 19, 147] ?_
 refine zi h (fun h => ?_) fun h => ?_
 refine aW ?_
 refine zy fun _ => ?_
 refine zk 2 ?_
 obtain ⟨y230, he, h⟩ := aC h
 refine zc fok85 (Ht n _ _ y230 he) ?_
 clear he
 refine zn (L2 := [N3 p4, A6 5 p5, J3 7 p7, L5, M3, J8, K8, K9, L0, L3, A6 18 v109, A6 19 v227, (147, B3 ((v109 == 2) && (!v228))), (148, F9 p2), A6 149 v227, A6 150 y230]) (G2 := [F2 p0.Rules, M1 p1.Tokens, M2 p2, I1 3 p3, K1 4 p6, (5, A7), K1 6 v110]) (X2 := []) ?_
 refine zk 1 ?_
 refine bV ?_
 exact dF (zv [(0, 0), (1, 1), (2, 2), (3, 3), (4, 4), (5, 5), (6, 6)] [4, 5, 7, 8, 9, 10, 11, 14, 16, 17, 18, 19] 7) (hj229 _ h)
 exact aH (zv [(0, 0), (1, 1), (2, 2), (3, 3), (4, 4), (5, 5), (6, 6)] [4, 5, 7, 8, 9, 10, 11, 14, 16, 17, 18, 19] 7) (aB (hj229 _ h))
 refine za [4, 5, 7, 8, 9, 10, 11, 14, 16, 17, 18, 19, 20, 21, 22, 23] ?_
 refine aG ?_
 refine bA (fun n s => ∃ v169 v170 v171 v172 v173, cX p0 p3 p4 p5 v109 p1 p2 p7 p6 v110 j120 n v169 v170 v171 v172 v173 = some r ∧ s = mk [N3 p4, A6 5 p5, J3 7 p7, L5, M3, J8, K8, K9, L0, L3, A6 18 v109, A6 19 v169, J3 20 v170, A6 21 v171, A6 22 v172, A6 23 v173] [F2 p0.Rules, M1 p1.Tokens, M2 p2, I1 3 p3, K1 4 p6, (5, A7), K1 6 v110] 7) n _ (zv [(0, 0), (1, 1), (2, 2), (3, 3), (4, 4), (5, 5), (6, 6)] [4, 5, 7, 8, 9, 10, 11, 14, 16, 17, 18, 19, 20, 21, 22, 23] 7) ⟨_, _, _, _, _, h, rfl⟩ (fun s ⟨v169, v170, v171, v172, v173, h, _⟩ => nomatch h) ?_
 rintro n s ⟨v169, v170, v171, v172, v173, h, rfl⟩
 rw [cX] at h
 refine aI ?_
 refine zx fun _ => ?_
 refine zk 3 ?_
 refine zl aY p0.Rules ?_
 refine zk 1 ?_
 refine ze [4, 5, 7, 8, 9, 10, 11, 14, 16, 17, 18, 19, 20, 21, 22, 23, 53] ?_
 refine zi h (fun h => ?_) fun h => ?_
 refine aB ?_
 refine aQ h (fun A j => ∀ v218 v219 v220 v221, j v218 v219 v220 v221 = some r → A (mk [N3 p4, A6 5 p5, J3 7 p7, L5, M3, J8, K8, K9, L0, L3, A6 18 v109, A6 19 v218, J3 20 v219, A6 21 v220, A6 22 v221, A6 23 v173] [F2 p0.Rules, M1 p1.Tokens, M2 p2, I1 3 p3, K1 4 p6, (5, A7), K1 6 v110] 7)) (fun v218 v219 v220 v221 h => ?_) (fun j174 Aj174 hj174 h => ?_)
 refine aW ?_
 refine zb ?_
 exact dF (zv [(0, 0), (1, 1), (2, 2), (3, 3), (4, 4), (5, 5), (6, 6)] [4, 5, 7, 8, 9, 10, 11, 14, 16, 17, 18, 19, 20, 21, 22, 23] 7) (⟨_, _, _, _, _, h, rfl⟩)
 refine aG ?_
 refine zx fun _ => ?_
 refine zk 3 ?_
 obtain ⟨e175, he, h⟩ := aC h
 refine zd aY he ?_
 clear he
 refine zn (L2 := [N3 p4, A6 5 p5, J3 7 p7, L5, M3, J8, K8, K9, L0, L3, A6 18 v109, A6 19 v169, J3 20 v170, A6 21 v171, A6 22 v172, A6 23 v173, (53, .c (Bo (decide (v173 < (List.length p0.Rules : Int))))), A1 56 0 0, (57, .c (C5 p0.Rules)), A6 58 v173, (59, .c (.imm [I e175.Kind, Sx e175.Class, I e175.States, I e175.UnderKind, Sx e175.UnderClass, .lit (List.map bI e175.Decls)]))]) (G2 := [F2 p0.Rules, M1 p1.Tokens, M2 p2, I1 3 p3, K1 4 p6, (5, A7), K1 6 v110]) (X2 := []) ?_
 refine zk 3 ?_
 refine ze [4, 5, 7, 8, 9, 10, 11, 14, 16, 17, 18, 19, 20, 21, 22, 23, 24] ?_
 refine zx fun _ => ?_
 refine zk 1 ?_
 obtain ⟨y176, he, h⟩ := aC h
 refine zc fok83 (Dc n _ y176 he) ?_
 clear he
 refine zk 5 ?_
 refine ze [4, 5, 7, 8, 9, 10, 11, 14, 16, 17, 18, 19, 20, 21, 22, 23, 24, 25, 26] ?_
 refine aI ?_
 refine zx fun _ => ?_
 refine zk 4 ?_
 refine zE (B7 y176.1) ?_
 refine zn (L2 := [N3 p4, A6 5 p5, J3 7 p7, L5, M3, J8, K8, K9, L0, L3, A6 18 v109, A6 19 v169, J3 20 v170, A6 21 v171, A6 22 v172, A6 23 v173, A1 24 17 0, A6 25 y176.1, A6 26 y176.2, A6 66 y176.1, A6 67 v171, (68, H9 y176.1 v171), (69, H9 y176.1 v171), N9 70 y176.1 v171]) (G2 := [F2 p0.Rules, M1 p1.Tokens, M2 p2, I1 3 p3, K1 4 p6, (5, A7), K1 6 v110, K5 17 e175]) (X2 := []) ?_
 refine zE (B7 v171) ?_
 refine zE (B3 (y176.1 == v171)) ?_
 refine zF [!(C1 y176.1 v171)] (B3 (y176.1 == v171)) ?_
 refine zE (B7 y176.2) ?_
 refine zE (B7 v172) ?_
 refine zn (L2 := [N3 p4, A6 5 p5, J3 7 p7, L5, M3, J8, K8, K9, L0, L3, A6 18 v109, A6 19 v169, J3 20 v170, A6 21 v171, A6 22 v172, A6 23 v173, A1 24 17 0, A6 25 y176.1, A6 26 y176.2, A6 66 y176.1, A6 67 v171, (68, H9 y176.1 v171), (69, H9 y176.1 v171), N9 70 y176.1 v171, (71, .cnd [!(C1 y176.1 v171)] (B7 v171)), (72, .cnd [!(C1 y176.1 v171)] (B3 (y176.1 == v171))), (73, .cnd [!(C1 y176.1 v171)] (B3 (y176.1 == v171))), (74, .cnd [!(C1 y176.1 v171), y176.1 == v171] (B7 y176.2)), (75, .cnd [!(C1 y176.1 v171), y176.1 == v171] (B7 v172))]) (G2 := [F2 p0.Rules, M1 p1.Tokens, M2 p2, I1 3 p3, K1 4 p6, (5, A7), K1 6 v110, K5 17 e175]) (X2 := []) ?_
 refine zE (H9 y176.2 v172) ?_
 refine zP (.bool ((y176.1 == v171) && (C1 y176.2 v172))) ?_
 refine zP (.bool ((C1 y176.1 v171) || ((y176.1 == v171) && (C1 y176.2 v172)))) ?_
 refine zk 1 ?_
 refine zE (D7 e175) ?_
 refine zn (L2 := [N3 p4, A6 5 p5, J3 7 p7, L5, M3, J8, K8, K9, L0, L3, A6 18 v109, A6 19 v169, J3 20 v170, A6 21 v171, A6 22 v172, A6 23 v173, A1 24 17 0, A6 25 y176.1, A6 26 y176.2, A6 66 y176.1, A6 67 v171, (68, H9 y176.1 v171), (69, H9 y176.1 v171), N9 70 y176.1 v171, (71, .cnd [!(C1 y176.1 v171)] (B7 v171)), (72, .cnd [!(C1 y176.1 v171)] (B3 (y176.1 == v171))), (73, .cnd [!(C1 y176.1 v171)] (B3 (y176.1 == v171))), (74, .cnd [!(C1 y176.1 v171), y176.1 == v171] (B7 y176.2)), (75, .cnd [!(C1 y176.1 v171), y176.1 == v171] (B7 v172)), (76, .cnd [!(C1 y176.1 v171), y176.1 == v171] (H9 y176.2 v172)), (77, .cnd [!(C1 y176.1 v171)] (B3 ((y176.1 == v171) && (C1 y176.2 v172)))), (78, B3 ((C1 y176.1 v171) || ((y176.1 == v171) && (C1 y176.2 v172)))), (79, B3 ((C1 y176.1 v171) || ((y176.1 == v171) && (C1 y176.2 v172)))), (80, .cnd [!((C1 y176.1 v171) || ((y176.1 == v171) && (C1 y176.2 v172)))] (D7 e175))]) (G2 := [F2 p0.Rules, M1 p1.Tokens, M2 p2, I1 3 p3, K1 4 p6, (5, A7), K1 6 v110, K5 17 e175]) (X2 := []) ?_
 refine zE (C0 p3) ?_
 refine zE (D6 p4) ?_
 refine zE (B7 p5) ?_
 obtain ⟨y177, he, h⟩ := aC h
 refine An [!((C1 y176.1 v171) || ((y176.1 == v171) && (C1 y176.2 v172)))] fok54 (fun hg => Ap n _ _ _ _ y177 (bR he hg)) ?_
 clear he
 refine zE (B3 (!y177)) ?_
 refine zn (L2 := [N3 p4, A6 5 p5, J3 7 p7, L5, M3, J8, K8, K9, L0, L3, A6 18 v109, A6 19 v169, J3 20 v170, A6 21 v171, A6 22 v172, A6 23 v173, A1 24 17 0, A6 25 y176.1, A6 26 y176.2, A6 66 y176.1, A6 67 v171, (68, H9 y176.1 v171), (69, H9 y176.1 v171), N9 70 y176.1 v171, (71, .cnd [!(C1 y176.1 v171)] (B7 v171)), (72, .cnd [!(C1 y176.1 v171)] (B3 (y176.1 == v171))), (73, .cnd [!(C1 y176.1 v171)] (B3 (y176.1 == v171))), (74, .cnd [!(C1 y176.1 v171), y176.1 == v171] (B7 y176.2)), (75, .cnd [!(C1 y176.1 v171), y176.1 == v171] (B7 v172)), (76, .cnd [!(C1 y176.1 v171), y176.1 == v171] (H9 y176.2 v172)), (77, .cnd [!(C1 y176.1 v171)] (B3 ((y176.1 == v171) && (C1 y176.2 v172)))), (78, B3 ((C1 y176.1 v171) || ((y176.1 == v171) && (C1 y176.2 v172)))), (79, B3 ((C1 y176.1 v171) || ((y176.1 == v171) && (C1 y176.2 v172)))), (80, .cnd [!((C1 y176.1 v171) || ((y176.1 == v171) && (C1 y176.2 v172)))] (D7 e175)), (81, .cnd [!((C1 y176.1 v171) || ((y176.1 == v171) && (C1 y176.2 v172)))] (C0 p3)), (82, .cnd [!((C1 y176.1 v171) || ((y176.1 == v171) && (C1 y176.2 v172)))] (D6 p4)), (83, .cnd [!((C1 y176.1 v171) || ((y176.1 == v171) && (C1 y176.2 v172)))] (B7 p5)), (84, .cnd [!((C1 y176.1 v171) || ((y176.1 == v171) && (C1 y176.2 v172)))] (B3 y177)), (85, .cnd [!((C1 y176.1 v171) || ((y176.1 == v171) && (C1 y176.2 v172)))] (B3 (!y177)))]) (G2 := [F2 p0.Rules, M1 p1.Tokens, M2 p2, I1 3 p3, K1 4 p6, (5, A7), K1 6 v110, K5 17 e175]) (X2 := []) ?_
 refine zP (.bool (((C1 y176.1 v171) || ((y176.1 == v171) && (C1 y176.2 v172))) || (!y177))) ?_
 refine ze [4, 5, 7, 8, 9, 10, 11, 14, 16, 17, 18, 19, 20, 21, 22, 23, 24, 25, 26, 86] ?_
 refine zi h (fun h => ?_) fun h => ?_
 exact aH (zv [(0, 0), (1, 1), (2, 2), (3, 3), (4, 4), (5, 5), (6, 6)] [4, 5, 7, 8, 9, 10, 11, 14, 16, 17, 18, 19, 20, 21, 22, 23] 7) (bG (hj174 _ _ _ _ h))
 refine aB ?_
 refine za [4, 5, 7, 8, 9, 10, 11, 14, 16, 17, 18, 19, 20, 21, 22, 23, 24, 25, 26, 27] ?_
 refine aG ?_
 refine bA (fun n s => ∃ v193 v194 v195 v196 v197, eZ e175 v109 y176 p1 p2 p7 p6 j174 p4 p5 v173 p0 p3 v110 n v193 v194 v195 v196 v197 = some r ∧ s = mk [N3 p4, A6 5 p5, J3 7 p7, L5, M3, J8, K8, K9, L0, L3, A6 18 v109, A6 19 v193, J3 20 v194, A6 21 v195, A6 22 v196, A6 23 v173, A1 24 7 0, A6 25 y176.1, A6 26 y176.2, A6 27 v197] [F2 p0.Rules, M1 p1.Tokens, M2 p2, I1 3 p3, K1 4 p6, (5, A7), K1 6 v110, K5 7 e175] 8) n _ (zv [(0, 0), (1, 1), (2, 2), (3, 3), (4, 4), (5, 5), (6, 6), (17, 7)] [4, 5, 7, 8, 9, 10, 11, 14, 16, 17, 18, 19, 20, 21, 22, 23, 24, 25, 26, 27] 8) ⟨_, _, _, _, _, h, rfl⟩ (fun s ⟨v193, v194, v195, v196, v197, h, _⟩ => nomatch h) ?_
 rintro n s ⟨v193, v194, v195, v196, v197, h, rfl⟩
 rw [eZ] at h
 refine aI ?_
 refine zx fun _ => ?_
 refine zk 3 ?_
 refine zl bI e175.Decls ?_
 refine zk 1 ?_
 refine ze [4, 5, 7, 8, 9, 10, 11, 14, 16, 17, 18, 19, 20, 21, 22, 23, 24, 25, 26, 27, 91] ?_
 refine zi h (fun h => ?_) fun h => ?_
 refine aB ?_
 refine aQ h (fun A j => ∀ v209 v210 v211 v212, j v209 v210 v211 v212 = some r → A (mk [N3 p4, A6 5 p5, J3 7 p7, L5, M3, J8, K8, K9, L0, L3, A6 18 v109, A6 19 v209, J3 20 v210, A6 21 v211, A6 22 v212, A6 23 v173, A1 24 7 0, A6 25 y176.1, A6 26 y176.2, A6 27 v197] [F2 p0.Rules, M1 p1.Tokens, M2 p2, I1 3 p3, K1 4 p6, (5, A7), K1 6 v110, K5 7 e175] 8)) (fun v209 v210 v211 v212 h => ?_) (fun j198 Aj198 hj198 h => ?_)
 refine aW ?_
 refine zb ?_
 exact dF (zv [(0, 0), (1, 1), (2, 2), (3, 3), (4, 4), (5, 5), (6, 6), (7, 7)] [4, 5, 7, 8, 9, 10, 11, 14, 16, 17, 18, 19, 20, 21, 22, 23, 24, 25, 26, 27] 8) (⟨_, _, _, _, _, h, rfl⟩)
 refine aG ?_
 refine zx fun _ => ?_
 refine zk 3 ?_
 obtain ⟨e199, he, h⟩ := aC h
 refine zd bI he ?_
 clear he
 refine zn (L2 := [N3 p4, A6 5 p5, J3 7 p7, L5, M3, J8, K8, K9, L0, L3, A6 18 v109, A6 19 v193, J3 20 v194, A6 21 v195, A6 22 v196, A6 23 v173, A1 24 7 0, A6 25 y176.1, A6 26 y176.2, A6 27 v197, (91, .c (Bo (decide (v197 < (List.length e175.Decls : Int))))), A1 94 7 5, K7 95 e175.Decls, A6 96 v197, (97, .c (.imm [I e199.Prop_, I e199.Source, I e199.N, Sx e199.Token]))]) (G2 := [F2 p0.Rules, M1 p1.Tokens, M2 p2, I1 3 p3, K1 4 p6, (5, A7), K1 6 v110, K5 7 e175]) (X2 := []) ?_
 refine zk 3 ?_
 refine ze [4, 5, 7, 8, 9, 10, 11, 14, 16, 17, 18, 19, 20, 21, 22, 23, 24, 25, 26, 27, 28] ?_
 refine aI ?_
 refine za [4, 5, 7, 8, 9, 10, 11, 14, 16, 17, 18, 19, 20, 21, 22, 23, 24, 25, 26, 27, 28, 102] ?_
 refine zi h (fun h => ?_) fun h => ?_
 exact aH (zv [(0, 0), (1, 1), (2, 2), (3, 3), (4, 4), (5, 5), (6, 6), (7, 7)] [4, 5, 7, 8, 9, 10, 11, 14, 16, 17, 18, 19, 20, 21, 22, 23, 24, 25, 26, 27] 8) (bG (hj198 _ _ _ _ h))
 refine aB ?_
 refine zx fun _ => ?_
 obtain ⟨y200, he, h⟩ := aC h
 refine zc fok81 (rZ n  y200 he) ?_
 clear he
 refine zk 1 ?_
 obtain ⟨e201, he, h⟩ := aC h
 refine cZ (v := .c (I e201)) (foot := []) (wV (enc := aN) (xs := (aA.toL y200)) (ix := v109) (e := e201) (len := 22) (j := ⟨.int .i64, 1, 8, [.int .i64 0]⟩) (v := .c (I e201)) he (by kernel_rfl) (by kernel_rfl) (fun x => by kernel_rfl) (by decide) (by kernel_rfl)) (by kernel_rfl) rfl rfl ?_
 clear he
 refine Wp 2 (L' := [N3 p4, A6 5 p5, J3 7 p7, L5, M3, J8, K8, K9, L0, L3, A6 18 v109, A6 19 v193, J3 20 v194, A6 21 v195, A6 22 v196, A6 23 v173, A1 24 7 0, A6 25 y176.1, A6 26 y176.2, A6 27 v197, A1 28 18 0, (102, B3 (e199.Prop_ != v109)), (103, C3 y200), A6 104 v109, A6 105 e201, A6 29 e201, L9 30]) (G' := [F2 p0.Rules, M1 p1.Tokens, M2 p2, I1 3 p3, K1 4 p6, (5, A7), K1 6 v110, K5 7 e175, (18, E3 e199)]) (X' := []) ?_
 refine ze [4, 5, 7, 8, 9, 10, 11, 14, 16, 17, 18, 19, 20, 21, 22, 23, 24, 25, 26, 27, 28, 29, 30] ?_
 refine aQ h (fun A j => ∀ v207 v208, j v207 v208 = some r → A (mk [N3 p4, A6 5 p5, J3 7 p7, L5, M3, J8, K8, K9, L0, L3, A6 18 v109, A6 23 v173, A1 24 7 0, A6 25 y176.1, A6 26 y176.2, A6 27 v197, A6 29 v207, J3 30 v208] [F2 p0.Rules, M1 p1.Tokens, M2 p2, I1 3 p3, K1 4 p6, (5, A7), K1 6 v110, K5 7 e175] 8)) (fun v207 v208 h => ?_) (fun j202 Aj202 hj202 h => ?_)
 refine aW ?_
 refine zb ?_
 exact dF (zv [(0, 0), (1, 1), (2, 2), (3, 3), (4, 4), (5, 5), (6, 6), (7, 7)] [4, 5, 7, 8, 9, 10, 11, 14, 16, 17, 18, 19, 20, 21, 22, 23, 24, 25, 26, 27] 8) (hj198 _ _ _ _ h)
 refine za [4, 5, 7, 8, 9, 10, 11, 14, 16, 17, 18, 19, 20, 21, 22, 23, 24, 25, 26, 27, 28, 29, 30, 107] ?_
 refine aG ?_
 refine za [4, 5, 7, 8, 9, 10, 11, 14, 16, 17, 18, 19, 20, 21, 22, 23, 24, 25, 26, 27, 28, 29, 30, 107, 108] ?_
 refine zi h (fun h => ?_) fun h => ?_
 refine aW ?_
 refine zb ?_
 exact dF (zv [(0, 0), (1, 1), (2, 2), (3, 3), (4, 4), (5, 5), (6, 6), (7, 7)] [4, 5, 7, 8, 9, 10, 11, 14, 16, 17, 18, 23, 24, 25, 26, 27, 29, 30] 8) (hj202 _ _ h)
 refine za [4, 5, 7, 8, 9, 10, 11, 14, 16, 17, 18, 19, 20, 21, 22, 23, 24, 25, 26, 27, 28, 29, 30, 107, 112] ?_
 refine zi h (fun h => ?_) fun h => ?_
 refine zx fun _ => ?_
 refine zk 4 ?_
 obtain ⟨y203, he, h⟩ := aC h
 refine zc fok84 (Da n _ _ _ y203 he) ?_
 clear he
 refine zn (L2 := [N3 p4, A6 5 p5, J3 7 p7, L5, M3, J8, K8, K9, L0, L3, A6 18 v109, A6 19 v193, J3 20 v194, A6 21 v195, A6 22 v196, A6 23 v173, A1 24 7 0, A6 25 y176.1, A6 26 y176.2, A6 27 v197, A1 28 18 0, A6 29 e201, L9 30, A6 107 e199.Source, (112, B3 (e199.Source == 1)), (115, .agg [F8 p1.Tokens]), (116, F9 p2), A1 117 18 3, (118, F0 e199.Token), (119, .tup [B7 y203.1, B3 y203.2])]) (G2 := [F2 p0.Rules, M1 p1.Tokens, M2 p2, I1 3 p3, K1 4 p6, (5, A7), K1 6 v110, K5 7 e175, (18, E3 e199)]) (X2 := []) ?_
 refine zk 5 ?_
 refine ze [4, 5, 7, 8, 9, 10, 11, 14, 16, 17, 18, 19, 20, 21, 22, 23, 24, 25, 26, 27, 30, 31, 32] ?_
 refine aI ?_
 refine zx fun _ => ?_
 refine zk 3 ?_
 refine zE (B7 v109) ?_
 refine zE (B7 y203.1) ?_
 obtain ⟨y204, he, h⟩ := aC h
 refine An [!(!y203.2)] Vg (fun hg => oQ n _ _ y204 (bR he hg)) ?_
 clear he
 refine zn (L2 := [N3 p4, A6 5 p5, J3 7 p7, L5, M3, J8, K8, K9, L0, L3, A6 18 v109, A6 19 v193, J3 20 v194, A6 21 v195, A6 22 v196, A6 23 v173, A1 24 7 0, A6 25 y176.1, A6 26 y176.2, A6 27 v197, L9 30, A6 31 y203.1, J3 32 y203.2, J3 122 y203.2, (123, B3 (!y203.2)), (124, B3 (!y203.2)), (125, .cnd [!(!y203.2)] (B7 v109)), (126, .cnd [!(!y203.2)] (B7 y203.1)), (127, .cnd [!(!y203.2)] (B3 y204))]) (G2 := [F2 p0.Rules, M1 p1.Tokens, M2 p2, I1 3 p3, K1 4 p6, (5, A7), K1 6 v110, K5 7 e175, (18, E3 e199)]) (X2 := []) ?_
 refine zE (B3 (!y204)) ?_
 refine zP (.bool ((!y203.2) || (!y204))) ?_
 refine ze [4, 5, 7, 8, 9, 10, 11, 14, 16, 17, 18, 19, 20, 21, 22, 23, 24, 25, 26, 27, 30, 31, 129] ?_
 refine zi h (fun h => ?_) fun h => ?_
 exact aH (zv [(0, 0), (1, 1), (2, 2), (3, 3), (4, 4), (5, 5), (6, 6), (7, 7)] [4, 5, 7, 8, 9, 10, 11, 14, 16, 17, 18, 19, 20, 21, 22, 23, 24, 25, 26, 27] 8) (bG (hj198 _ _ _ _ h))
 refine aB ?_
 refine aW ?_
 refine zb ?_
 exact dF (zv [(0, 0), (1, 1), (2, 2), (3, 3), (4, 4), (5, 5), (6, 6), (7, 7)] [4, 5, 7, 8, 9, 10, 11, 14, 16, 17, 18, 23, 24, 25, 26, 27, 29, 30] 8) (hj202 _ _ h)
 refine za [4, 5, 7, 8, 9, 10, 11, 14, 16, 17, 18, 23, 24, 25, 26, 27, 29, 30, 131] ?_
 refine zi h (fun h => ?_) fun h => ?_
 refine za [4, 5, 7, 8, 9, 10, 11, 14, 16, 17, 18, 23, 24, 25, 26, 27, 29, 30, 134] ?_
 refine zi h (fun h => ?_) fun h => ?_
 refine aW ?_
 refine zy fun _ => ?_
 refine Wp 1 (L' := [N3 p4, A6 5 p5, J3 7 p7, L5, M3, J8, K8, K9, L0, L3, A6 18 v109, A6 23 v173, A1 24 7 0, A6 25 y176.1, A6 26 y176.2, A6 27 v197, A6 29 e201, L9 30, (134, B3 (!p7)), A6 135 v109]) (G' := [F2 p0.Rules, M1 p1.Tokens, M2 p2, I1 3 p3, K1 4 p6, (5, A7), K1 6 v110, K5 7 e175, (18, E3 e199)]) (X' := []) ?_
 obtain ⟨k205, he, h⟩ := aC h
 refine cZ (v := .c (.ptr 4 (0 + k205 * 1))) (foot := []) (xK (n := 4) (q := 0) (len := 22) (sz := 1) (k := k205) (ix := v109) he (by kernel_rfl)) (by kernel_rfl) rfl rfl ?_
 have hb_k205 := mR he; clear he
 obtain ⟨e206, he, h⟩ := aC h
 refine cZ (v := .c (I e206)) (foot := [4]) (Kr (n := 4) (off := (0 + k205 * 1)) (l := [I p6.x0, I p6.x1, I p6.x2, I p6.x3, I p6.x4, I p6.x5, I p6.x6, I p6.x7, I p6.x8, I p6.x9, I p6.x10, I p6.x11, I p6.x12, I p6.x13, I p6.x14, I p6.x15, I p6.x16, I p6.x17, I p6.x18, I p6.x19, I p6.x20, I p6.x21]) (j := ⟨.int .i64, 1, 8, [.int .i64 0]⟩) (v := .c (I e206)) (by kernel_rfl) (zV (enc := aN) (xs := (aA.toL p6)) (k := k205) (e := e206) he (by rw [Nat.zero_add]; kernel_rfl) (fun x => by kernel_rfl) (by decide) (by kernel_rfl))) (by kernel_rfl) rfl rfl ?_
 clear he
 refine zk 2 ?_
 refine bV ?_
 exact dF (zv [(0, 0), (1, 1), (2, 2), (3, 3), (4, 4), (5, 5), (6, 6), (7, 7)] [4, 5, 7, 8, 9, 10, 11, 14, 16, 17, 18, 23, 24, 25, 26, 27, 29, 30] 8) (hj202 _ _ h)
 exact aH (zv [(0, 0), (1, 1), (2, 2), (3, 3), (4, 4), (5, 5), (6, 6), (7, 7)] [4, 5, 7, 8, 9, 10, 11, 14, 16, 17, 18, 23, 24, 25, 26, 27, 29, 30] 8) (aB (hj202 _ _ h))
 exact aH (zv [(0, 0), (1, 1), (2, 2), (3, 3), (4, 4), (5, 5), (6, 6), (7, 7)] [4, 5, 7, 8, 9, 10, 11, 14, 16, 17, 18, 23, 24, 25, 26, 27, 29, 30] 8) (aB (hj202 _ _ h))
 exact aH (zv [(0, 0), (1, 1), (2, 2), (3, 3), (4, 4), (5, 5), (6, 6)] [4, 5, 7, 8, 9, 10, 11, 14, 16, 17, 18, 19, 20, 21, 22, 23] 7) (bG (hj174 _ _ _ _ h))
 exact aH (zv [(0, 0), (1, 1), (2, 2), (3, 3), (4, 4), (5, 5), (6, 6)] [4, 5, 7, 8, 9, 10, 11, 14, 16, 17, 18, 19, 20] 7) (bG (hj120 _ _ h))
 refine zx fun _ => ?_
 refine Wp 1 (L' := [N3 p4, A6 5 p5, J3 7 p7, L5, M3, J8, K8, K9, L0, L3, A6 18 v109, A6 19 e113, L9 20, A6 40 v109]) (G' := [F2 p0.Rules, M1 p1.Tokens, M2 p2, I1 3 p3, K1 4 p6, (5, A7), K1 6 v110]) (X' := []) ?_
 obtain ⟨y115, he, h⟩ := aC h
 refine zc fok82 (yB n _ y115 he) ?_
 clear he
 refine zk 1 ?_
 refine zE (B3 p7) ?_
 refine zE (B3 (!p7)) ?_
 refine zP (.bool (y115 && (!p7))) ?_
 refine ze [4, 5, 7, 8, 9, 10, 11, 14, 16, 17, 18, 19, 20, 45] ?_
 refine zi h (fun h => ?_) fun h => ?_
 refine aW ?_
 refine zy fun _ => ?_
 refine Wp 1 (L' := [N3 p4, A6 5 p5, J3 7 p7, L5, M3, J8, K8, K9, L0, L3, A6 18 v109, A6 19 e113, L9 20, (45, B3 (y115 && (!p7))), A6 46 v109]) (G' := [F2 p0.Rules, M1 p1.Tokens, M2 p2, I1 3 p3, K1 4 p6, (5, A7), K1 6 v110]) (X' := []) ?_
 obtain ⟨k116, he, h⟩ := aC h
 refine cZ (v := .c (.ptr 4 (0 + k116 * 1))) (foot := []) (xK (n := 4) (q := 0) (len := 22) (sz := 1) (k := k116) (ix := v109) he (by kernel_rfl)) (by kernel_rfl) rfl rfl ?_
 have hb_k116 := mR he; clear he
 obtain ⟨e117, he, h⟩ := aC h
 refine cZ (v := .c (I e117)) (foot := [4]) (Kr (n := 4) (off := (0 + k116 * 1)) (l := [I p6.x0, I p6.x1, I p6.x2, I p6.x3, I p6.x4, I p6.x5, I p6.x6, I p6.x7, I p6.x8, I p6.x9, I p6.x10, I p6.x11, I p6.x12, I p6.x13, I p6.x14, I p6.x15, I p6.x16, I p6.x17, I p6.x18, I p6.x19, I p6.x20, I p6.x21]) (j := ⟨.int .i64, 1, 8, [.int .i64 0]⟩) (v := .c (I e117)) (by kernel_rfl) (zV (enc := aN) (xs := (aA.toL p6)) (k := k116) (e := e117) he (by rw [Nat.zero_add]; kernel_rfl) (fun x => by kernel_rfl) (by decide) (by kernel_rfl))) (by kernel_rfl) rfl rfl ?_
 clear he
 refine zk 2 ?_
 refine bV ?_
 exact dF (zv [(0, 0), (1, 1), (2, 2), (3, 3), (4, 4), (5, 5), (6, 6)] [4, 5, 7, 8, 9, 10, 11, 14, 16, 17, 18, 19, 20] 7) (hj114 _ _ h)
 exact aH (zv [(0, 0), (1, 1), (2, 2), (3, 3), (4, 4), (5, 5), (6, 6)] [4, 5, 7, 8, 9, 10, 11, 14, 16, 17, 18, 19, 20] 7) (aB (hj114 _ _ h))
 exact aH (zv [(5, 0), (6, 1)] [16, 17] 2) (bG (hj1 _ h))
end Go.Proofs.YtojkihhnioeggaaGreatDoor.S
