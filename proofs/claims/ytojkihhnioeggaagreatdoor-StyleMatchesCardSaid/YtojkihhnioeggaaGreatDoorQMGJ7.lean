import Derived.Test.YtojkihhnioeggaaGreatDoorQMGJ6
set_option linter.unusedVariables false
set_option linter.unusedSimpArgs false
set_option maxRecDepth 100000
set_option maxHeartbeats 4000000
namespace Go.Proofs.YtojkihhnioeggaaGreatDoor.S
open Go Go.Bm
def eA (v16 : Int) (j17 : List Int → Option (List Int)) : Nat → Int → List Int → Option (List Int)
 | 0, _, _ => none
 | n + 1, v26, v27 => (if (decide (v26 < (IntKind.wrap .i64 (v16 - 1)))) = true then (oE (IntKind.wrap .i64 (v26 + 1)) (List.length v27)).bind fun (k28 : Nat) => (v27[k28]?).bind fun (e29 : Int) => (oE v26 (List.length v27)).bind fun (k30 : Nat) => (v27[k30]?).bind fun (e31 : Int) => (oE v26 (List.length v27)).bind fun (k32 : Nat) => (v27[k32]?).bind fun (e33 : Int) => (oE (IntKind.wrap .i64 (v26 + 1)) (List.length (List.set v27 k32 e29))).bind fun (k34 : Nat) => ((List.set v27 k32 e29)[k34]?).bind fun (e35 : Int) => eA v16 j17 n (IntKind.wrap .i64 (v26 + 1)) (List.set (List.set v27 k32 e29) k34 e31) else j17 v27)
def cU (p0 : (List Int)) (p1 : Int) (p4 : bS) (j1 : Int → Option (List Int)) : Nat → Int → Int → Option (List Int)
 | 0, _, _ => none
 | n + 1, v7, v8 => (if (decide (v7 < v8)) = true then (oE (IntKind.wrap .i64 (fG .u64 (IntKind.wrap .u64 (IntKind.wrap .i64 (v7 + v8))) 1)) (List.length p0)).bind fun (k9 : Nat) => (p0[k9]?).bind fun (e10 : Int) => (oE p1 (List.length p0)).bind fun (k11 : Nat) => (p0[k11]?).bind fun (e12 : Int) => (iC n e10 e12 p4).bind fun (y13 : Int) => (if (decide (y13 < 0)) = true then cU p0 p1 p4 j1 n (IntKind.wrap .i64 ((IntKind.wrap .i64 (fG .u64 (IntKind.wrap .u64 (IntKind.wrap .i64 (v7 + v8))) 1)) + 1)) v8 else cU p0 p1 p4 j1 n v7 (IntKind.wrap .i64 (fG .u64 (IntKind.wrap .u64 (IntKind.wrap .i64 (v7 + v8))) 1))) else j1 v7)
def dZ (v54 : Int) (j55 : List Int → Option (List Int)) : Nat → Int → List Int → Option (List Int)
 | 0, _, _ => none
 | n + 1, v64, v65 => (if (decide (v64 > v54)) = true then (oE (IntKind.wrap .i64 (v64 - 1)) (List.length v65)).bind fun (k66 : Nat) => (v65[k66]?).bind fun (e67 : Int) => (oE v64 (List.length v65)).bind fun (k68 : Nat) => (v65[k68]?).bind fun (e69 : Int) => (oE v64 (List.length v65)).bind fun (k70 : Nat) => (v65[k70]?).bind fun (e71 : Int) => (oE (IntKind.wrap .i64 (v64 - 1)) (List.length (List.set v65 k70 e67))).bind fun (k72 : Nat) => ((List.set v65 k70 e67)[k72]?).bind fun (e73 : Int) => dZ v54 j55 n (IntKind.wrap .i64 (v64 - 1)) (List.set (List.set v65 k70 e67) k72 e69) else j55 v65)
def cT (p2 : Int) (p0 : (List Int)) (p4 : bS) (j39 : Int → Option (List Int)) : Nat → Int → Int → Option (List Int)
 | 0, _, _ => none
 | n + 1, v45, v46 => (if (decide (v45 < v46)) = true then (oE p2 (List.length p0)).bind fun (k47 : Nat) => (p0[k47]?).bind fun (e48 : Int) => (oE (IntKind.wrap .i64 (fG .u64 (IntKind.wrap .u64 (IntKind.wrap .i64 (v45 + v46))) 1)) (List.length p0)).bind fun (k49 : Nat) => (p0[k49]?).bind fun (e50 : Int) => (iC n e48 e50 p4).bind fun (y51 : Int) => (if (!(decide (y51 < 0))) = true then cT p2 p0 p4 j39 n (IntKind.wrap .i64 ((IntKind.wrap .i64 (fG .u64 (IntKind.wrap .u64 (IntKind.wrap .i64 (v45 + v46))) 1)) + 1)) v46 else cT p2 p0 p4 j39 n v45 (IntKind.wrap .i64 (fG .u64 (IntKind.wrap .u64 (IntKind.wrap .i64 (v45 + v46))) 1))) else j39 v45)
def cV (p1 : Int) (p3 : Int) (p2 : Int) (p0 : (List Int)) (p4 : bS) (j80 : Int → Option (List Int)) : Nat → Int → Int → Option (List Int)
 | 0, _, _ => none
 | n + 1, v86, v87 => (if (decide (v86 < v87)) = true then (oE (IntKind.wrap .i64 ((IntKind.wrap .i64 ((IntKind.wrap .i64 ((IntKind.wrap .i64 (fG .u64 (IntKind.wrap .u64 (IntKind.wrap .i64 (p1 + p3))) 1)) + p2)) - 1)) - (IntKind.wrap .i64 (fG .u64 (IntKind.wrap .u64 (IntKind.wrap .i64 (v86 + v87))) 1)))) (List.length p0)).bind fun (k88 : Nat) => (p0[k88]?).bind fun (e89 : Int) => (oE (IntKind.wrap .i64 (fG .u64 (IntKind.wrap .u64 (IntKind.wrap .i64 (v86 + v87))) 1)) (List.length p0)).bind fun (k90 : Nat) => (p0[k90]?).bind fun (e91 : Int) => (iC n e89 e91 p4).bind fun (y92 : Int) => (if (!(decide (y92 < 0))) = true then cV p1 p3 p2 p0 p4 j80 n (IntKind.wrap .i64 ((IntKind.wrap .i64 (fG .u64 (IntKind.wrap .u64 (IntKind.wrap .i64 (v86 + v87))) 1)) + 1)) v87 else cV p1 p3 p2 p0 p4 j80 n v86 (IntKind.wrap .i64 (fG .u64 (IntKind.wrap .u64 (IntKind.wrap .i64 (v86 + v87))) 1))) else j80 v86)
def fK (self_slices_symMergeCmpFunc_int : (List Int) → Int → Int → Int → bS → Option (List Int)) (n : Nat) (p0 : (List Int)) (p1 : Int) (p2 : Int) (p3 : Int) (p4 : bS) : Option (List Int) := (if ((IntKind.wrap .i64 (p2 - p1)) == 1) = true then (aV (fun (v16 : Int) => (aV (fun (v38 : List Int) => some v38) (fun (j17 : List Int → Option (List Int)) => eA v16 j17 n p1 p0))) (fun (j1 : Int → Option (List Int)) => cU p0 p1 p4 j1 n p2 p3)) else (if ((IntKind.wrap .i64 (p3 - p2)) == 1) = true then (aV (fun (v54 : Int) => (aV (fun (v76 : List Int) => some v76) (fun (j55 : List Int → Option (List Int)) => dZ v54 j55 n p2 p0))) (fun (j39 : Int → Option (List Int)) => cT p2 p0 p4 j39 n p1 p2)) else (aV (fun (v78 : Int) (v79 : Int) => (aV (fun (v95 : Int) => (aV (fun (v98 : List Int) => (aV (fun (v101 : List Int) => (if ((decide ((IntKind.wrap .i64 (fG .u64 (IntKind.wrap .u64 (IntKind.wrap .i64 (p1 + p3))) 1)) < (IntKind.wrap .i64 ((IntKind.wrap .i64 ((IntKind.wrap .i64 (fG .u64 (IntKind.wrap .u64 (IntKind.wrap .i64 (p1 + p3))) 1)) + p2)) - v95)))) && (decide ((IntKind.wrap .i64 ((IntKind.wrap .i64 ((IntKind.wrap .i64 (fG .u64 (IntKind.wrap .u64 (IntKind.wrap .i64 (p1 + p3))) 1)) + p2)) - v95)) < p3))) = true then (self_slices_symMergeCmpFunc_int v101 (IntKind.wrap .i64 (fG .u64 (IntKind.wrap .u64 (IntKind.wrap .i64 (p1 + p3))) 1)) (IntKind.wrap .i64 ((IntKind.wrap .i64 ((IntKind.wrap .i64 (fG .u64 (IntKind.wrap .u64 (IntKind.wrap .i64 (p1 + p3))) 1)) + p2)) - v95)) p3 p4).bind fun (y102 : (List Int)) => some y102 else some v101)) (fun (j99 : List Int → Option (List Int)) => (if ((decide (p1 < v95)) && (decide (v95 < (IntKind.wrap .i64 (fG .u64 (IntKind.wrap .u64 (IntKind.wrap .i64 (p1 + p3))) 1))))) = true then (self_slices_symMergeCmpFunc_int v98 p1 v95 (IntKind.wrap .i64 (fG .u64 (IntKind.wrap .u64 (IntKind.wrap .i64 (p1 + p3))) 1)) p4).bind fun (y100 : (List Int)) => j99 y100 else j99 v98)))) (fun (j96 : List Int → Option (List Int)) => (if ((decide (v95 < p2)) && (decide (p2 < (IntKind.wrap .i64 ((IntKind.wrap .i64 ((IntKind.wrap .i64 (fG .u64 (IntKind.wrap .u64 (IntKind.wrap .i64 (p1 + p3))) 1)) + p2)) - v95))))) = true then (iY n p0 v95 p2 (IntKind.wrap .i64 ((IntKind.wrap .i64 ((IntKind.wrap .i64 (fG .u64 (IntKind.wrap .u64 (IntKind.wrap .i64 (p1 + p3))) 1)) + p2)) - v95)) p4).bind fun (y97 : (List Int)) => j96 y97 else j96 p0)))) (fun (j80 : Int → Option (List Int)) => cV p1 p3 p2 p0 p4 j80 n v78 v79))) (fun (j77 : Int → Int → Option (List Int)) => (if (decide (p2 > (IntKind.wrap .i64 (fG .u64 (IntKind.wrap .u64 (IntKind.wrap .i64 (p1 + p3))) 1)))) = true then j77 (IntKind.wrap .i64 ((IntKind.wrap .i64 ((IntKind.wrap .i64 (fG .u64 (IntKind.wrap .u64 (IntKind.wrap .i64 (p1 + p3))) 1)) + p2)) - p3)) (IntKind.wrap .i64 (fG .u64 (IntKind.wrap .u64 (IntKind.wrap .i64 (p1 + p3))) 1)) else j77 p1 p2)))))
theorem lY (self_slices_symMergeCmpFunc_int : (List Int) → Int → Int → Int → bS → Option (List Int)) (ih_slices_symMergeCmpFunc_int : ∀ (p0 : (List Int)) (p1 : Int) (p2 : Int) (p3 : Int) (p4 : bS) (r : (List Int)), self_slices_symMergeCmpFunc_int p0 p1 p2 p3 p4 = some r → cN E 103 1 [.c (.row 0), .c (I p1), .c (I p2), .c (I p3), .c (.fn 38 [.imm [.lit (List.map aW p4.Rules)]])] [(0, .vec 3 1 (List.map aJ p0))] (.tup []) [(0, .vec 3 1 (List.map aJ r))]) (n : Nat) (p0 : (List Int)) (p1 : Int) (p2 : Int) (p3 : Int) (p4 : bS) (r : (List Int)) (h : fK self_slices_symMergeCmpFunc_int n p0 p1 p2 p3 p4 = some r) : cN E 103 1 [.c (.row 0), .c (I p1), .c (I p2), .c (I p3), .c (.fn 38 [.imm [.lit (List.map aW p4.Rules)]])] [(0, .vec 3 1 (List.map aJ p0))] (.tup []) [(0, .vec 3 1 (List.map aJ r))] := by
 refine fW Tryz.func103 rfl ?_
 unfold fK at h
 refine aK ?_
 refine za [0, 1, 2, 3, 4, 28] ?_
 refine zi h (fun h => ?_) fun h => ?_
 refine za [0, 1, 3, 4, 10] ?_
 refine za [0, 1, 4, 10, 11] ?_
 refine aQ h (fun A j => ∀ v16, j v16 = some r → A (mk [(0, .c (.row 0)), (1, .c (I p1)), (10, .c (I v16))] [(0, .vec 3 1 (List.map aJ p0))] 1)) (fun v16 h => ?_) (fun j1 Aj1 hj1 h => ?_)
 refine aQ h (fun A j => ∀ v38, j v38 = some r → A (mk [] [(0, .vec 3 1 (List.map aJ v38))] 1)) (fun v38 h => ?_) (fun j17 Aj17 hj17 h => ?_)
 cases h
 exact aG zr
 refine za [0, 10, 13] ?_
 refine aF ?_
 refine bA (fun n s => ∃ v26 v27, eA v16 j17 n v26 v27 = some r ∧ s = mk [(0, .c (.row 0)), (10, .c (I v16)), (13, .c (I v26))] [(0, .vec 3 1 (List.map aJ v27))] 1) n _ (zv [(0, 0)] [0, 10, 13] 1) ⟨_, _, h, rfl⟩ (fun s ⟨v26, v27, h, _⟩ => nomatch h) ?_
 rintro n s ⟨v26, v27, h, rfl⟩
 rw [eA] at h
 refine aK ?_
 refine za [0, 10, 13, 58] ?_
 refine zi h (fun h => ?_) fun h => ?_
 refine aC ?_
 refine aK ?_
 refine aF ?_
 refine Lh [[], [], [], [], [3], [], [], [6], [5, 7, 6], [8, 5, 7, 6], [], [], [10, 11], [12, 10, 11], [0, 1, 5, 6, 7, 8, 9, 13, 12, 10, 11], [14, 9, 0, 1, 5, 6, 7, 8, 13, 12, 10, 11], [2, 4, 0, 1, 3, 5, 6, 7, 8, 9, 10, 11, 12, 13, 14, 15], [16, 13, 15, 0, 1, 2, 3, 4, 5, 6, 7, 8, 9, 10, 11, 12, 14]] fun _ => ?_
 refine zk 8 ?_
 obtain ⟨k28, he, h⟩ := aB h
 refine cF (v := .c (.ptr 0 (k28 * 1))) (foot := [0]) (dD (enc := aJ) (l := v27) (n := 0) (sz := 1) (k := k28) (ix := (IntKind.wrap .i64 (v26 + 1))) he (by kernel_rfl)) (by kernel_rfl) rfl rfl ?_
 have hb_k28 := dP he; clear he
 obtain ⟨e29, he, h⟩ := aB h
 refine zw (v := .c (I e29)) [0] (gE (enc := aJ) (l := v27) (n := 0) (q := k28) (f := 0) (sz := 1) (e := e29) (j := ⟨.int .i64, 1, 8, [.int .i64 0]⟩) he (by kernel_rfl) (by kernel_rfl)) ?_
 clear he
 refine zk 2 ?_
 obtain ⟨k30, he, h⟩ := aB h
 refine cF (v := .c (.ptr 0 (k30 * 1))) (foot := [0]) (dD (enc := aJ) (l := v27) (n := 0) (sz := 1) (k := k30) (ix := v26) he (by kernel_rfl)) (by kernel_rfl) rfl rfl ?_
 have hb_k30 := dP he; clear he
 obtain ⟨e31, he, h⟩ := aB h
 refine zw (v := .c (I e31)) [0] (gE (enc := aJ) (l := v27) (n := 0) (q := k30) (f := 0) (sz := 1) (e := e31) (j := ⟨.int .i64, 1, 8, [.int .i64 0]⟩) he (by kernel_rfl) (by kernel_rfl)) ?_
 clear he
 obtain ⟨k32, he, h⟩ := aB h
 refine cF (v := .c (.ptr 0 (k32 * 1))) (foot := [0]) (dD (enc := aJ) (l := v27) (n := 0) (sz := 1) (k := k32) (ix := v26) he (by kernel_rfl)) (by kernel_rfl) rfl rfl ?_
 have hb_k32 := dP he; clear he
 obtain ⟨e33, he, h⟩ := aB h
 refine kC (enc := aJ) (n := 0) (q := k32) (f := 0) (sz := 1) (T0 := 3) (lp := [I e29]) (l := v27) (e := e33) (e2 := e29) he (by kernel_rfl) (by simp only [List.length_cons, List.length_nil]; omega) (by kernel_rfl) (by kernel_rfl) rfl rfl ?_
 clear he
 obtain ⟨k34, he, h⟩ := aB h
 refine cF (v := .c (.ptr 0 (k34 * 1))) (foot := [0]) (dD (enc := aJ) (l := (List.set v27 k32 e29)) (n := 0) (sz := 1) (k := k34) (ix := (IntKind.wrap .i64 (v26 + 1))) he (by kernel_rfl)) (by kernel_rfl) rfl rfl ?_
 have hb_k34 := dP he; clear he
 obtain ⟨e35, he, h⟩ := aB h
 refine kC (enc := aJ) (n := 0) (q := k34) (f := 0) (sz := 1) (T0 := 3) (lp := [I e31]) (l := (List.set v27 k32 e29)) (e := e35) (e2 := e31) he (by kernel_rfl) (by simp only [List.length_cons, List.length_nil]; omega) (by kernel_rfl) (by kernel_rfl) rfl rfl ?_
 clear he
 refine bL ?_
 refine aT ?_
 refine zb ?_
 exact dI (zv [(0, 0)] [0, 10, 13] 1) (⟨_, _, h, rfl⟩)
 exact aI (zv [(0, 0)] [] 1) (bD (hj17 _ h))
 refine aF ?_
 refine bA (fun n s => ∃ v7 v8, cU p0 p1 p4 j1 n v7 v8 = some r ∧ s = mk [(0, .c (.row 0)), (1, .c (I p1)), (4, .c (.fn 38 [.imm [.lit (List.map aW p4.Rules)]])), (10, .c (I v7)), (11, .c (I v8))] [(0, .vec 3 1 (List.map aJ p0))] 1) n _ (zv [(0, 0)] [0, 1, 4, 10, 11] 1) ⟨_, _, h, rfl⟩ (fun s ⟨v7, v8, h, _⟩ => nomatch h) ?_
 rintro n s ⟨v7, v8, h, rfl⟩
 rw [cU] at h
 refine aK ?_
 refine za [0, 1, 4, 10, 11, 33] ?_
 refine zi h (fun h => ?_) fun h => ?_
 refine aC ?_
 refine aF ?_
 refine za [0, 1, 4, 10, 11, 12] ?_
 refine wP [[], [], [], [1, 2], [3, 1, 2], [], [], [5, 6], [7, 5, 6], [0, 4, 8, 3, 1, 2, 7, 5, 6], [9, 0, 4, 8, 3, 1, 2, 7, 5, 6]] fun _ => ?_
 refine zk 3 ?_
 obtain ⟨k9, he, h⟩ := aB h
 refine cF (v := .c (.ptr 0 (k9 * 1))) (foot := [0]) (dD (enc := aJ) (l := p0) (n := 0) (sz := 1) (k := k9) (ix := (IntKind.wrap .i64 (fG .u64 (IntKind.wrap .u64 (IntKind.wrap .i64 (v7 + v8))) 1))) he (by kernel_rfl)) (by kernel_rfl) rfl rfl ?_
 have hb_k9 := dP he; clear he
 obtain ⟨e10, he, h⟩ := aB h
 refine zw (v := .c (I e10)) [0] (gE (enc := aJ) (l := p0) (n := 0) (q := k9) (f := 0) (sz := 1) (e := e10) (j := ⟨.int .i64, 1, 8, [.int .i64 0]⟩) he (by kernel_rfl) (by kernel_rfl)) ?_
 clear he
 refine zk 2 ?_
 obtain ⟨k11, he, h⟩ := aB h
 refine cF (v := .c (.ptr 0 (k11 * 1))) (foot := [0]) (dD (enc := aJ) (l := p0) (n := 0) (sz := 1) (k := k11) (ix := p1) he (by kernel_rfl)) (by kernel_rfl) rfl rfl ?_
 have hb_k11 := dP he; clear he
 obtain ⟨e12, he, h⟩ := aB h
 refine zw (v := .c (I e12)) [0] (gE (enc := aJ) (l := p0) (n := 0) (q := k11) (f := 0) (sz := 1) (e := e12) (j := ⟨.int .i64, 1, 8, [.int .i64 0]⟩) he (by kernel_rfl) (by kernel_rfl)) ?_
 clear he
 obtain ⟨y13, he, h⟩ := aB h
 refine Sm (v := .c (I y13)) (foot := []) (vF (F := 38) (As := [.c (I e10), .c (I e12), .c (.imm [.lit (List.map aW p4.Rules)])]) (Bs := [.c (I e10), .c (I e12), .c (.imm [.lit (List.map aW p4.Rules)])]) (r := .c (I y13)) (v := .c (I y13)) (by kernel_rfl) Ov (by kernel_rfl) (jJ n _ _ _ y13 he) (by kernel_rfl)) (by kernel_rfl) rfl rfl ?_
 clear he
 refine zk 1 ?_
 refine jV [0, 1, 4, 10, 11, 12, 50] (L2 := [(0, .c (.row 0)), (1, .c (I p1)), (4, .c (.fn 38 [.imm [.lit (List.map aW p4.Rules)]])), (10, .c (I v7)), (11, .c (I v8)), (12, .c (I (IntKind.wrap .i64 (fG .u64 (IntKind.wrap .u64 (IntKind.wrap .i64 (v7 + v8))) 1)))), (50, .c (Bo (decide (y13 < 0))))]) (G2 := [(0, .vec 3 1 (List.map aJ p0))]) 22 ?_
 refine zi h (fun h => ?_) fun h => ?_
 refine aT ?_
 refine zb ?_
 exact dI (zv [(0, 0)] [0, 1, 4, 10, 11] 1) (⟨_, _, h, rfl⟩)
 refine aT ?_
 refine zb ?_
 exact dI (zv [(0, 0)] [0, 1, 4, 10, 11] 1) (⟨_, _, h, rfl⟩)
 exact aI (zv [(0, 0)] [0, 1, 10] 1) (bD (hj1 _ h))
 refine aC ?_
 refine aK ?_
 refine za [0, 1, 2, 3, 4, 80] ?_
 refine zi h (fun h => ?_) fun h => ?_
 refine za [0, 2, 4, 14] ?_
 refine za [0, 2, 4, 14, 15] ?_
 refine aQ h (fun A j => ∀ v54, j v54 = some r → A (mk [(0, .c (.row 0)), (2, .c (I p2)), (14, .c (I v54))] [(0, .vec 3 1 (List.map aJ p0))] 1)) (fun v54 h => ?_) (fun j39 Aj39 hj39 h => ?_)
 refine aQ h (fun A j => ∀ v76, j v76 = some r → A (mk [] [(0, .vec 3 1 (List.map aJ v76))] 1)) (fun v76 h => ?_) (fun j55 Aj55 hj55 h => ?_)
 cases h
 exact aG zr
 refine za [0, 14, 17] ?_
 refine aF ?_
 refine bA (fun n s => ∃ v64 v65, dZ v54 j55 n v64 v65 = some r ∧ s = mk [(0, .c (.row 0)), (14, .c (I v54)), (17, .c (I v64))] [(0, .vec 3 1 (List.map aJ v65))] 1) n _ (zv [(0, 0)] [0, 14, 17] 1) ⟨_, _, h, rfl⟩ (fun s ⟨v64, v65, h, _⟩ => nomatch h) ?_
 rintro n s ⟨v64, v65, h, rfl⟩
 rw [dZ] at h
 refine aK ?_
 refine za [0, 14, 17, 110] ?_
 refine zi h (fun h => ?_) fun h => ?_
 refine aC ?_
 refine aK ?_
 refine aF ?_
 refine Lh [[], [], [], [], [3], [], [], [6], [5, 7, 6], [8, 5, 7, 6], [], [], [10, 11], [12, 10, 11], [0, 1, 5, 6, 7, 8, 9, 13, 12, 10, 11], [14, 9, 0, 1, 5, 6, 7, 8, 13, 12, 10, 11], [2, 4, 0, 1, 3, 5, 6, 7, 8, 9, 10, 11, 12, 13, 14, 15], [16, 13, 15, 0, 1, 2, 3, 4, 5, 6, 7, 8, 9, 10, 11, 12, 14]] fun _ => ?_
 refine zk 8 ?_
 obtain ⟨k66, he, h⟩ := aB h
 refine cF (v := .c (.ptr 0 (k66 * 1))) (foot := [0]) (dD (enc := aJ) (l := v65) (n := 0) (sz := 1) (k := k66) (ix := (IntKind.wrap .i64 (v64 - 1))) he (by kernel_rfl)) (by kernel_rfl) rfl rfl ?_
 have hb_k66 := dP he; clear he
 obtain ⟨e67, he, h⟩ := aB h
 refine zw (v := .c (I e67)) [0] (gE (enc := aJ) (l := v65) (n := 0) (q := k66) (f := 0) (sz := 1) (e := e67) (j := ⟨.int .i64, 1, 8, [.int .i64 0]⟩) he (by kernel_rfl) (by kernel_rfl)) ?_
 clear he
 refine zk 2 ?_
 obtain ⟨k68, he, h⟩ := aB h
 refine cF (v := .c (.ptr 0 (k68 * 1))) (foot := [0]) (dD (enc := aJ) (l := v65) (n := 0) (sz := 1) (k := k68) (ix := v64) he (by kernel_rfl)) (by kernel_rfl) rfl rfl ?_
 have hb_k68 := dP he; clear he
 obtain ⟨e69, he, h⟩ := aB h
 refine zw (v := .c (I e69)) [0] (gE (enc := aJ) (l := v65) (n := 0) (q := k68) (f := 0) (sz := 1) (e := e69) (j := ⟨.int .i64, 1, 8, [.int .i64 0]⟩) he (by kernel_rfl) (by kernel_rfl)) ?_
 clear he
 obtain ⟨k70, he, h⟩ := aB h
 refine cF (v := .c (.ptr 0 (k70 * 1))) (foot := [0]) (dD (enc := aJ) (l := v65) (n := 0) (sz := 1) (k := k70) (ix := v64) he (by kernel_rfl)) (by kernel_rfl) rfl rfl ?_
 have hb_k70 := dP he; clear he
 obtain ⟨e71, he, h⟩ := aB h
 refine kC (enc := aJ) (n := 0) (q := k70) (f := 0) (sz := 1) (T0 := 3) (lp := [I e67]) (l := v65) (e := e71) (e2 := e67) he (by kernel_rfl) (by simp only [List.length_cons, List.length_nil]; omega) (by kernel_rfl) (by kernel_rfl) rfl rfl ?_
 clear he
 obtain ⟨k72, he, h⟩ := aB h
 refine cF (v := .c (.ptr 0 (k72 * 1))) (foot := [0]) (dD (enc := aJ) (l := (List.set v65 k70 e67)) (n := 0) (sz := 1) (k := k72) (ix := (IntKind.wrap .i64 (v64 - 1))) he (by kernel_rfl)) (by kernel_rfl) rfl rfl ?_
 have hb_k72 := dP he; clear he
 obtain ⟨e73, he, h⟩ := aB h
 refine kC (enc := aJ) (n := 0) (q := k72) (f := 0) (sz := 1) (T0 := 3) (lp := [I e69]) (l := (List.set v65 k70 e67)) (e := e73) (e2 := e69) he (by kernel_rfl) (by simp only [List.length_cons, List.length_nil]; omega) (by kernel_rfl) (by kernel_rfl) rfl rfl ?_
 clear he
 refine bL ?_
 refine aT ?_
 refine zb ?_
 exact dI (zv [(0, 0)] [0, 14, 17] 1) (⟨_, _, h, rfl⟩)
 exact aI (zv [(0, 0)] [] 1) (bD (hj55 _ h))
 refine aF ?_
 refine bA (fun n s => ∃ v45 v46, cT p2 p0 p4 j39 n v45 v46 = some r ∧ s = mk [(0, .c (.row 0)), (2, .c (I p2)), (4, .c (.fn 38 [.imm [.lit (List.map aW p4.Rules)]])), (14, .c (I v45)), (15, .c (I v46))] [(0, .vec 3 1 (List.map aJ p0))] 1) n _ (zv [(0, 0)] [0, 2, 4, 14, 15] 1) ⟨_, _, h, rfl⟩ (fun s ⟨v45, v46, h, _⟩ => nomatch h) ?_
 rintro n s ⟨v45, v46, h, rfl⟩
 rw [cT] at h
 refine aK ?_
 refine za [0, 2, 4, 14, 15, 85] ?_
 refine zi h (fun h => ?_) fun h => ?_
 refine aC ?_
 refine aF ?_
 refine za [0, 2, 4, 14, 15, 16] ?_
 refine wP [[], [], [], [1, 2], [3, 1, 2], [], [], [5, 6], [7, 5, 6], [0, 4, 8, 3, 1, 2, 7, 5, 6], [9, 0, 4, 8, 3, 1, 2, 7, 5, 6], [10, 9, 0, 4, 8, 3, 1, 2, 7, 5, 6]] fun _ => ?_
 refine zk 3 ?_
 obtain ⟨k47, he, h⟩ := aB h
 refine cF (v := .c (.ptr 0 (k47 * 1))) (foot := [0]) (dD (enc := aJ) (l := p0) (n := 0) (sz := 1) (k := k47) (ix := p2) he (by kernel_rfl)) (by kernel_rfl) rfl rfl ?_
 have hb_k47 := dP he; clear he
 obtain ⟨e48, he, h⟩ := aB h
 refine zw (v := .c (I e48)) [0] (gE (enc := aJ) (l := p0) (n := 0) (q := k47) (f := 0) (sz := 1) (e := e48) (j := ⟨.int .i64, 1, 8, [.int .i64 0]⟩) he (by kernel_rfl) (by kernel_rfl)) ?_
 clear he
 refine zk 2 ?_
 obtain ⟨k49, he, h⟩ := aB h
 refine cF (v := .c (.ptr 0 (k49 * 1))) (foot := [0]) (dD (enc := aJ) (l := p0) (n := 0) (sz := 1) (k := k49) (ix := (IntKind.wrap .i64 (fG .u64 (IntKind.wrap .u64 (IntKind.wrap .i64 (v45 + v46))) 1))) he (by kernel_rfl)) (by kernel_rfl) rfl rfl ?_
 have hb_k49 := dP he; clear he
 obtain ⟨e50, he, h⟩ := aB h
 refine zw (v := .c (I e50)) [0] (gE (enc := aJ) (l := p0) (n := 0) (q := k49) (f := 0) (sz := 1) (e := e50) (j := ⟨.int .i64, 1, 8, [.int .i64 0]⟩) he (by kernel_rfl) (by kernel_rfl)) ?_
 clear he
 obtain ⟨y51, he, h⟩ := aB h
 refine Sm (v := .c (I y51)) (foot := []) (vF (F := 38) (As := [.c (I e48), .c (I e50), .c (.imm [.lit (List.map aW p4.Rules)])]) (Bs := [.c (I e48), .c (I e50), .c (.imm [.lit (List.map aW p4.Rules)])]) (r := .c (I y51)) (v := .c (I y51)) (by kernel_rfl) Ov (by kernel_rfl) (jJ n _ _ _ y51 he) (by kernel_rfl)) (by kernel_rfl) rfl rfl ?_
 clear he
 refine zk 2 ?_
 refine jV [0, 2, 4, 14, 15, 16, 103] (L2 := [(0, .c (.row 0)), (2, .c (I p2)), (4, .c (.fn 38 [.imm [.lit (List.map aW p4.Rules)]])), (14, .c (I v45)), (15, .c (I v46)), (16, .c (I (IntKind.wrap .i64 (fG .u64 (IntKind.wrap .u64 (IntKind.wrap .i64 (v45 + v46))) 1)))), (103, .c (Bo (!(decide (y51 < 0)))))]) (G2 := [(0, .vec 3 1 (List.map aJ p0))]) 23 ?_
 refine zi h (fun h => ?_) fun h => ?_
 refine aT ?_
 refine zb ?_
 exact dI (zv [(0, 0)] [0, 2, 4, 14, 15] 1) (⟨_, _, h, rfl⟩)
 refine aT ?_
 refine zb ?_
 exact dI (zv [(0, 0)] [0, 2, 4, 14, 15] 1) (⟨_, _, h, rfl⟩)
 exact aI (zv [(0, 0)] [0, 2, 14] 1) (bD (hj39 _ h))
 refine aC ?_
 refine za [0, 1, 2, 3, 4, 18] ?_
 refine za [0, 1, 2, 3, 4, 18, 19] ?_
 refine za [0, 1, 2, 3, 4, 18, 19] ?_
 refine aQ h (fun A j => ∀ v78 v79, j v78 v79 = some r → A (mk [(0, .c (.row 0)), (1, .c (I p1)), (2, .c (I p2)), (3, .c (I p3)), (4, .c (.fn 38 [.imm [.lit (List.map aW p4.Rules)]])), (18, .c (I (IntKind.wrap .i64 (fG .u64 (IntKind.wrap .u64 (IntKind.wrap .i64 (p1 + p3))) 1)))), (19, .c (I (IntKind.wrap .i64 ((IntKind.wrap .i64 (fG .u64 (IntKind.wrap .u64 (IntKind.wrap .i64 (p1 + p3))) 1)) + p2)))), (20, .c (I v78)), (21, .c (I v79))] [(0, .vec 3 1 (List.map aJ p0))] 1)) (fun v78 v79 h => ?_) (fun j77 Aj77 hj77 h => ?_)
 refine za [0, 1, 2, 3, 4, 18, 19, 20, 21, 22] ?_
 refine aQ h (fun A j => ∀ v95, j v95 = some r → A (mk [(0, .c (.row 0)), (1, .c (I p1)), (2, .c (I p2)), (3, .c (I p3)), (4, .c (.fn 38 [.imm [.lit (List.map aW p4.Rules)]])), (18, .c (I (IntKind.wrap .i64 (fG .u64 (IntKind.wrap .u64 (IntKind.wrap .i64 (p1 + p3))) 1)))), (19, .c (I (IntKind.wrap .i64 ((IntKind.wrap .i64 (fG .u64 (IntKind.wrap .u64 (IntKind.wrap .i64 (p1 + p3))) 1)) + p2)))), (20, .c (I v95))] [(0, .vec 3 1 (List.map aJ p0))] 1)) (fun v95 h => ?_) (fun j80 Aj80 hj80 h => ?_)
 refine za [0, 1, 2, 3, 4, 18, 20, 24] ?_
 refine aQ h (fun A j => ∀ v98, j v98 = some r → A (mk [(0, .c (.row 0)), (1, .c (I p1)), (3, .c (I p3)), (4, .c (.fn 38 [.imm [.lit (List.map aW p4.Rules)]])), (18, .c (I (IntKind.wrap .i64 (fG .u64 (IntKind.wrap .u64 (IntKind.wrap .i64 (p1 + p3))) 1)))), (20, .c (I v95)), (24, .c (I (IntKind.wrap .i64 ((IntKind.wrap .i64 ((IntKind.wrap .i64 (fG .u64 (IntKind.wrap .u64 (IntKind.wrap .i64 (p1 + p3))) 1)) + p2)) - v95))))] [(0, .vec 3 1 (List.map aJ v98))] 1)) (fun v98 h => ?_) (fun j96 Aj96 hj96 h => ?_)
 refine aQ h (fun A j => ∀ v101, j v101 = some r → A (mk [(0, .c (.row 0)), (3, .c (I p3)), (4, .c (.fn 38 [.imm [.lit (List.map aW p4.Rules)]])), (18, .c (I (IntKind.wrap .i64 (fG .u64 (IntKind.wrap .u64 (IntKind.wrap .i64 (p1 + p3))) 1)))), (24, .c (I (IntKind.wrap .i64 ((IntKind.wrap .i64 ((IntKind.wrap .i64 (fG .u64 (IntKind.wrap .u64 (IntKind.wrap .i64 (p1 + p3))) 1)) + p2)) - v95))))] [(0, .vec 3 1 (List.map aJ v101))] 1)) (fun v101 h => ?_) (fun j99 Aj99 hj99 h => ?_)
 refine zx fun _ => ?_
 refine zk 4 ?_
 refine zE (.c (I (IntKind.wrap .i64 ((IntKind.wrap .i64 ((IntKind.wrap .i64 (fG .u64 (IntKind.wrap .u64 (IntKind.wrap .i64 (p1 + p3))) 1)) + p2)) - v95)))) ?_
 refine zE (.c (I p3)) ?_
 refine zE (.c (Bo (decide ((IntKind.wrap .i64 ((IntKind.wrap .i64 ((IntKind.wrap .i64 (fG .u64 (IntKind.wrap .u64 (IntKind.wrap .i64 (p1 + p3))) 1)) + p2)) - v95)) < p3)))) ?_
 refine zP (.bool ((decide ((IntKind.wrap .i64 (fG .u64 (IntKind.wrap .u64 (IntKind.wrap .i64 (p1 + p3))) 1)) < (IntKind.wrap .i64 ((IntKind.wrap .i64 ((IntKind.wrap .i64 (fG .u64 (IntKind.wrap .u64 (IntKind.wrap .i64 (p1 + p3))) 1)) + p2)) - v95)))) && (decide ((IntKind.wrap .i64 ((IntKind.wrap .i64 ((IntKind.wrap .i64 (fG .u64 (IntKind.wrap .u64 (IntKind.wrap .i64 (p1 + p3))) 1)) + p2)) - v95)) < p3)))) ?_
 refine ze [0, 3, 4, 18, 24, 213] ?_
 refine zi h (fun h => ?_) fun h => ?_
 refine zy fun _ => ?_
 refine zk 5 ?_
 obtain ⟨y102, he, h⟩ := aB h
 refine zo [(0, 0)] Ik (ih_slices_symMergeCmpFunc_int _ _ _ _ _ y102 he) ?_
 clear he
 refine bL ?_
 cases h
 exact zr
 cases h
 exact aC zr
 refine zx fun _ => ?_
 refine zk 4 ?_
 refine zE (.c (I v95)) ?_
 refine zE (.c (I (IntKind.wrap .i64 (fG .u64 (IntKind.wrap .u64 (IntKind.wrap .i64 (p1 + p3))) 1)))) ?_
 refine zE (.c (Bo (decide (v95 < (IntKind.wrap .i64 (fG .u64 (IntKind.wrap .u64 (IntKind.wrap .i64 (p1 + p3))) 1)))))) ?_
 refine zP (.bool ((decide (p1 < v95)) && (decide (v95 < (IntKind.wrap .i64 (fG .u64 (IntKind.wrap .u64 (IntKind.wrap .i64 (p1 + p3))) 1)))))) ?_
 refine ze [0, 1, 3, 4, 18, 20, 24, 199] ?_
 refine zi h (fun h => ?_) fun h => ?_
 refine aT ?_
 refine zy fun _ => ?_
 refine zk 5 ?_
 obtain ⟨y100, he, h⟩ := aB h
 refine zo [(0, 0)] Ik (ih_slices_symMergeCmpFunc_int _ _ _ _ _ y100 he) ?_
 clear he
 refine bL ?_
 exact dI (zv [(0, 0)] [0, 3, 4, 18, 24] 1) (hj99 _ h)
 exact aI (zv [(0, 0)] [0, 3, 4, 18, 24] 1) (aC (hj99 _ h))
 refine zx fun _ => ?_
 refine zk 4 ?_
 refine zE (.c (I p2)) ?_
 refine zE (.c (I (IntKind.wrap .i64 ((IntKind.wrap .i64 ((IntKind.wrap .i64 (fG .u64 (IntKind.wrap .u64 (IntKind.wrap .i64 (p1 + p3))) 1)) + p2)) - v95)))) ?_
 refine zE (.c (Bo (decide (p2 < (IntKind.wrap .i64 ((IntKind.wrap .i64 ((IntKind.wrap .i64 (fG .u64 (IntKind.wrap .u64 (IntKind.wrap .i64 (p1 + p3))) 1)) + p2)) - v95)))))) ?_
 refine zP (.bool ((decide (v95 < p2)) && (decide (p2 < (IntKind.wrap .i64 ((IntKind.wrap .i64 ((IntKind.wrap .i64 (fG .u64 (IntKind.wrap .u64 (IntKind.wrap .i64 (p1 + p3))) 1)) + p2)) - v95)))))) ?_
 refine ze [0, 1, 2, 3, 4, 18, 20, 24, 185] ?_
 refine zi h (fun h => ?_) fun h => ?_
 refine aT ?_
 refine zy fun _ => ?_
 refine zk 5 ?_
 obtain ⟨y97, he, h⟩ := aB h
 refine zo [(0, 0)] Yn (oT n _ _ _ _ _ y97 he) ?_
 clear he
 refine bL ?_
 exact dI (zv [(0, 0)] [0, 1, 3, 4, 18, 20, 24] 1) (hj96 _ h)
 exact aI (zv [(0, 0)] [0, 1, 3, 4, 18, 20, 24] 1) (aC (hj96 _ h))
 refine aF ?_
 refine bA (fun n s => ∃ v86 v87, cV p1 p3 p2 p0 p4 j80 n v86 v87 = some r ∧ s = mk [(0, .c (.row 0)), (1, .c (I p1)), (2, .c (I p2)), (3, .c (I p3)), (4, .c (.fn 38 [.imm [.lit (List.map aW p4.Rules)]])), (18, .c (I (IntKind.wrap .i64 (fG .u64 (IntKind.wrap .u64 (IntKind.wrap .i64 (p1 + p3))) 1)))), (19, .c (I (IntKind.wrap .i64 ((IntKind.wrap .i64 (fG .u64 (IntKind.wrap .u64 (IntKind.wrap .i64 (p1 + p3))) 1)) + p2)))), (20, .c (I v86)), (21, .c (I v87)), (22, .c (I (IntKind.wrap .i64 ((IntKind.wrap .i64 ((IntKind.wrap .i64 (fG .u64 (IntKind.wrap .u64 (IntKind.wrap .i64 (p1 + p3))) 1)) + p2)) - 1))))] [(0, .vec 3 1 (List.map aJ p0))] 1) n _ (zv [(0, 0)] [0, 1, 2, 3, 4, 18, 19, 20, 21, 22] 1) ⟨_, _, h, rfl⟩ (fun s ⟨v86, v87, h, _⟩ => nomatch h) ?_
 rintro n s ⟨v86, v87, h, rfl⟩
 rw [cV] at h
 refine aK ?_
 refine za [0, 1, 2, 3, 4, 18, 19, 20, 21, 22, 151] ?_
 refine zi h (fun h => ?_) fun h => ?_
 refine aC ?_
 refine aF ?_
 refine za [0, 1, 2, 3, 4, 18, 19, 20, 21, 22, 23] ?_
 refine wP [[], [], [], [], [2, 3], [1, 4, 2, 3], [5, 1, 4, 2, 3], [], [], [7, 8], [9, 7, 8], [0, 6, 10, 5, 1, 4, 2, 3, 9, 7, 8], [11, 0, 6, 10, 5, 1, 4, 2, 3, 9, 7, 8], [12, 11, 0, 6, 10, 5, 1, 4, 2, 3, 9, 7, 8]] fun _ => ?_
 refine zk 5 ?_
 obtain ⟨k88, he, h⟩ := aB h
 refine cF (v := .c (.ptr 0 (k88 * 1))) (foot := [0]) (dD (enc := aJ) (l := p0) (n := 0) (sz := 1) (k := k88) (ix := (IntKind.wrap .i64 ((IntKind.wrap .i64 ((IntKind.wrap .i64 ((IntKind.wrap .i64 (fG .u64 (IntKind.wrap .u64 (IntKind.wrap .i64 (p1 + p3))) 1)) + p2)) - 1)) - (IntKind.wrap .i64 (fG .u64 (IntKind.wrap .u64 (IntKind.wrap .i64 (v86 + v87))) 1))))) he (by kernel_rfl)) (by kernel_rfl) rfl rfl ?_
 have hb_k88 := dP he; clear he
 obtain ⟨e89, he, h⟩ := aB h
 refine zw (v := .c (I e89)) [0] (gE (enc := aJ) (l := p0) (n := 0) (q := k88) (f := 0) (sz := 1) (e := e89) (j := ⟨.int .i64, 1, 8, [.int .i64 0]⟩) he (by kernel_rfl) (by kernel_rfl)) ?_
 clear he
 refine zk 2 ?_
 obtain ⟨k90, he, h⟩ := aB h
 refine cF (v := .c (.ptr 0 (k90 * 1))) (foot := [0]) (dD (enc := aJ) (l := p0) (n := 0) (sz := 1) (k := k90) (ix := (IntKind.wrap .i64 (fG .u64 (IntKind.wrap .u64 (IntKind.wrap .i64 (v86 + v87))) 1))) he (by kernel_rfl)) (by kernel_rfl) rfl rfl ?_
 have hb_k90 := dP he; clear he
 obtain ⟨e91, he, h⟩ := aB h
 refine zw (v := .c (I e91)) [0] (gE (enc := aJ) (l := p0) (n := 0) (q := k90) (f := 0) (sz := 1) (e := e91) (j := ⟨.int .i64, 1, 8, [.int .i64 0]⟩) he (by kernel_rfl) (by kernel_rfl)) ?_
 clear he
 obtain ⟨y92, he, h⟩ := aB h
 refine Sm (v := .c (I y92)) (foot := []) (vF (F := 38) (As := [.c (I e89), .c (I e91), .c (.imm [.lit (List.map aW p4.Rules)])]) (Bs := [.c (I e89), .c (I e91), .c (.imm [.lit (List.map aW p4.Rules)])]) (r := .c (I y92)) (v := .c (I y92)) (by kernel_rfl) Ov (by kernel_rfl) (jJ n _ _ _ y92 he) (by kernel_rfl)) (by kernel_rfl) rfl rfl ?_
 clear he
 refine zk 2 ?_
 refine jV [0, 1, 2, 3, 4, 18, 19, 20, 21, 22, 23, 171] (L2 := [(0, .c (.row 0)), (1, .c (I p1)), (2, .c (I p2)), (3, .c (I p3)), (4, .c (.fn 38 [.imm [.lit (List.map aW p4.Rules)]])), (18, .c (I (IntKind.wrap .i64 (fG .u64 (IntKind.wrap .u64 (IntKind.wrap .i64 (p1 + p3))) 1)))), (19, .c (I (IntKind.wrap .i64 ((IntKind.wrap .i64 (fG .u64 (IntKind.wrap .u64 (IntKind.wrap .i64 (p1 + p3))) 1)) + p2)))), (20, .c (I v86)), (21, .c (I v87)), (22, .c (I (IntKind.wrap .i64 ((IntKind.wrap .i64 ((IntKind.wrap .i64 (fG .u64 (IntKind.wrap .u64 (IntKind.wrap .i64 (p1 + p3))) 1)) + p2)) - 1)))), (23, .c (I (IntKind.wrap .i64 (fG .u64 (IntKind.wrap .u64 (IntKind.wrap .i64 (v86 + v87))) 1)))), (171, .c (Bo (!(decide (y92 < 0)))))]) (G2 := [(0, .vec 3 1 (List.map aJ p0))]) 25 ?_
 refine zi h (fun h => ?_) fun h => ?_
 refine aT ?_
 refine zb ?_
 exact dI (zv [(0, 0)] [0, 1, 2, 3, 4, 18, 19, 20, 21, 22] 1) (⟨_, _, h, rfl⟩)
 refine aT ?_
 refine zb ?_
 exact dI (zv [(0, 0)] [0, 1, 2, 3, 4, 18, 19, 20, 21, 22] 1) (⟨_, _, h, rfl⟩)
 exact aI (zv [(0, 0)] [0, 1, 2, 3, 4, 18, 19, 20] 1) (bD (hj80 _ h))
 refine za [0, 1, 2, 3, 4, 18, 19, 140] ?_
 refine zi h (fun h => ?_) fun h => ?_
 refine za [0, 1, 2, 3, 4, 18, 19, 20] ?_
 refine aT ?_
 refine zb ?_
 exact dI (zv [(0, 0)] [0, 1, 2, 3, 4, 18, 19, 20, 21] 1) (hj77 _ _ h)
 refine za [0, 1, 2, 3, 4, 18, 19, 20] ?_
 refine aT ?_
 refine zb ?_
 exact dI (zv [(0, 0)] [0, 1, 2, 3, 4, 18, 19, 20, 21] 1) (hj77 _ _ h)
def cQ : Nat → (List Int) → Int → Int → Int → bS → Option (List Int)
 | 0, _, _, _, _, _ => none
 | n + 1, p0, p1, p2, p3, p4 => fK (fun a0 a1 a2 a3 a4 => cQ n a0 a1 a2 a3 a4) n p0 p1 p2 p3 p4
theorem jG (n : Nat) : (∀ (p0 : (List Int)) (p1 : Int) (p2 : Int) (p3 : Int) (p4 : bS) (r : (List Int)), cQ n p0 p1 p2 p3 p4 = some r → cN E 103 1 [.c (.row 0), .c (I p1), .c (I p2), .c (I p3), .c (.fn 38 [.imm [.lit (List.map aW p4.Rules)]])] [(0, .vec 3 1 (List.map aJ p0))] (.tup []) [(0, .vec 3 1 (List.map aJ r))]) := by
 induction n with
 | zero => intro p0 p1 p2 p3 p4 r h; rw [cQ] at h; cases h
 | succ n ih => intro p0 p1 p2 p3 p4 r h; rw [cQ] at h; exact lY _ ih n _ _ _ _ _ r h
def eT (p1 : Int) (v27 : Int) (p2 : bS) (j29 : Int → List Int → Option (List Int)) : Nat → Int → Int → List Int → Option (List Int)
 | 0, _, _, _ => none
 | n + 1, v31, v32, v33 => (if (decide (v32 ≤ p1)) = true then (cQ n v33 v31 (IntKind.wrap .i64 (v31 + v27)) v32 p2).bind fun (y34 : (List Int)) => eT p1 v27 p2 j29 n v32 (IntKind.wrap .i64 (v32 + (IntKind.wrap .i64 (2 * v27)))) y34 else j29 v31 v33)
def eR (p1 : Int) (p2 : bS) : Nat → Int → List Int → Option (List Int)
 | 0, _, _ => none
 | n + 1, v27, v28 => (if (decide (v27 < p1)) = true then (aV (fun (v38 : Int) (v39 : List Int) => (aV (fun (v42 : List Int) => eR p1 p2 n (IntKind.wrap .i64 (v27 * 2)) v42) (fun (j40 : List Int → Option (List Int)) => (if (decide ((IntKind.wrap .i64 (v38 + v27)) < p1)) = true then (cQ n v39 v38 (IntKind.wrap .i64 (v38 + v27)) p1 p2).bind fun (y41 : (List Int)) => j40 y41 else j40 v39)))) (fun (j29 : Int → List Int → Option (List Int)) => eT p1 v27 p2 j29 n 0 (IntKind.wrap .i64 (2 * v27)) v28)) else some v28)
def eQ (p1 : Int) (p2 : bS) (j1 : Int → List Int → Option (List Int)) : Nat → Int → Int → List Int → Option (List Int)
 | 0, _, _, _ => none
 | n + 1, v3, v4, v5 => (if (decide (v4 ≤ p1)) = true then (dM n v5 v3 v4 p2).bind fun (y6 : (List Int)) => eQ p1 p2 j1 n v4 (IntKind.wrap .i64 (v4 + 20)) y6 else j1 v3 v5)
def iU  (n : Nat) (p0 : (List Int)) (p1 : Int) (p2 : bS) : Option (List Int) := (aV (fun (v10 : Int) (v11 : List Int) => (dM n v11 v10 p1 p2).bind fun (y12 : (List Int)) => eR p1 p2 n 20 y12) (fun (j1 : Int → List Int → Option (List Int)) => eQ p1 p2 j1 n 0 20 p0))
theorem oW  (n : Nat) (p0 : (List Int)) (p1 : Int) (p2 : bS) (r : (List Int)) (h : iU n p0 p1 p2 = some r) : cN E 71 1 [.c (.row 0), .c (I p1), .c (.fn 38 [.imm [.lit (List.map aW p2.Rules)]])] [(0, .vec 3 1 (List.map aJ p0))] (.tup []) [(0, .vec 3 1 (List.map aJ r))] := by
 refine fW Tryz.func71 rfl ?_
 unfold iU at h
 refine za [0, 1, 2, 6] ?_
 refine za [0, 1, 2, 6, 7, 8] ?_
 refine aQ h (fun A j => ∀ v10 v11, j v10 v11 = some r → A (mk [(0, .c (.row 0)), (1, .c (I p1)), (2, .c (.fn 38 [.imm [.lit (List.map aW p2.Rules)]])), (6, .c (I 20)), (7, .c (I v10))] [(0, .vec 3 1 (List.map aJ v11))] 1)) (fun v10 v11 h => ?_) (fun j1 Aj1 hj1 h => ?_)
 refine zx fun _ => ?_
 refine zk 4 ?_
 obtain ⟨y12, he, h⟩ := aB h
 refine zo [(0, 0)] Qx (gY n _ _ _ _ y12 he) ?_
 clear he
 refine ze [0, 1, 2, 6] ?_
 refine aF ?_
 refine bA (fun n s => ∃ v27 v28, eR p1 p2 n v27 v28 = some r ∧ s = mk [(0, .c (.row 0)), (1, .c (I p1)), (2, .c (.fn 38 [.imm [.lit (List.map aW p2.Rules)]])), (6, .c (I v27))] [(0, .vec 3 1 (List.map aJ v28))] 1) n _ (zv [(0, 0)] [0, 1, 2, 6] 1) ⟨_, _, h, rfl⟩ (fun s ⟨v27, v28, h, _⟩ => nomatch h) ?_
 rintro n s ⟨v27, v28, h, rfl⟩
 rw [eR] at h
 refine aK ?_
 refine za [0, 1, 2, 6, 30] ?_
 refine zi h (fun h => ?_) fun h => ?_
 refine aC ?_
 refine aF ?_
 refine za [0, 1, 2, 6, 7, 8] ?_
 refine aQ h (fun A j => ∀ v38 v39, j v38 v39 = some r → A (mk [(0, .c (.row 0)), (1, .c (I p1)), (2, .c (.fn 38 [.imm [.lit (List.map aW p2.Rules)]])), (6, .c (I v27)), (7, .c (I v38))] [(0, .vec 3 1 (List.map aJ v39))] 1)) (fun v38 v39 h => ?_) (fun j29 Aj29 hj29 h => ?_)
 refine aQ h (fun A j => ∀ v42, j v42 = some r → A (mk [(0, .c (.row 0)), (1, .c (I p1)), (2, .c (.fn 38 [.imm [.lit (List.map aW p2.Rules)]])), (6, .c (I v27))] [(0, .vec 3 1 (List.map aJ v42))] 1)) (fun v42 h => ?_) (fun j40 Aj40 hj40 h => ?_)
 refine aT ?_
 refine zb ?_
 exact dI (zv [(0, 0)] [0, 1, 2, 6] 1) (⟨_, _, h, rfl⟩)
 refine za [0, 1, 2, 6, 7, 9] ?_
 refine za [0, 1, 2, 6, 7, 9, 54] ?_
 refine zi h (fun h => ?_) fun h => ?_
 refine aT ?_
 refine zy fun _ => ?_
 refine zk 5 ?_
 obtain ⟨y41, he, h⟩ := aB h
 refine zo [(0, 0)] Ik (jG n _ _ _ _ _ y41 he) ?_
 clear he
 refine bL ?_
 exact dI (zv [(0, 0)] [0, 1, 2, 6] 1) (hj40 _ h)
 exact aI (zv [(0, 0)] [0, 1, 2, 6] 1) (aC (hj40 _ h))
 refine aF ?_
 refine bA (fun n s => ∃ v31 v32 v33, eT p1 v27 p2 j29 n v31 v32 v33 = some r ∧ s = mk [(0, .c (.row 0)), (1, .c (I p1)), (2, .c (.fn 38 [.imm [.lit (List.map aW p2.Rules)]])), (6, .c (I v27)), (7, .c (I v31)), (8, .c (I v32))] [(0, .vec 3 1 (List.map aJ v33))] 1) n _ (zv [(0, 0)] [0, 1, 2, 6, 7, 8] 1) ⟨_, _, _, h, rfl⟩ (fun s ⟨v31, v32, v33, h, _⟩ => nomatch h) ?_
 rintro n s ⟨v31, v32, v33, h, rfl⟩
 rw [eT] at h
 refine aK ?_
 refine za [0, 1, 2, 6, 7, 8, 35] ?_
 refine zi h (fun h => ?_) fun h => ?_
 refine aC ?_
 refine aF ?_
 refine zx fun _ => ?_
 refine zk 7 ?_
 obtain ⟨y34, he, h⟩ := aB h
 refine zo [(0, 0)] Ik (jG n _ _ _ _ _ y34 he) ?_
 clear he
 refine ze [0, 1, 2, 6, 8] ?_
 refine za [0, 1, 2, 6, 7, 8] ?_
 refine aT ?_
 refine zb ?_
 exact dI (zv [(0, 0)] [0, 1, 2, 6, 7, 8] 1) (⟨_, _, _, h, rfl⟩)
 exact aI (zv [(0, 0)] [0, 1, 2, 6, 7] 1) (bD (hj29 _ _ h))
 cases h
 exact bD zr
 refine aF ?_
 refine bA (fun n s => ∃ v3 v4 v5, eQ p1 p2 j1 n v3 v4 v5 = some r ∧ s = mk [(0, .c (.row 0)), (1, .c (I p1)), (2, .c (.fn 38 [.imm [.lit (List.map aW p2.Rules)]])), (6, .c (I 20)), (7, .c (I v3)), (8, .c (I v4))] [(0, .vec 3 1 (List.map aJ v5))] 1) n _ (zv [(0, 0)] [0, 1, 2, 6, 7, 8] 1) ⟨_, _, _, h, rfl⟩ (fun s ⟨v3, v4, v5, h, _⟩ => nomatch h) ?_
 rintro n s ⟨v3, v4, v5, h, rfl⟩
 rw [eQ] at h
 refine aK ?_
 refine za [0, 1, 2, 6, 7, 8, 13] ?_
 refine zi h (fun h => ?_) fun h => ?_
 refine aC ?_
 refine aF ?_
 refine zx fun _ => ?_
 refine zk 4 ?_
 obtain ⟨y6, he, h⟩ := aB h
 refine zo [(0, 0)] Qx (gY n _ _ _ _ y6 he) ?_
 clear he
 refine ze [0, 1, 2, 6, 8] ?_
 refine za [0, 1, 2, 6, 7, 8] ?_
 refine aT ?_
 refine zb ?_
 exact dI (zv [(0, 0)] [0, 1, 2, 6, 7, 8] 1) (⟨_, _, _, h, rfl⟩)
 exact aI (zv [(0, 0)] [0, 1, 2, 6, 7] 1) (bD (hj1 _ _ h))
def gC  (n : Nat) (p0 : (List Int)) (p1 : bS) : Option (List Int) := (iU n p0 (List.length p0 : Int) p1).bind fun (y1 : (List Int)) => some y1
theorem mP  (n : Nat) (p0 : (List Int)) (p1 : bS) (r : (List Int)) (h : gC n p0 p1 = some r) : cN E 37 1 [.c (.row 0), .c (.fn 38 [.imm [.lit (List.map aW p1.Rules)]])] [(0, .vec 3 1 (List.map aJ p0))] (.tup []) [(0, .vec 3 1 (List.map aJ r))] := by
 refine fW Tryz.func37 rfl ?_
 unfold gC at h
 refine zy fun _ => ?_
 refine zk 2 ?_
 refine cF (v := .c (I (List.length p0 : Int))) (foot := [0]) (Bg (enc := aJ) (l := p0) (n := 0) (by kernel_rfl)) (by kernel_rfl) rfl rfl ?_
 refine zk 1 ?_
 obtain ⟨y1, he, h⟩ := aB h
 refine zo [(0, 0)] fok71 (oW n _ _ _ y1 he) ?_
 clear he
 refine bL ?_
 cases h
 exact zr
def wI  (n : Nat) (p0 : bC) : Option ((List (Int × aR)) × Bool) := (kZ n p0).bind fun (y1 : ((List (Int × aR)) × aL × Int)) => some (y1.1, (y1.2.2 == 0))
theorem Ff  (n : Nat) (p0 : bC) (r : ((List (Int × aR)) × Bool)) (h : wI n p0 = some r) : cN E 73 0 [.agg [I p0.Root, I p0.Next, .lit (List.map aE p0.Nodes)]] [] (.tup [.c (.lmap true (List.map (eM (Value.int .i64) aE) r.1)), .c (Bo r.2)]) [] := by
 refine fW Tryz.func73 rfl ?_
 unfold wI at h
 refine za [1] ?_
 refine zx fun _ => ?_
 refine zk 1 ?_
 obtain ⟨y1, he, h⟩ := aB h
 refine zc Xl (tA n _ y1 he) ?_
 clear he
 refine zk 8 ?_
 refine ze [4, 6] ?_
 refine za [2, 3] ?_
 cases h
 exact aG zr
def wO  (n : Nat) (p0 : bC) : Option (List Int) := (wI n p0).bind fun (y1 : ((List (Int × aR)) × Bool)) => (if (!y1.2) = true then some ([] : List Int) else (eV n y1.1 p0.Root).bind fun (y2 : (List Int)) => some y2)
theorem Ep  (n : Nat) (p0 : bC) (r : (List Int)) (h : wO n p0 = some r) : cN E 41 0 [.agg [I p0.Root, I p0.Next, .lit (List.map aE p0.Nodes)]] [] (.c (.lit (List.map aJ r))) [] := by
 refine fW Tryz.func41 rfl ?_
 unfold wO at h
 refine za [1] ?_
 refine zx fun _ => ?_
 refine zk 1 ?_
 obtain ⟨y1, he, h⟩ := aB h
 refine zc aA0 (Ff n _ y1 he) ?_
 clear he
 refine zk 5 ?_
 refine ze [1, 3, 4] ?_
 refine aK ?_
 refine za [1, 3, 11] ?_
 refine zi h (fun h => ?_) fun h => ?_
 refine za [2] ?_
 cases h
 exact aG zr
 refine aC ?_
 refine zx fun _ => ?_
 refine zk 3 ?_
 obtain ⟨y2, he, h⟩ := aB h
 refine zc Tx (rU n _ _ y2 he) ?_
 clear he
 refine zk 1 ?_
 refine ze [2] ?_
 cases h
 exact aG zr
def gZ (p1 : cC) (p0 : iN) (j1 : Unit → Option Bool) : Nat → Bool → Int → Int → Int → ByteArray → List aZ → List cE → List Int → Option Bool
 | 0, _, _, _, _, _, _, _, _ => none
 | n + 1, v6, v7, v8, v9, v10, v11, v12, v13 => (if v6 = true then (gd [((p1.UnderKind == 0) || (v9 == p1.UnderKind)), (!(cG p1.UnderClass (⟨#[]⟩ : ByteArray)))] (some (gN v7 p0.class_, jF v7 p0.class_))).bind fun (y14 : (ByteArray × Bool)) => (if (((p1.UnderKind == 0) || (v9 == p1.UnderKind)) && ((cG p1.UnderClass (⟨#[]⟩ : ByteArray)) || (cG y14.1 p1.UnderClass))) = true then some true else (some (gN v8 p0.nodes, jF v8 p0.nodes)).bind fun (y15 : (aR × Bool)) => gZ p1 p0 j1 n y15.2 y15.1.ID y15.1.Parent y15.1.Kind y15.1.Key y15.1.Attrs y15.1.Actions y15.1.Kids) else j1 ())
def mH  (n : Nat) (p0 : iN) (p1 : cC) (p2 : Int) : Option Bool := (if ((p1.UnderKind == 0) && (cG p1.UnderClass (⟨#[]⟩ : ByteArray))) = true then some true else (aV (fun (_ : Unit) => some false) (fun (j1 : Unit → Option Bool) => (some (gN p2 p0.nodes, jF p2 p0.nodes)).bind fun (y2 : (aR × Bool)) => (some (gN y2.1.Parent p0.nodes, jF y2.1.Parent p0.nodes)).bind fun (y3 : (aR × Bool)) => gZ p1 p0 j1 n y3.2 y3.1.ID y3.1.Parent y3.1.Kind y3.1.Key y3.1.Attrs y3.1.Actions y3.1.Kids)))
theorem Cr  (n : Nat) (p0 : iN) (p1 : cC) (p2 : Int) (r : Bool) (h : mH n p0 p1 p2 = some r) : cN E 86 0 [.agg [.lmap true (List.map (eM (Value.int .i64) aE) p0.nodes), .lmap false (List.map (eM (Value.int .i64) eS) p0.class_), .lmap false (List.map (eM (Value.int .i64) aJ) p0.states)], .agg [I p1.Kind, Sx p1.Class, I p1.States, I p1.UnderKind, Sx p1.UnderClass, .lit (List.map bK p1.Decls)], .c (I p2)] [] (.c (Bo r)) [] := by
 refine fW Tryz.func86 rfl ?_
 unfold mH at h
 refine za [2, 3, 4] ?_
 refine aK ?_
 refine zx fun _ => ?_
 refine zk 4 ?_
 refine zE (.c (.ptr 1 4)) ?_
 refine zE (.c (Sx p1.UnderClass)) ?_
 refine zE (.c (Bo (cG p1.UnderClass (⟨#[]⟩ : ByteArray)))) ?_
 refine zn (L2 := [(2, .c (I p2)), (3, .c (.ptr 0 0)), (4, .c (.ptr 1 0)), (9, .c (.ptr 1 3)), (10, .c (I p1.UnderKind)), (11, .c (Bo (p1.UnderKind == 0))), (12, .c (Bo (p1.UnderKind == 0))), (13, .cnd [(p1.UnderKind == 0)] (.c (.ptr 1 4))), (14, .cnd [(p1.UnderKind == 0)] (.c (Sx p1.UnderClass))), (15, .cnd [(p1.UnderKind == 0)] (.c (Bo (cG p1.UnderClass (⟨#[]⟩ : ByteArray)))))]) (G2 := [(0, .blk 92 [.lmap true (List.map (eM (Value.int .i64) aE) p0.nodes), .lmap false (List.map (eM (Value.int .i64) eS) p0.class_), .lmap false (List.map (eM (Value.int .i64) aJ) p0.states)]), (1, .blk 63 [I p1.Kind, Sx p1.Class, I p1.States, I p1.UnderKind, Sx p1.UnderClass, .lit (List.map bK p1.Decls)])]) (X2 := []) ?_
 refine zP (.bool ((p1.UnderKind == 0) && (cG p1.UnderClass (⟨#[]⟩ : ByteArray)))) ?_
 refine ze [2, 3, 4, 16] ?_
 refine zi h (fun h => ?_) fun h => ?_
 refine za [6] ?_
 cases h
 exact aG zr
 refine aC ?_
 refine aQ h (fun A j => ∀ u, j u = some r → A (mk [] [] 0)) (fun u h => ?_) (fun j1 Aj1 hj1 h => ?_)
 refine za [6] ?_
 cases h
 exact aG zr
 refine zx fun _ => ?_
 refine zk 5 ?_
 obtain ⟨y2, he, h⟩ := aB h
 refine zw (v := .agg [I y2.1.ID, I y2.1.Parent, I y2.1.Kind, Sx y2.1.Key, .lit (List.map aM y2.1.Attrs), .lit (List.map aD y2.1.Actions), .lit (List.map aJ y2.1.Kids)]) [] (cZ (kf := (Value.int .i64)) (enc := aE) (l := p0.nodes) (k := p2) (ok := false) (kk := .int .i64) (j := ⟨.st [(3, 0, 1), (3, 1, 1), (3, 2, 1), (9, 3, 1), (55, 4, 1), (56, 5, 1), (22, 6, 1)], 7, 112, [.int .i64 0, .int .i64 0, .int .i64 0, .string ⟨#[]⟩, .slice none 0 0, .slice none 0 0, .slice none 0 0]⟩) (p := y2) (v := .agg [I y2.1.ID, I y2.1.Parent, I y2.1.Kind, Sx y2.1.Key, .lit (List.map aM y2.1.Attrs), .lit (List.map aD y2.1.Actions), .lit (List.map aJ y2.1.Kids)]) he (by kernel_rfl) gH (by kernel_rfl) (by kernel_rfl) (by kernel_rfl)) ?_
 clear he
 refine zk 1 ?_
 obtain ⟨y3, he, h⟩ := aB h
 refine zw (v := .tup [.agg [I y3.1.ID, I y3.1.Parent, I y3.1.Kind, Sx y3.1.Key, .lit (List.map aM y3.1.Attrs), .lit (List.map aD y3.1.Actions), .lit (List.map aJ y3.1.Kids)], .c (Bo y3.2)]) [] (cZ (kf := (Value.int .i64)) (enc := aE) (l := p0.nodes) (k := y2.1.Parent) (ok := true) (kk := .int .i64) (j := ⟨.st [(3, 0, 1), (3, 1, 1), (3, 2, 1), (9, 3, 1), (55, 4, 1), (56, 5, 1), (22, 6, 1)], 7, 112, [.int .i64 0, .int .i64 0, .int .i64 0, .string ⟨#[]⟩, .slice none 0 0, .slice none 0 0, .slice none 0 0]⟩) (p := y3) (v := .agg [I y3.1.ID, I y3.1.Parent, I y3.1.Kind, Sx y3.1.Key, .lit (List.map aM y3.1.Attrs), .lit (List.map aD y3.1.Actions), .lit (List.map aJ y3.1.Kids)]) he (by kernel_rfl) gH (by kernel_rfl) (by kernel_rfl) (by kernel_rfl)) ?_
 clear he
 refine zn (L2 := [(2, .c (I p2)), (3, .c (.ptr 0 0)), (4, .c (.ptr 1 0)), (16, .c (Bo ((p1.UnderKind == 0) && (cG p1.UnderClass (⟨#[]⟩ : ByteArray))))), (18, .c (.ptr 0 0)), (19, .c (.lmap true (List.map (eM (Value.int .i64) aE) p0.nodes))), (20, .c (.ptr 0 0)), (21, .c (.lmap true (List.map (eM (Value.int .i64) aE) p0.nodes))), (22, .c (I p2)), (23, .agg [I y2.1.ID, I y2.1.Parent, I y2.1.Kind, Sx y2.1.Key, .lit (List.map aM y2.1.Attrs), .lit (List.map aD y2.1.Actions), .lit (List.map aJ y2.1.Kids)]), (24, .c (I y2.1.Parent)), (25, .tup [.agg [I y3.1.ID, I y3.1.Parent, I y3.1.Kind, Sx y3.1.Key, .lit (List.map aM y3.1.Attrs), .lit (List.map aD y3.1.Actions), .lit (List.map aJ y3.1.Kids)], .c (Bo y3.2)])]) (G2 := [(0, .blk 92 [.lmap true (List.map (eM (Value.int .i64) aE) p0.nodes), .lmap false (List.map (eM (Value.int .i64) eS) p0.class_), .lmap false (List.map (eM (Value.int .i64) aJ) p0.states)]), (1, .blk 63 [I p1.Kind, Sx p1.Class, I p1.States, I p1.UnderKind, Sx p1.UnderClass, .lit (List.map bK p1.Decls)])]) (X2 := []) ?_
 refine zk 6 ?_
 refine ze [3, 4, 7, 8] ?_
 refine aF ?_
 refine bA (fun n s => ∃ v6 v7 v8 v9 v10 v11 v12 v13, gZ p1 p0 j1 n v6 v7 v8 v9 v10 v11 v12 v13 = some r ∧ s = mk [(3, .c (.ptr 0 0)), (4, .c (.ptr 1 0)), (7, .c (.ptr 2 0)), (8, .c (Bo v6))] [(0, .blk 92 [.lmap true (List.map (eM (Value.int .i64) aE) p0.nodes), .lmap false (List.map (eM (Value.int .i64) eS) p0.class_), .lmap false (List.map (eM (Value.int .i64) aJ) p0.states)]), (1, .blk 63 [I p1.Kind, Sx p1.Class, I p1.States, I p1.UnderKind, Sx p1.UnderClass, .lit (List.map bK p1.Decls)]), (2, .blk 58 [I v7, I v8, I v9, Sx v10, .lit (List.map aM v11), .lit (List.map aD v12), .lit (List.map aJ v13)])] 3) n _ (zv [(0, 0), (1, 1), (22, 2)] [3, 4, 7, 8] 3) ⟨_, _, _, _, _, _, _, _, h, rfl⟩ (fun s ⟨v6, v7, v8, v9, v10, v11, v12, v13, h, _⟩ => nomatch h) ?_
 rintro n s ⟨v6, v7, v8, v9, v10, v11, v12, v13, h, rfl⟩
 rw [gZ] at h
 refine aK ?_
 refine za [3, 4, 7, 28] ?_
 refine zi h (fun h => ?_) fun h => ?_
 refine aC ?_
 refine aK ?_
 refine aF ?_
 refine zx fun _ => ?_
 refine zk 4 ?_
 refine zE (.c (.ptr 2 2)) ?_
 refine zE (.c (I v9)) ?_
 refine zE (.c (.ptr 1 3)) ?_
 refine zn (L2 := [(3, .c (.ptr 0 0)), (4, .c (.ptr 1 0)), (7, .c (.ptr 2 0)), (28, .c (Bo v6)), (37, .c (.ptr 1 3)), (38, .c (I p1.UnderKind)), (39, .c (Bo (p1.UnderKind == 0))), (40, .c (Bo (p1.UnderKind == 0))), (41, .cnd [(!(p1.UnderKind == 0))] (.c (.ptr 2 2))), (42, .cnd [(!(p1.UnderKind == 0))] (.c (I v9))), (43, .cnd [(!(p1.UnderKind == 0))] (.c (.ptr 1 3)))]) (G2 := [(0, .blk 92 [.lmap true (List.map (eM (Value.int .i64) aE) p0.nodes), .lmap false (List.map (eM (Value.int .i64) eS) p0.class_), .lmap false (List.map (eM (Value.int .i64) aJ) p0.states)]), (1, .blk 63 [I p1.Kind, Sx p1.Class, I p1.States, I p1.UnderKind, Sx p1.UnderClass, .lit (List.map bK p1.Decls)]), (2, .blk 58 [I v7, I v8, I v9, Sx v10, .lit (List.map aM v11), .lit (List.map aD v12), .lit (List.map aJ v13)])]) (X2 := []) ?_
 refine zE (.c (I p1.UnderKind)) ?_
 refine zE (.c (Bo (v9 == p1.UnderKind))) ?_
 refine zP (.bool ((p1.UnderKind == 0) || (v9 == p1.UnderKind))) ?_
 refine zk 1 ?_
 refine zE (.c (.ptr 1 4)) ?_
 refine zn (L2 := [(3, .c (.ptr 0 0)), (4, .c (.ptr 1 0)), (7, .c (.ptr 2 0)), (28, .c (Bo v6)), (37, .c (.ptr 1 3)), (38, .c (I p1.UnderKind)), (39, .c (Bo (p1.UnderKind == 0))), (40, .c (Bo (p1.UnderKind == 0))), (41, .cnd [(!(p1.UnderKind == 0))] (.c (.ptr 2 2))), (42, .cnd [(!(p1.UnderKind == 0))] (.c (I v9))), (43, .cnd [(!(p1.UnderKind == 0))] (.c (.ptr 1 3))), (44, .cnd [(!(p1.UnderKind == 0))] (.c (I p1.UnderKind))), (45, .cnd [(!(p1.UnderKind == 0))] (.c (Bo (v9 == p1.UnderKind)))), (46, .c (Bo ((p1.UnderKind == 0) || (v9 == p1.UnderKind)))), (47, .c (Bo ((p1.UnderKind == 0) || (v9 == p1.UnderKind)))), (48, .cnd [((p1.UnderKind == 0) || (v9 == p1.UnderKind))] (.c (.ptr 1 4)))]) (G2 := [(0, .blk 92 [.lmap true (List.map (eM (Value.int .i64) aE) p0.nodes), .lmap false (List.map (eM (Value.int .i64) eS) p0.class_), .lmap false (List.map (eM (Value.int .i64) aJ) p0.states)]), (1, .blk 63 [I p1.Kind, Sx p1.Class, I p1.States, I p1.UnderKind, Sx p1.UnderClass, .lit (List.map bK p1.Decls)]), (2, .blk 58 [I v7, I v8, I v9, Sx v10, .lit (List.map aM v11), .lit (List.map aD v12), .lit (List.map aJ v13)])]) (X2 := []) ?_
 refine zE (.c (Sx p1.UnderClass)) ?_
 refine zE (.c (Bo (cG p1.UnderClass (⟨#[]⟩ : ByteArray)))) ?_
 refine zF [((p1.UnderKind == 0) || (v9 == p1.UnderKind))] (.c (Bo (cG p1.UnderClass (⟨#[]⟩ : ByteArray)))) ?_
 refine zE (.c (.ptr 0 1)) ?_
 refine zE (.c (.lmap false (List.map (eM (Value.int .i64) eS) p0.class_))) ?_
 refine zn (L2 := [(3, .c (.ptr 0 0)), (4, .c (.ptr 1 0)), (7, .c (.ptr 2 0)), (28, .c (Bo v6)), (37, .c (.ptr 1 3)), (38, .c (I p1.UnderKind)), (39, .c (Bo (p1.UnderKind == 0))), (40, .c (Bo (p1.UnderKind == 0))), (41, .cnd [(!(p1.UnderKind == 0))] (.c (.ptr 2 2))), (42, .cnd [(!(p1.UnderKind == 0))] (.c (I v9))), (43, .cnd [(!(p1.UnderKind == 0))] (.c (.ptr 1 3))), (44, .cnd [(!(p1.UnderKind == 0))] (.c (I p1.UnderKind))), (45, .cnd [(!(p1.UnderKind == 0))] (.c (Bo (v9 == p1.UnderKind)))), (46, .c (Bo ((p1.UnderKind == 0) || (v9 == p1.UnderKind)))), (47, .c (Bo ((p1.UnderKind == 0) || (v9 == p1.UnderKind)))), (48, .cnd [((p1.UnderKind == 0) || (v9 == p1.UnderKind))] (.c (.ptr 1 4))), (49, .cnd [((p1.UnderKind == 0) || (v9 == p1.UnderKind))] (.c (Sx p1.UnderClass))), (50, .cnd [((p1.UnderKind == 0) || (v9 == p1.UnderKind))] (.c (Bo (cG p1.UnderClass (⟨#[]⟩ : ByteArray))))), (51, .cnd [((p1.UnderKind == 0) || (v9 == p1.UnderKind))] (.c (Bo (cG p1.UnderClass (⟨#[]⟩ : ByteArray))))), (52, .cnd [((p1.UnderKind == 0) || (v9 == p1.UnderKind)), (!(cG p1.UnderClass (⟨#[]⟩ : ByteArray)))] (.c (.ptr 0 1))), (53, .cnd [((p1.UnderKind == 0) || (v9 == p1.UnderKind)), (!(cG p1.UnderClass (⟨#[]⟩ : ByteArray)))] (.c (.lmap false (List.map (eM (Value.int .i64) eS) p0.class_))))]) (G2 := [(0, .blk 92 [.lmap true (List.map (eM (Value.int .i64) aE) p0.nodes), .lmap false (List.map (eM (Value.int .i64) eS) p0.class_), .lmap false (List.map (eM (Value.int .i64) aJ) p0.states)]), (1, .blk 63 [I p1.Kind, Sx p1.Class, I p1.States, I p1.UnderKind, Sx p1.UnderClass, .lit (List.map bK p1.Decls)]), (2, .blk 58 [I v7, I v8, I v9, Sx v10, .lit (List.map aM v11), .lit (List.map aD v12), .lit (List.map aJ v13)])]) (X2 := []) ?_
 refine zE (.c (.ptr 2 0)) ?_
 refine zE (.c (I v7)) ?_
 obtain ⟨y14, he, h⟩ := aB h
 refine Da (e := [((p1.UnderKind == 0) || (v9 == p1.UnderKind)), (!(cG p1.UnderClass (⟨#[]⟩ : ByteArray)))]) [(53, .c (.lmap false (List.map (eM (Value.int .i64) eS) p0.class_)), some 2), (55, .c (I v7), some 2)] (v := .c (Sx y14.1)) (foot := []) (by kernel_rfl) (by kernel_rfl) (by kernel_rfl) (fun hg => cZ (kf := (Value.int .i64)) (enc := eS) (l := p0.class_) (k := v7) (ok := false) (kk := .int .i64) (j := ⟨.str, 1, 16, [.string ⟨#[]⟩]⟩) (p := y14) (v := .c (Sx y14.1)) (bT he hg) (by kernel_rfl) gH (by kernel_rfl) (by kernel_rfl) (by kernel_rfl)) rfl rfl ?_
 clear he
 refine zE (.c (.ptr 1 4)) ?_
 refine zE (.c (Sx p1.UnderClass)) ?_
 refine zn (L2 := [(3, .c (.ptr 0 0)), (4, .c (.ptr 1 0)), (7, .c (.ptr 2 0)), (28, .c (Bo v6)), (37, .c (.ptr 1 3)), (38, .c (I p1.UnderKind)), (39, .c (Bo (p1.UnderKind == 0))), (40, .c (Bo (p1.UnderKind == 0))), (41, .cnd [(!(p1.UnderKind == 0))] (.c (.ptr 2 2))), (42, .cnd [(!(p1.UnderKind == 0))] (.c (I v9))), (43, .cnd [(!(p1.UnderKind == 0))] (.c (.ptr 1 3))), (44, .cnd [(!(p1.UnderKind == 0))] (.c (I p1.UnderKind))), (45, .cnd [(!(p1.UnderKind == 0))] (.c (Bo (v9 == p1.UnderKind)))), (46, .c (Bo ((p1.UnderKind == 0) || (v9 == p1.UnderKind)))), (47, .c (Bo ((p1.UnderKind == 0) || (v9 == p1.UnderKind)))), (48, .cnd [((p1.UnderKind == 0) || (v9 == p1.UnderKind))] (.c (.ptr 1 4))), (49, .cnd [((p1.UnderKind == 0) || (v9 == p1.UnderKind))] (.c (Sx p1.UnderClass))), (50, .cnd [((p1.UnderKind == 0) || (v9 == p1.UnderKind))] (.c (Bo (cG p1.UnderClass (⟨#[]⟩ : ByteArray))))), (51, .cnd [((p1.UnderKind == 0) || (v9 == p1.UnderKind))] (.c (Bo (cG p1.UnderClass (⟨#[]⟩ : ByteArray))))), (52, .cnd [((p1.UnderKind == 0) || (v9 == p1.UnderKind)), (!(cG p1.UnderClass (⟨#[]⟩ : ByteArray)))] (.c (.ptr 0 1))), (53, .cnd [((p1.UnderKind == 0) || (v9 == p1.UnderKind)), (!(cG p1.UnderClass (⟨#[]⟩ : ByteArray)))] (.c (.lmap false (List.map (eM (Value.int .i64) eS) p0.class_)))), (54, .cnd [((p1.UnderKind == 0) || (v9 == p1.UnderKind)), (!(cG p1.UnderClass (⟨#[]⟩ : ByteArray)))] (.c (.ptr 2 0))), (55, .cnd [((p1.UnderKind == 0) || (v9 == p1.UnderKind)), (!(cG p1.UnderClass (⟨#[]⟩ : ByteArray)))] (.c (I v7))), (56, .cnd [((p1.UnderKind == 0) || (v9 == p1.UnderKind)), (!(cG p1.UnderClass (⟨#[]⟩ : ByteArray)))] (.c (Sx y14.1))), (57, .cnd [((p1.UnderKind == 0) || (v9 == p1.UnderKind)), (!(cG p1.UnderClass (⟨#[]⟩ : ByteArray)))] (.c (.ptr 1 4))), (58, .cnd [((p1.UnderKind == 0) || (v9 == p1.UnderKind)), (!(cG p1.UnderClass (⟨#[]⟩ : ByteArray)))] (.c (Sx p1.UnderClass)))]) (G2 := [(0, .blk 92 [.lmap true (List.map (eM (Value.int .i64) aE) p0.nodes), .lmap false (List.map (eM (Value.int .i64) eS) p0.class_), .lmap false (List.map (eM (Value.int .i64) aJ) p0.states)]), (1, .blk 63 [I p1.Kind, Sx p1.Class, I p1.States, I p1.UnderKind, Sx p1.UnderClass, .lit (List.map bK p1.Decls)]), (2, .blk 58 [I v7, I v8, I v9, Sx v10, .lit (List.map aM v11), .lit (List.map aD v12), .lit (List.map aJ v13)])]) (X2 := []) ?_
 refine zE (.c (Bo (cG y14.1 p1.UnderClass))) ?_
 refine zP (.bool ((cG p1.UnderClass (⟨#[]⟩ : ByteArray)) || (cG y14.1 p1.UnderClass))) ?_
 refine zP (.bool (((p1.UnderKind == 0) || (v9 == p1.UnderKind)) && ((cG p1.UnderClass (⟨#[]⟩ : ByteArray)) || (cG y14.1 p1.UnderClass)))) ?_
 refine ze [3, 4, 7, 61] ?_
 refine zi h (fun h => ?_) fun h => ?_
 refine za [6] ?_
 cases h
 exact aG zr
 refine aC ?_
 refine aK ?_
 refine za [3, 4, 62] ?_
 refine zb ?_
 refine aT ?_
 refine zy fun _ => ?_
 refine zk 4 ?_
 obtain ⟨y15, he, h⟩ := aB h
 refine zw (v := .tup [.agg [I y15.1.ID, I y15.1.Parent, I y15.1.Kind, Sx y15.1.Key, .lit (List.map aM y15.1.Attrs), .lit (List.map aD y15.1.Actions), .lit (List.map aJ y15.1.Kids)], .c (Bo y15.2)]) [] (cZ (kf := (Value.int .i64)) (enc := aE) (l := p0.nodes) (k := v8) (ok := true) (kk := .int .i64) (j := ⟨.st [(3, 0, 1), (3, 1, 1), (3, 2, 1), (9, 3, 1), (55, 4, 1), (56, 5, 1), (22, 6, 1)], 7, 112, [.int .i64 0, .int .i64 0, .int .i64 0, .string ⟨#[]⟩, .slice none 0 0, .slice none 0 0, .slice none 0 0]⟩) (p := y15) (v := .agg [I y15.1.ID, I y15.1.Parent, I y15.1.Kind, Sx y15.1.Key, .lit (List.map aM y15.1.Attrs), .lit (List.map aD y15.1.Actions), .lit (List.map aJ y15.1.Kids)]) he (by kernel_rfl) gH (by kernel_rfl) (by kernel_rfl) (by kernel_rfl)) ?_
 clear he
 refine zn (L2 := [(3, .c (.ptr 0 0)), (4, .c (.ptr 1 0)), (62, .agg [I v7, I v8, I v9, Sx v10, .lit (List.map aM v11), .lit (List.map aD v12), .lit (List.map aJ v13)]), (7, .c (.ptr 30 0)), (30, .c (.ptr 0 0)), (31, .c (.lmap true (List.map (eM (Value.int .i64) aE) p0.nodes))), (32, .c (.ptr 30 1)), (33, .c (I v8)), (34, .tup [.agg [I y15.1.ID, I y15.1.Parent, I y15.1.Kind, Sx y15.1.Key, .lit (List.map aM y15.1.Attrs), .lit (List.map aD y15.1.Actions), .lit (List.map aJ y15.1.Kids)], .c (Bo y15.2)])]) (G2 := [(0, .blk 92 [.lmap true (List.map (eM (Value.int .i64) aE) p0.nodes), .lmap false (List.map (eM (Value.int .i64) eS) p0.class_), .lmap false (List.map (eM (Value.int .i64) aJ) p0.states)]), (1, .blk 63 [I p1.Kind, Sx p1.Class, I p1.States, I p1.UnderKind, Sx p1.UnderClass, .lit (List.map bK p1.Decls)]), (2, .blk 58 [I v7, I v8, I v9, Sx v10, .lit (List.map aM v11), .lit (List.map aD v12), .lit (List.map aJ v13)]), (30, .blk 58 [I v7, I v8, I v9, Sx v10, .lit (List.map aM v11), .lit (List.map aD v12), .lit (List.map aJ v13)])]) (X2 := []) ?_
 refine zk 5 ?_
 refine bL ?_
 exact dI (zv [(0, 0), (1, 1), (30, 2)] [3, 4, 7, 8] 3) (⟨_, _, _, _, _, _, _, _, h, rfl⟩)
 exact aI (zv [] [] 0) (bD (hj1 _ h))
end Go.Proofs.YtojkihhnioeggaaGreatDoor.S
