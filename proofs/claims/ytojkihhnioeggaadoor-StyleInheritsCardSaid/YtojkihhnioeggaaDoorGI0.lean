/- Functions, and that the program's are they. Printed by ext.py. -/
import Derived.Test.YtojkihhnioeggaaDoorGVs
set_option linter.unusedVariables false
set_option linter.unusedSimpArgs false
set_option maxRecDepth 100000
set_option maxHeartbeats 4000000
namespace Go.Proofs.YtojkihhnioeggaaDoor.S
open Go Go.Bm
def style_exists  (n : Nat) (p0 : Int) : Option Bool := some ((decide (p0 ≥ 0)) && (decide (p0 < 22)))
theorem style_exists_ok  (n : Nat) (p0 : Int) (r : Bool) (h : style_exists n p0 = some r) : FnD E 28 0 [.c (I p0)] [] (.c (Bo r)) [] := by
  refine zfn Tryd.func28 rfl ?_
  unfold style_exists at h
  refine za [0] ?_
  refine zx fun _ => ?_
  refine zk 3 ?_
  refine zE (.c (I p0)) ?_
  refine zE (.c (Bo (decide (p0 < 22)))) ?_
  refine zP (.bool ((decide (p0 ≥ 0)) && (decide (p0 < 22)))) ?_
  refine zk 1 ?_
  refine ze [2] ?_
  cases h
  exact aw_ret zr
def style_Inherited  (n : Nat) (p0 : Int) : Option Bool := (style_exists n p0).bind fun (y1 : Bool) => (gd [y1] (idx tab_widgetry_style_properties p0)).bind fun (e2 : Gproperty) => some (y1 && e2.inherited)
theorem style_Inherited_ok  (n : Nat) (p0 : Int) (r : Bool) (h : style_Inherited n p0 = some r) : FnD E 9 0 [.c (I p0)] [] (.c (Bo r)) [] := by
  refine zfn Tryd.func9 rfl ?_
  unfold style_Inherited at h
  refine za [0] ?_
  refine zx fun _ => ?_
  refine zk 1 ?_
  obtain ⟨y1, he, h⟩ := bindE h
  refine zc fok28 (style_exists_ok n _ y1 he) ?_
  clear he
  refine zk 1 ?_
  refine zE (.c (I p0)) ?_
  obtain ⟨e2, he, h⟩ := bindE h
  refine rx_EidxA (es := [y1]) [(6, .c (I p0), some 1)] (enc := eGproperty) (xs := tab_widgetry_style_properties) (ix := p0) (e := e2) (c := [Bo e2.inherited, I e2.low, I e2.high, I e2.start]) (len := 22) (sz := 4) (fun hg => gd_spec he hg) (by kernel_rfl) (by kernel_rfl) (by kernel_rfl) (by kernel_rfl) (by kernel_rfl) (by kernel_rfl) (fun x => by kernel_rfl) rfl rfl ?_
  clear he
  refine zE (.c (.imm [Bo e2.inherited, I e2.low, I e2.high, I e2.start])) ?_
  refine zE (.c (Bo e2.inherited)) ?_
  refine zP (.bool (y1 && e2.inherited)) ?_
  refine zk 1 ?_
  refine zee [2] (L2 := [(2, .c (Bo (y1 && e2.inherited)))]) (G2 := []) 10 ?_
  cases h
  exact aw_ret zr
def style_InRange  (n : Nat) (p0 : Int) (p1 : Int) : Option Bool := (style_exists n p0).bind fun (y1 : Bool) => (gd [y1] (idx tab_widgetry_style_properties p0)).bind fun (e2 : Gproperty) => (gd [(y1 && (decide (p1 ≥ e2.low)))] (idx tab_widgetry_style_properties p0)).bind fun (e3 : Gproperty) => some ((y1 && (decide (p1 ≥ e2.low))) && (decide (p1 ≤ e3.high)))
theorem style_InRange_ok  (n : Nat) (p0 : Int) (p1 : Int) (r : Bool) (h : style_InRange n p0 p1 = some r) : FnD E 11 0 [.c (I p0), .c (I p1)] [] (.c (Bo r)) [] := by
  refine zfn Tryd.func11 rfl ?_
  unfold style_InRange at h
  refine za [0, 1] ?_
  refine zx fun _ => ?_
  refine zk 1 ?_
  obtain ⟨y1, he, h⟩ := bindE h
  refine zc fok28 (style_exists_ok n _ y1 he) ?_
  clear he
  refine zk 1 ?_
  refine zE (.c (I p1)) ?_
  refine zE (.c (I p0)) ?_
  obtain ⟨e2, he, h⟩ := bindE h
  refine rx_EidxA (es := [y1]) [(9, .c (I p0), some 1)] (enc := eGproperty) (xs := tab_widgetry_style_properties) (ix := p0) (e := e2) (c := [Bo e2.inherited, I e2.low, I e2.high, I e2.start]) (len := 22) (sz := 4) (fun hg => gd_spec he hg) (by kernel_rfl) (by kernel_rfl) (by kernel_rfl) (by kernel_rfl) (by kernel_rfl) (by kernel_rfl) (fun x => by kernel_rfl) rfl rfl ?_
  clear he
  refine zE (.c (.imm [I e2.low, I e2.high, I e2.start])) ?_
  refine zE (.c (I e2.low)) ?_
  refine zE (.c (Bo (decide (p1 ≥ e2.low)))) ?_
  refine zP (.bool (y1 && (decide (p1 ≥ e2.low)))) ?_
  refine zk 1 ?_
  refine zE (.c (I p1)) ?_
  refine zE (.c (I p0)) ?_
  obtain ⟨e3, he, h⟩ := bindE h
  refine rx_EidxA (es := [(y1 && (decide (p1 ≥ e2.low)))]) [(17, .c (I p0), some 1)] (enc := eGproperty) (xs := tab_widgetry_style_properties) (ix := p0) (e := e3) (c := [Bo e3.inherited, I e3.low, I e3.high, I e3.start]) (len := 22) (sz := 4) (fun hg => gd_spec he hg) (by kernel_rfl) (by kernel_rfl) (by kernel_rfl) (by kernel_rfl) (by kernel_rfl) (by kernel_rfl) (fun x => by kernel_rfl) rfl rfl ?_
  clear he
  refine zE (.c (.imm [I e3.high, I e3.start])) ?_
  refine zE (.c (I e3.high)) ?_
  refine zE (.c (Bo (decide (p1 ≤ e3.high)))) ?_
  refine zP (.bool ((y1 && (decide (p1 ≥ e2.low))) && (decide (p1 ≤ e3.high)))) ?_
  refine zk 1 ?_
  refine zee [4] (L2 := [(4, .c (Bo ((y1 && (decide (p1 ≥ e2.low))) && (decide (p1 ≤ e3.high)))))]) (G2 := []) 20 ?_
  cases h
  exact aw_ret zr
def style_Initial_L0 (j1 : Int → Int → Int → Int → Int → Int → Int → Int → Int → Int → Int → Int → Int → Int → Int → Int → Int → Int → Int → Int → Int → Int → Option A22_Int) : Nat → Int → Int → Int → Int → Int → Int → Int → Int → Int → Int → Int → Int → Int → Int → Int → Int → Int → Int → Int → Int → Int → Int → Int → Option A22_Int
  | 0, _, _, _, _, _, _, _, _, _, _, _, _, _, _, _, _, _, _, _, _, _, _, _ => none
  | n + 1, v6, v7, v8, v9, v10, v11, v12, v13, v14, v15, v16, v17, v18, v19, v20, v21, v22, v23, v24, v25, v26, v27, v28 => (if (decide (v6 < 22)) = true then (idx tab_widgetry_style_properties v6).bind fun (e29 : Gproperty) => (inb v6 22).bind fun (k30 : Nat) => style_Initial_L0 j1 n (IntKind.wrap .i64 (v6 + 1)) ((A22_Int.set (A22_Int.mk v7 v8 v9 v10 v11 v12 v13 v14 v15 v16 v17 v18 v19 v20 v21 v22 v23 v24 v25 v26 v27 v28) k30 e29.start).x0) ((A22_Int.set (A22_Int.mk v7 v8 v9 v10 v11 v12 v13 v14 v15 v16 v17 v18 v19 v20 v21 v22 v23 v24 v25 v26 v27 v28) k30 e29.start).x1) ((A22_Int.set (A22_Int.mk v7 v8 v9 v10 v11 v12 v13 v14 v15 v16 v17 v18 v19 v20 v21 v22 v23 v24 v25 v26 v27 v28) k30 e29.start).x2) ((A22_Int.set (A22_Int.mk v7 v8 v9 v10 v11 v12 v13 v14 v15 v16 v17 v18 v19 v20 v21 v22 v23 v24 v25 v26 v27 v28) k30 e29.start).x3) ((A22_Int.set (A22_Int.mk v7 v8 v9 v10 v11 v12 v13 v14 v15 v16 v17 v18 v19 v20 v21 v22 v23 v24 v25 v26 v27 v28) k30 e29.start).x4) ((A22_Int.set (A22_Int.mk v7 v8 v9 v10 v11 v12 v13 v14 v15 v16 v17 v18 v19 v20 v21 v22 v23 v24 v25 v26 v27 v28) k30 e29.start).x5) ((A22_Int.set (A22_Int.mk v7 v8 v9 v10 v11 v12 v13 v14 v15 v16 v17 v18 v19 v20 v21 v22 v23 v24 v25 v26 v27 v28) k30 e29.start).x6) ((A22_Int.set (A22_Int.mk v7 v8 v9 v10 v11 v12 v13 v14 v15 v16 v17 v18 v19 v20 v21 v22 v23 v24 v25 v26 v27 v28) k30 e29.start).x7) ((A22_Int.set (A22_Int.mk v7 v8 v9 v10 v11 v12 v13 v14 v15 v16 v17 v18 v19 v20 v21 v22 v23 v24 v25 v26 v27 v28) k30 e29.start).x8) ((A22_Int.set (A22_Int.mk v7 v8 v9 v10 v11 v12 v13 v14 v15 v16 v17 v18 v19 v20 v21 v22 v23 v24 v25 v26 v27 v28) k30 e29.start).x9) ((A22_Int.set (A22_Int.mk v7 v8 v9 v10 v11 v12 v13 v14 v15 v16 v17 v18 v19 v20 v21 v22 v23 v24 v25 v26 v27 v28) k30 e29.start).x10) ((A22_Int.set (A22_Int.mk v7 v8 v9 v10 v11 v12 v13 v14 v15 v16 v17 v18 v19 v20 v21 v22 v23 v24 v25 v26 v27 v28) k30 e29.start).x11) ((A22_Int.set (A22_Int.mk v7 v8 v9 v10 v11 v12 v13 v14 v15 v16 v17 v18 v19 v20 v21 v22 v23 v24 v25 v26 v27 v28) k30 e29.start).x12) ((A22_Int.set (A22_Int.mk v7 v8 v9 v10 v11 v12 v13 v14 v15 v16 v17 v18 v19 v20 v21 v22 v23 v24 v25 v26 v27 v28) k30 e29.start).x13) ((A22_Int.set (A22_Int.mk v7 v8 v9 v10 v11 v12 v13 v14 v15 v16 v17 v18 v19 v20 v21 v22 v23 v24 v25 v26 v27 v28) k30 e29.start).x14) ((A22_Int.set (A22_Int.mk v7 v8 v9 v10 v11 v12 v13 v14 v15 v16 v17 v18 v19 v20 v21 v22 v23 v24 v25 v26 v27 v28) k30 e29.start).x15) ((A22_Int.set (A22_Int.mk v7 v8 v9 v10 v11 v12 v13 v14 v15 v16 v17 v18 v19 v20 v21 v22 v23 v24 v25 v26 v27 v28) k30 e29.start).x16) ((A22_Int.set (A22_Int.mk v7 v8 v9 v10 v11 v12 v13 v14 v15 v16 v17 v18 v19 v20 v21 v22 v23 v24 v25 v26 v27 v28) k30 e29.start).x17) ((A22_Int.set (A22_Int.mk v7 v8 v9 v10 v11 v12 v13 v14 v15 v16 v17 v18 v19 v20 v21 v22 v23 v24 v25 v26 v27 v28) k30 e29.start).x18) ((A22_Int.set (A22_Int.mk v7 v8 v9 v10 v11 v12 v13 v14 v15 v16 v17 v18 v19 v20 v21 v22 v23 v24 v25 v26 v27 v28) k30 e29.start).x19) ((A22_Int.set (A22_Int.mk v7 v8 v9 v10 v11 v12 v13 v14 v15 v16 v17 v18 v19 v20 v21 v22 v23 v24 v25 v26 v27 v28) k30 e29.start).x20) ((A22_Int.set (A22_Int.mk v7 v8 v9 v10 v11 v12 v13 v14 v15 v16 v17 v18 v19 v20 v21 v22 v23 v24 v25 v26 v27 v28) k30 e29.start).x21) else j1 v7 v8 v9 v10 v11 v12 v13 v14 v15 v16 v17 v18 v19 v20 v21 v22 v23 v24 v25 v26 v27 v28)
def style_Initial  (n : Nat)  : Option A22_Int := (withJ (fun (v54 : Int) (v55 : Int) (v56 : Int) (v57 : Int) (v58 : Int) (v59 : Int) (v60 : Int) (v61 : Int) (v62 : Int) (v63 : Int) (v64 : Int) (v65 : Int) (v66 : Int) (v67 : Int) (v68 : Int) (v69 : Int) (v70 : Int) (v71 : Int) (v72 : Int) (v73 : Int) (v74 : Int) (v75 : Int) => some (A22_Int.mk v54 v55 v56 v57 v58 v59 v60 v61 v62 v63 v64 v65 v66 v67 v68 v69 v70 v71 v72 v73 v74 v75)) (fun (j1 : Int → Int → Int → Int → Int → Int → Int → Int → Int → Int → Int → Int → Int → Int → Int → Int → Int → Int → Int → Int → Int → Int → Option A22_Int) => style_Initial_L0 j1 n 0 0 0 0 0 0 0 0 0 0 0 0 0 0 0 0 0 0 0 0 0 0 0))
theorem style_Initial_ok  (n : Nat)  (r : A22_Int) (h : style_Initial n  = some r) : FnD E 13 0 [] [] (.agg [I r.x0, I r.x1, I r.x2, I r.x3, I r.x4, I r.x5, I r.x6, I r.x7, I r.x8, I r.x9, I r.x10, I r.x11, I r.x12, I r.x13, I r.x14, I r.x15, I r.x16, I r.x17, I r.x18, I r.x19, I r.x20, I r.x21]) [] := by
  refine zfn Tryd.func13 rfl ?_
  unfold style_Initial at h
  refine za [0] ?_
  refine za [0, 1] ?_
  refine aw_join h (fun A j => ∀ v54 v55 v56 v57 v58 v59 v60 v61 v62 v63 v64 v65 v66 v67 v68 v69 v70 v71 v72 v73 v74 v75, j v54 v55 v56 v57 v58 v59 v60 v61 v62 v63 v64 v65 v66 v67 v68 v69 v70 v71 v72 v73 v74 v75 = some r → A (mk [(0, .c (.ptr 0 0)), (1, .c (.ptr 1 0))] [(0, .blk 25 [I 0, I 0, I 0, I 0, I 0, I 0, I 0, I 0, I 0, I 0, I 0, I 0, I 0, I 0, I 0, I 0, I 0, I 0, I 0, I 0, I 0, I 0]), (1, .blk 25 [I v54, I v55, I v56, I v57, I v58, I v59, I v60, I v61, I v62, I v63, I v64, I v65, I v66, I v67, I v68, I v69, I v70, I v71, I v72, I v73, I v74, I v75])] 2)) (fun v54 v55 v56 v57 v58 v59 v60 v61 v62 v63 v64 v65 v66 v67 v68 v69 v70 v71 v72 v73 v74 v75 h => ?_) (fun j1 Aj1 hj1 h => ?_)
  refine za [0] ?_
  cases h
  exact aw_ret zr
  refine za [0, 1, 4, 5] ?_
  refine aw_block ?_
  refine aw_loopJ (fun n s => ∃ v6 v7 v8 v9 v10 v11 v12 v13 v14 v15 v16 v17 v18 v19 v20 v21 v22 v23 v24 v25 v26 v27 v28, style_Initial_L0 j1 n v6 v7 v8 v9 v10 v11 v12 v13 v14 v15 v16 v17 v18 v19 v20 v21 v22 v23 v24 v25 v26 v27 v28 = some r ∧ s = mk [(0, .c (.ptr 0 0)), (1, .c (.ptr 1 0)), (4, .agg (List.flatten (List.map eGproperty tab_widgetry_style_properties))), (5, .c (I v6))] [(0, .blk 25 [I 0, I 0, I 0, I 0, I 0, I 0, I 0, I 0, I 0, I 0, I 0, I 0, I 0, I 0, I 0, I 0, I 0, I 0, I 0, I 0, I 0, I 0]), (1, .blk 25 [I v7, I v8, I v9, I v10, I v11, I v12, I v13, I v14, I v15, I v16, I v17, I v18, I v19, I v20, I v21, I v22, I v23, I v24, I v25, I v26, I v27, I v28])] 2) n _ (zv [(0, 0), (1, 1)] [0, 1, 4, 5] 2) ⟨_, _, _, _, _, _, _, _, _, _, _, _, _, _, _, _, _, _, _, _, _, _, _, h, rfl⟩ (fun s ⟨v6, v7, v8, v9, v10, v11, v12, v13, v14, v15, v16, v17, v18, v19, v20, v21, v22, v23, v24, v25, v26, v27, v28, h, _⟩ => nomatch h) ?_
  rintro n s ⟨v6, v7, v8, v9, v10, v11, v12, v13, v14, v15, v16, v17, v18, v19, v20, v21, v22, v23, v24, v25, v26, v27, v28, h, rfl⟩
  rw [style_Initial_L0] at h
  refine za [0, 1, 4, 5, 6] ?_
  refine aw_seq ?_
  refine zi h (fun h => ?_) fun h => ?_
  refine aw_skip ?_
  refine aw_seq ?_
  refine aw_block ?_
  refine zx fun _ => ?_
  refine zk 1 ?_
  obtain ⟨e29, he, h⟩ := bindE h
  refine rx_rd (v := .agg [Bo e29.inherited, I e29.low, I e29.high, I e29.start]) (foot := []) (rd_idxG (enc := eGproperty) (xs := tab_widgetry_style_properties) (ix := v6) (e := e29) (len := 22) (j := ⟨.st [(4, 0, 1), (3, 1, 1), (3, 2, 1), (3, 3, 1)], 4, 32, [.bool false, .int .i64 0, .int .i64 0, .int .i64 0]⟩) (v := .agg [Bo e29.inherited, I e29.low, I e29.high, I e29.start]) he (by kernel_rfl) (by kernel_rfl) (fun x => by kernel_rfl) (by decide) (by kernel_rfl)) (by kernel_rfl) rfl rfl ?_
  clear he
  refine zk 3 ?_
  refine ze [0, 1, 2, 3, 4, 5] ?_
  refine zy fun _ => ?_
  refine zk 3 ?_
  obtain ⟨k30, he, h⟩ := bindE h
  refine rx_rd (v := .c (.ptr 1 (0 + k30 * 1))) (foot := []) (rd_ia (n := 1) (q := 0) (len := 22) (sz := 1) (k := k30) (ix := v6) he (by kernel_rfl)) (by kernel_rfl) rfl rfl ?_
  have hb_k30 := inb_lt he; clear he
  refine rx_storeA (n := 1) (off := (0 + k30 * 1)) (T0 := 25) (sz := 1) (lx := [I e29.start]) (l := [I v7, I v8, I v9, I v10, I v11, I v12, I v13, I v14, I v15, I v16, I v17, I v18, I v19, I v20, I v21, I v22, I v23, I v24, I v25, I v26, I v27, I v28]) (l2 := [I ((A22_Int.set (A22_Int.mk v7 v8 v9 v10 v11 v12 v13 v14 v15 v16 v17 v18 v19 v20 v21 v22 v23 v24 v25 v26 v27 v28) k30 e29.start).x0), I ((A22_Int.set (A22_Int.mk v7 v8 v9 v10 v11 v12 v13 v14 v15 v16 v17 v18 v19 v20 v21 v22 v23 v24 v25 v26 v27 v28) k30 e29.start).x1), I ((A22_Int.set (A22_Int.mk v7 v8 v9 v10 v11 v12 v13 v14 v15 v16 v17 v18 v19 v20 v21 v22 v23 v24 v25 v26 v27 v28) k30 e29.start).x2), I ((A22_Int.set (A22_Int.mk v7 v8 v9 v10 v11 v12 v13 v14 v15 v16 v17 v18 v19 v20 v21 v22 v23 v24 v25 v26 v27 v28) k30 e29.start).x3), I ((A22_Int.set (A22_Int.mk v7 v8 v9 v10 v11 v12 v13 v14 v15 v16 v17 v18 v19 v20 v21 v22 v23 v24 v25 v26 v27 v28) k30 e29.start).x4), I ((A22_Int.set (A22_Int.mk v7 v8 v9 v10 v11 v12 v13 v14 v15 v16 v17 v18 v19 v20 v21 v22 v23 v24 v25 v26 v27 v28) k30 e29.start).x5), I ((A22_Int.set (A22_Int.mk v7 v8 v9 v10 v11 v12 v13 v14 v15 v16 v17 v18 v19 v20 v21 v22 v23 v24 v25 v26 v27 v28) k30 e29.start).x6), I ((A22_Int.set (A22_Int.mk v7 v8 v9 v10 v11 v12 v13 v14 v15 v16 v17 v18 v19 v20 v21 v22 v23 v24 v25 v26 v27 v28) k30 e29.start).x7), I ((A22_Int.set (A22_Int.mk v7 v8 v9 v10 v11 v12 v13 v14 v15 v16 v17 v18 v19 v20 v21 v22 v23 v24 v25 v26 v27 v28) k30 e29.start).x8), I ((A22_Int.set (A22_Int.mk v7 v8 v9 v10 v11 v12 v13 v14 v15 v16 v17 v18 v19 v20 v21 v22 v23 v24 v25 v26 v27 v28) k30 e29.start).x9), I ((A22_Int.set (A22_Int.mk v7 v8 v9 v10 v11 v12 v13 v14 v15 v16 v17 v18 v19 v20 v21 v22 v23 v24 v25 v26 v27 v28) k30 e29.start).x10), I ((A22_Int.set (A22_Int.mk v7 v8 v9 v10 v11 v12 v13 v14 v15 v16 v17 v18 v19 v20 v21 v22 v23 v24 v25 v26 v27 v28) k30 e29.start).x11), I ((A22_Int.set (A22_Int.mk v7 v8 v9 v10 v11 v12 v13 v14 v15 v16 v17 v18 v19 v20 v21 v22 v23 v24 v25 v26 v27 v28) k30 e29.start).x12), I ((A22_Int.set (A22_Int.mk v7 v8 v9 v10 v11 v12 v13 v14 v15 v16 v17 v18 v19 v20 v21 v22 v23 v24 v25 v26 v27 v28) k30 e29.start).x13), I ((A22_Int.set (A22_Int.mk v7 v8 v9 v10 v11 v12 v13 v14 v15 v16 v17 v18 v19 v20 v21 v22 v23 v24 v25 v26 v27 v28) k30 e29.start).x14), I ((A22_Int.set (A22_Int.mk v7 v8 v9 v10 v11 v12 v13 v14 v15 v16 v17 v18 v19 v20 v21 v22 v23 v24 v25 v26 v27 v28) k30 e29.start).x15), I ((A22_Int.set (A22_Int.mk v7 v8 v9 v10 v11 v12 v13 v14 v15 v16 v17 v18 v19 v20 v21 v22 v23 v24 v25 v26 v27 v28) k30 e29.start).x16), I ((A22_Int.set (A22_Int.mk v7 v8 v9 v10 v11 v12 v13 v14 v15 v16 v17 v18 v19 v20 v21 v22 v23 v24 v25 v26 v27 v28) k30 e29.start).x17), I ((A22_Int.set (A22_Int.mk v7 v8 v9 v10 v11 v12 v13 v14 v15 v16 v17 v18 v19 v20 v21 v22 v23 v24 v25 v26 v27 v28) k30 e29.start).x18), I ((A22_Int.set (A22_Int.mk v7 v8 v9 v10 v11 v12 v13 v14 v15 v16 v17 v18 v19 v20 v21 v22 v23 v24 v25 v26 v27 v28) k30 e29.start).x19), I ((A22_Int.set (A22_Int.mk v7 v8 v9 v10 v11 v12 v13 v14 v15 v16 v17 v18 v19 v20 v21 v22 v23 v24 v25 v26 v27 v28) k30 e29.start).x20), I ((A22_Int.set (A22_Int.mk v7 v8 v9 v10 v11 v12 v13 v14 v15 v16 v17 v18 v19 v20 v21 v22 v23 v24 v25 v26 v27 v28) k30 e29.start).x21)]) (by kernel_rfl) (by kernel_rfl) (by simp only [List.length_cons, List.length_nil]; omega) (by rw [Nat.zero_add]; exact A22_Int.splice_eq (A22_Int.mk v7 v8 v9 v10 v11 v12 v13 v14 v15 v16 v17 v18 v19 v20 v21 v22 v23 v24 v25 v26 v27 v28) k30 e29.start hb_k30) (by kernel_rfl) rfl rfl ?_
  refine x_last ?_
  refine aw_out ?_
  refine zb ?_
  exact via (zv [(0, 0), (1, 1)] [0, 1, 4, 5] 2) (⟨_, _, _, _, _, _, _, _, _, _, _, _, _, _, _, _, _, _, _, _, _, _, _, h, rfl⟩)
  exact aw_views (zv [(0, 0), (1, 1)] [0, 1] 2) (aw_exit (hj1 _ _ _ _ _ _ _ _ _ _ _ _ _ _ _ _ _ _ _ _ _ _ h))
def ref13_Key_L0 (p0 : ByteArray) (j1 : Unit → Option Bool) : Nat → Int → Option Bool
  | 0, _ => none
  | n + 1, v3 => (if (decide (v3 < (ByteArray.size p0 : Int))) = true then (sidx p0 v3).bind fun (u4 : Int) => (if ((((((decide (u4 < 97)) || (decide (u4 > 122))) && ((decide (u4 < 65)) || (decide (u4 > 90)))) && ((decide (u4 < 48)) || (decide (u4 > 57)))) && (u4 != 45)) && (u4 != 95)) = true then some false else ref13_Key_L0 p0 j1 n (IntKind.wrap .i64 (v3 + 1))) else j1 ())
def ref13_Key  (n : Nat) (p0 : ByteArray) : Option Bool := (withJ (fun (_ : Unit) => some (decide ((ByteArray.size p0 : Int) ≤ 24))) (fun (j1 : Unit → Option Bool) => ref13_Key_L0 p0 j1 n 0))
theorem ref13_Key_ok  (n : Nat) (p0 : ByteArray) (r : Bool) (h : ref13_Key n p0 = some r) : FnD E 89 0 [.c (Sx p0)] [] (.c (Bo r)) [] := by
  refine zfn Tryd.func89 rfl ?_
  unfold ref13_Key at h
  refine za [0] ?_
  refine aw_join h (fun A j => ∀ u, j u = some r → A (mk [(0, .c (Sx p0))] [] 0)) (fun u h => ?_) (fun j1 Aj1 hj1 h => ?_)
  refine za [2] ?_
  cases h
  exact aw_ret zr
  refine za [0, 3] ?_
  refine aw_block ?_
  refine aw_loopJ (fun n s => ∃ v3, ref13_Key_L0 p0 j1 n v3 = some r ∧ s = mk [(0, .c (Sx p0)), (3, .c (I v3))] [] 0) n _ (zv [] [0, 3] 0) ⟨_, h, rfl⟩ (fun s ⟨v3, h, _⟩ => nomatch h) ?_
  rintro n s ⟨v3, h, rfl⟩
  rw [ref13_Key_L0] at h
  refine aw_seq ?_
  refine za [0, 3, 8] ?_
  refine zi h (fun h => ?_) fun h => ?_
  refine aw_skip ?_
  refine aw_seq ?_
  refine aw_block ?_
  refine zx fun _ => ?_
  refine zk 2 ?_
  obtain ⟨u4, he, h⟩ := bindE h
  refine zs he ?_
  clear he
  refine zk 1 ?_
  refine ze [0, 3, 4] ?_
  refine zx fun _ => ?_
  refine zk 3 ?_
  refine zE (.c (U8 u4)) ?_
  refine zE (.c (Bo (decide (u4 > 122)))) ?_
  refine zP (.bool ((decide (u4 < 97)) || (decide (u4 > 122)))) ?_
  refine zk 1 ?_
  refine zE (.c (U8 u4)) ?_
  refine zE (.c (Bo (decide (u4 < 65)))) ?_
  refine zF [((decide (u4 < 97)) || (decide (u4 > 122)))] (.c (Bo (decide (u4 < 65)))) ?_
  refine zE (.c (U8 u4)) ?_
  refine zE (.c (Bo (decide (u4 > 90)))) ?_
  refine zP (.bool ((decide (u4 < 65)) || (decide (u4 > 90)))) ?_
  refine zP (.bool (((decide (u4 < 97)) || (decide (u4 > 122))) && ((decide (u4 < 65)) || (decide (u4 > 90))))) ?_
  refine zk 1 ?_
  refine zE (.c (U8 u4)) ?_
  refine zE (.c (Bo (decide (u4 < 48)))) ?_
  refine zF [(((decide (u4 < 97)) || (decide (u4 > 122))) && ((decide (u4 < 65)) || (decide (u4 > 90))))] (.c (Bo (decide (u4 < 48)))) ?_
  refine zE (.c (U8 u4)) ?_
  refine zE (.c (Bo (decide (u4 > 57)))) ?_
  refine zP (.bool ((decide (u4 < 48)) || (decide (u4 > 57)))) ?_
  refine zP (.bool ((((decide (u4 < 97)) || (decide (u4 > 122))) && ((decide (u4 < 65)) || (decide (u4 > 90)))) && ((decide (u4 < 48)) || (decide (u4 > 57))))) ?_
  refine zke 1 (L' := [(0, .c (Sx p0)), (3, .c (I v3)), (4, .c (U8 u4)), (14, .c (U8 u4)), (15, .c (Bo (decide (u4 < 97)))), (16, .c (Bo (decide (u4 < 97)))), (17, .cnd [(!(decide (u4 < 97)))] (.c (U8 u4))), (18, .cnd [(!(decide (u4 < 97)))] (.c (Bo (decide (u4 > 122))))), (19, .c (Bo ((decide (u4 < 97)) || (decide (u4 > 122))))), (20, .c (Bo ((decide (u4 < 97)) || (decide (u4 > 122))))), (21, .cnd [((decide (u4 < 97)) || (decide (u4 > 122)))] (.c (U8 u4))), (22, .cnd [((decide (u4 < 97)) || (decide (u4 > 122)))] (.c (Bo (decide (u4 < 65))))), (23, .cnd [((decide (u4 < 97)) || (decide (u4 > 122)))] (.c (Bo (decide (u4 < 65))))), (24, .cnd [((decide (u4 < 97)) || (decide (u4 > 122))), (!(decide (u4 < 65)))] (.c (U8 u4))), (25, .cnd [((decide (u4 < 97)) || (decide (u4 > 122))), (!(decide (u4 < 65)))] (.c (Bo (decide (u4 > 90))))), (26, .cnd [((decide (u4 < 97)) || (decide (u4 > 122)))] (.c (Bo ((decide (u4 < 65)) || (decide (u4 > 90)))))), (27, .c (Bo (((decide (u4 < 97)) || (decide (u4 > 122))) && ((decide (u4 < 65)) || (decide (u4 > 90)))))), (28, .c (Bo (((decide (u4 < 97)) || (decide (u4 > 122))) && ((decide (u4 < 65)) || (decide (u4 > 90)))))), (29, .cnd [(((decide (u4 < 97)) || (decide (u4 > 122))) && ((decide (u4 < 65)) || (decide (u4 > 90))))] (.c (U8 u4))), (30, .cnd [(((decide (u4 < 97)) || (decide (u4 > 122))) && ((decide (u4 < 65)) || (decide (u4 > 90))))] (.c (Bo (decide (u4 < 48))))), (31, .cnd [(((decide (u4 < 97)) || (decide (u4 > 122))) && ((decide (u4 < 65)) || (decide (u4 > 90))))] (.c (Bo (decide (u4 < 48))))), (32, .cnd [(((decide (u4 < 97)) || (decide (u4 > 122))) && ((decide (u4 < 65)) || (decide (u4 > 90)))), (!(decide (u4 < 48)))] (.c (U8 u4))), (33, .cnd [(((decide (u4 < 97)) || (decide (u4 > 122))) && ((decide (u4 < 65)) || (decide (u4 > 90)))), (!(decide (u4 < 48)))] (.c (Bo (decide (u4 > 57))))), (34, .cnd [(((decide (u4 < 97)) || (decide (u4 > 122))) && ((decide (u4 < 65)) || (decide (u4 > 90))))] (.c (Bo ((decide (u4 < 48)) || (decide (u4 > 57)))))), (35, .c (Bo ((((decide (u4 < 97)) || (decide (u4 > 122))) && ((decide (u4 < 65)) || (decide (u4 > 90)))) && ((decide (u4 < 48)) || (decide (u4 > 57)))))), (36, .c (Bo ((((decide (u4 < 97)) || (decide (u4 > 122))) && ((decide (u4 < 65)) || (decide (u4 > 90)))) && ((decide (u4 < 48)) || (decide (u4 > 57))))))]) (G' := []) (X' := []) ?_
  refine zE (.c (U8 u4)) ?_
  refine zE (.c (Bo (u4 != 45))) ?_
  refine zP (.bool (((((decide (u4 < 97)) || (decide (u4 > 122))) && ((decide (u4 < 65)) || (decide (u4 > 90)))) && ((decide (u4 < 48)) || (decide (u4 > 57)))) && (u4 != 45))) ?_
  refine zk 1 ?_
  refine zE (.c (U8 u4)) ?_
  refine zE (.c (Bo (u4 != 95))) ?_
  refine zP (.bool ((((((decide (u4 < 97)) || (decide (u4 > 122))) && ((decide (u4 < 65)) || (decide (u4 > 90)))) && ((decide (u4 < 48)) || (decide (u4 > 57)))) && (u4 != 45)) && (u4 != 95))) ?_
  refine ze [0, 3, 43] ?_
  refine zi h (fun h => ?_) fun h => ?_
  refine za [2] ?_
  cases h
  exact aw_ret zr
  refine aw_skip ?_
  refine aw_out ?_
  refine zb ?_
  exact via (zv [] [0, 3] 0) (⟨_, h, rfl⟩)
  exact aw_views (zv [] [0] 0) (aw_exit (hj1 _ h))
def ref14_Key  (n : Nat) (p0 : ByteArray) : Option Bool := (ref13_Key n p0).bind fun (y1 : Bool) => some y1
theorem ref14_Key_ok  (n : Nat) (p0 : ByteArray) (r : Bool) (h : ref14_Key n p0 = some r) : FnD E 76 0 [.c (Sx p0)] [] (.c (Bo r)) [] := by
  refine zfn Tryd.func76 rfl ?_
  unfold ref14_Key at h
  refine za [0] ?_
  refine zx fun _ => ?_
  refine zk 1 ?_
  obtain ⟨y1, he, h⟩ := bindE h
  refine zc fok89 (ref13_Key_ok n _ y1 he) ?_
  clear he
  refine zk 1 ?_
  refine ze [2] ?_
  cases h
  exact aw_ret zr
def ref11_letter  (n : Nat) (p0 : Int) : Option Bool := some (((decide (p0 ≥ 97)) && (decide (p0 ≤ 122))) || ((decide (p0 ≥ 65)) && (decide (p0 ≤ 90))))
theorem ref11_letter_ok  (n : Nat) (p0 : Int) (r : Bool) (h : ref11_letter n p0 = some r) : FnD E 49 0 [.c (U8 p0)] [] (.c (Bo r)) [] := by
  refine zfn Tryd.func49 rfl ?_
  unfold ref11_letter at h
  refine za [0] ?_
  refine zx fun _ => ?_
  refine zk 3 ?_
  refine zE (.c (U8 p0)) ?_
  refine zE (.c (Bo (decide (p0 ≤ 122)))) ?_
  refine zP (.bool ((decide (p0 ≥ 97)) && (decide (p0 ≤ 122)))) ?_
  refine zk 1 ?_
  refine zE (.c (U8 p0)) ?_
  refine zE (.c (Bo (decide (p0 ≥ 65)))) ?_
  refine zF [(!((decide (p0 ≥ 97)) && (decide (p0 ≤ 122))))] (.c (Bo (decide (p0 ≥ 65)))) ?_
  refine zE (.c (U8 p0)) ?_
  refine zE (.c (Bo (decide (p0 ≤ 90)))) ?_
  refine zP (.bool ((decide (p0 ≥ 65)) && (decide (p0 ≤ 90)))) ?_
  refine zP (.bool (((decide (p0 ≥ 97)) && (decide (p0 ≤ 122))) || ((decide (p0 ≥ 65)) && (decide (p0 ≤ 90))))) ?_
  refine zk 1 ?_
  refine zee [2] (L2 := [(2, .c (Bo (((decide (p0 ≥ 97)) && (decide (p0 ≤ 122))) || ((decide (p0 ≥ 65)) && (decide (p0 ≤ 90))))))]) (G2 := []) 16 ?_
  cases h
  exact aw_ret zr
def ref11_Name_L0 (p0 : ByteArray) (j3 : Unit → Option Bool) : Nat → Int → Option Bool
  | 0, _ => none
  | n + 1, v10 => (if (decide (v10 < (ByteArray.size p0 : Int))) = true then (sidx p0 v10).bind fun (u11 : Int) => (ref11_letter n u11).bind fun (y12 : Bool) => (gd [(!y12)] (sidx p0 v10)).bind fun (u13 : Int) => (gd [(!y12), (!(decide (u13 < 48)))] (sidx p0 v10)).bind fun (u14 : Int) => (gd [((!y12) && ((decide (u13 < 48)) || (decide (u14 > 57))))] (sidx p0 v10)).bind fun (u15 : Int) => (gd [(((!y12) && ((decide (u13 < 48)) || (decide (u14 > 57)))) && (u15 != 45))] (sidx p0 v10)).bind fun (u16 : Int) => (if ((((!y12) && ((decide (u13 < 48)) || (decide (u14 > 57)))) && (u15 != 45)) && (u16 != 95)) = true then some false else ref11_Name_L0 p0 j3 n (IntKind.wrap .i64 (v10 + 1))) else j3 ())
def ref11_Name  (n : Nat) (p0 : ByteArray) : Option Bool := (gd [(!((decide ((ByteArray.size p0 : Int) < 1)) || (decide ((ByteArray.size p0 : Int) > 24))))] (sidx p0 0)).bind fun (u1 : Int) => (gd [(!((decide ((ByteArray.size p0 : Int) < 1)) || (decide ((ByteArray.size p0 : Int) > 24))))] (ref11_letter n u1)).bind fun (y2 : Bool) => (if (((decide ((ByteArray.size p0 : Int) < 1)) || (decide ((ByteArray.size p0 : Int) > 24))) || (!y2)) = true then some false else (withJ (fun (_ : Unit) => some true) (fun (j3 : Unit → Option Bool) => ref11_Name_L0 p0 j3 n 1)))
theorem ref11_Name_ok  (n : Nat) (p0 : ByteArray) (r : Bool) (h : ref11_Name n p0 = some r) : FnD E 31 0 [.c (Sx p0)] [] (.c (Bo r)) [] := by
  refine zfn Tryd.func31 rfl ?_
  unfold ref11_Name at h
  refine za [0] ?_
  refine aw_seq ?_
  refine zx fun _ => ?_
  refine zk 4 ?_
  refine zE (.c (Sx p0)) ?_
  refine zE (.c (I (ByteArray.size p0 : Int))) ?_
  refine zE (.c (Bo (decide ((ByteArray.size p0 : Int) > 24)))) ?_
  refine zP (.bool ((decide ((ByteArray.size p0 : Int) < 1)) || (decide ((ByteArray.size p0 : Int) > 24)))) ?_
  refine zk 1 ?_
  refine zE (.c (Sx p0)) ?_
  obtain ⟨u1, he, h⟩ := bindE h
  refine rx_E (e := [(!((decide ((ByteArray.size p0 : Int) < 1)) || (decide ((ByteArray.size p0 : Int) > 24))))]) [(13, .c (Sx p0), some 1)] (v := .c (U8 u1)) (foot := []) (by kernel_rfl) (by kernel_rfl) (by kernel_rfl) (fun hg => rd_sidx (s := p0) (ix := 0) (gd_spec he hg) (by kernel_rfl)) rfl rfl ?_
  clear he
  obtain ⟨y2, he, h⟩ := bindE h
  refine zk1 [(!((decide ((ByteArray.size p0 : Int) < 1)) || (decide ((ByteArray.size p0 : Int) > 24))))] fok49 (fun hg => ref11_letter_ok n _ y2 (gd_spec he hg)) ?_
  clear he
  refine zE (.c (Bo (!y2))) ?_
  refine zP (.bool (((decide ((ByteArray.size p0 : Int) < 1)) || (decide ((ByteArray.size p0 : Int) > 24))) || (!y2))) ?_
  refine zee [0, 17] (L2 := [(0, .c (Sx p0)), (17, .c (Bo (((decide ((ByteArray.size p0 : Int) < 1)) || (decide ((ByteArray.size p0 : Int) > 24))) || (!y2))))]) (G2 := []) 15 ?_
  refine zi h (fun h => ?_) fun h => ?_
  refine za [2] ?_
  cases h
  exact aw_ret zr
  refine aw_skip ?_
  refine aw_join h (fun A j => ∀ u, j u = some r → A (mk [] [] 0)) (fun u h => ?_) (fun j3 Aj3 hj3 h => ?_)
  refine za [2] ?_
  cases h
  exact aw_ret zr
  refine za [0, 3] ?_
  refine aw_block ?_
  refine aw_loopJ (fun n s => ∃ v10, ref11_Name_L0 p0 j3 n v10 = some r ∧ s = mk [(0, .c (Sx p0)), (3, .c (I v10))] [] 0) n _ (zv [] [0, 3] 0) ⟨_, h, rfl⟩ (fun s ⟨v10, h, _⟩ => nomatch h) ?_
  rintro n s ⟨v10, h, rfl⟩
  rw [ref11_Name_L0] at h
  refine aw_seq ?_
  refine za [0, 3, 21] ?_
  refine zi h (fun h => ?_) fun h => ?_
  refine aw_skip ?_
  refine aw_seq ?_
  refine aw_block ?_
  refine zx fun _ => ?_
  refine zk 2 ?_
  obtain ⟨u11, he, h⟩ := bindE h
  refine zs he ?_
  clear he
  obtain ⟨y12, he, h⟩ := bindE h
  refine zc fok49 (ref11_letter_ok n _ y12 he) ?_
  clear he
  refine zk 2 ?_
  refine zE (.c (Sx p0)) ?_
  refine zE (.c (I v10)) ?_
  obtain ⟨u13, he, h⟩ := bindE h
  refine rx_E (e := [(!y12)]) [(30, .c (Sx p0), some 1), (31, .c (I v10), some 1)] (v := .c (U8 u13)) (foot := []) (by kernel_rfl) (by kernel_rfl) (by kernel_rfl) (fun hg => rd_sidx (s := p0) (ix := v10) (gd_spec he hg) (by kernel_rfl)) rfl rfl ?_
  clear he
  refine zE (.c (Bo (decide (u13 < 48)))) ?_
  refine zF [(!y12)] (.c (Bo (decide (u13 < 48)))) ?_
  refine zE (.c (Sx p0)) ?_
  refine zE (.c (I v10)) ?_
  obtain ⟨u14, he, h⟩ := bindE h
  refine rx_E (e := [(!y12), (!(decide (u13 < 48)))]) [(35, .c (Sx p0), some 2), (36, .c (I v10), some 2)] (v := .c (U8 u14)) (foot := []) (by kernel_rfl) (by kernel_rfl) (by kernel_rfl) (fun hg => rd_sidx (s := p0) (ix := v10) (gd_spec he hg) (by kernel_rfl)) rfl rfl ?_
  clear he
  refine zE (.c (Bo (decide (u14 > 57)))) ?_
  refine zP (.bool ((decide (u13 < 48)) || (decide (u14 > 57)))) ?_
  refine zP (.bool ((!y12) && ((decide (u13 < 48)) || (decide (u14 > 57))))) ?_
  refine zk 1 ?_
  refine zE (.c (Sx p0)) ?_
  refine zE (.c (I v10)) ?_
  obtain ⟨u15, he, h⟩ := bindE h
  refine rx_E (e := [((!y12) && ((decide (u13 < 48)) || (decide (u14 > 57))))]) [(42, .c (Sx p0), some 1), (43, .c (I v10), some 1)] (v := .c (U8 u15)) (foot := []) (by kernel_rfl) (by kernel_rfl) (by kernel_rfl) (fun hg => rd_sidx (s := p0) (ix := v10) (gd_spec he hg) (by kernel_rfl)) rfl rfl ?_
  clear he
  refine zE (.c (Bo (u15 != 45))) ?_
  refine zP (.bool (((!y12) && ((decide (u13 < 48)) || (decide (u14 > 57)))) && (u15 != 45))) ?_
  refine zke 1 (L' := [(0, .c (Sx p0)), (3, .c (I v10)), (21, .c (Bo (decide (v10 < (ByteArray.size p0 : Int))))), (24, .c (Sx p0)), (25, .c (I v10)), (26, .c (U8 u11)), (27, .c (Bo y12)), (28, .c (Bo (!y12))), (29, .c (Bo (!y12))), (30, .cnd [(!y12)] (.c (Sx p0))), (31, .cnd [(!y12)] (.c (I v10))), (32, .cnd [(!y12)] (.c (U8 u13))), (33, .cnd [(!y12)] (.c (Bo (decide (u13 < 48))))), (34, .cnd [(!y12)] (.c (Bo (decide (u13 < 48))))), (35, .cnd [(!y12), (!(decide (u13 < 48)))] (.c (Sx p0))), (36, .cnd [(!y12), (!(decide (u13 < 48)))] (.c (I v10))), (37, .cnd [(!y12), (!(decide (u13 < 48)))] (.c (U8 u14))), (38, .cnd [(!y12), (!(decide (u13 < 48)))] (.c (Bo (decide (u14 > 57))))), (39, .cnd [(!y12)] (.c (Bo ((decide (u13 < 48)) || (decide (u14 > 57)))))), (40, .c (Bo ((!y12) && ((decide (u13 < 48)) || (decide (u14 > 57)))))), (41, .c (Bo ((!y12) && ((decide (u13 < 48)) || (decide (u14 > 57)))))), (42, .cnd [((!y12) && ((decide (u13 < 48)) || (decide (u14 > 57))))] (.c (Sx p0))), (43, .cnd [((!y12) && ((decide (u13 < 48)) || (decide (u14 > 57))))] (.c (I v10))), (44, .cnd [((!y12) && ((decide (u13 < 48)) || (decide (u14 > 57))))] (.c (U8 u15))), (45, .cnd [((!y12) && ((decide (u13 < 48)) || (decide (u14 > 57))))] (.c (Bo (u15 != 45)))), (46, .c (Bo (((!y12) && ((decide (u13 < 48)) || (decide (u14 > 57)))) && (u15 != 45)))), (47, .c (Bo (((!y12) && ((decide (u13 < 48)) || (decide (u14 > 57)))) && (u15 != 45))))]) (G' := []) (X' := []) ?_
  refine zE (.c (Sx p0)) ?_
  refine zE (.c (I v10)) ?_
  obtain ⟨u16, he, h⟩ := bindE h
  refine rx_E (e := [(((!y12) && ((decide (u13 < 48)) || (decide (u14 > 57)))) && (u15 != 45))]) [(48, .c (Sx p0), some 1), (49, .c (I v10), some 1)] (v := .c (U8 u16)) (foot := []) (by kernel_rfl) (by kernel_rfl) (by kernel_rfl) (fun hg => rd_sidx (s := p0) (ix := v10) (gd_spec he hg) (by kernel_rfl)) rfl rfl ?_
  clear he
  refine zE (.c (Bo (u16 != 95))) ?_
  refine zP (.bool ((((!y12) && ((decide (u13 < 48)) || (decide (u14 > 57)))) && (u15 != 45)) && (u16 != 95))) ?_
  refine ze [0, 3, 52] ?_
  refine zi h (fun h => ?_) fun h => ?_
  refine za [2] ?_
  cases h
  exact aw_ret zr
  refine aw_skip ?_
  refine aw_out ?_
  refine zb ?_
  exact via (zv [] [0, 3] 0) (⟨_, h, rfl⟩)
  exact aw_views (zv [] [] 0) (aw_exit (hj3 _ h))
def ref11_UTF8  (n : Nat) (p0 : ByteArray) : Option Bool := (runesO p0).bind fun (l1 : List Int) => some (sEq (runesBytes l1) p0)
theorem ref11_UTF8_ok  (n : Nat) (p0 : ByteArray) (r : Bool) (h : ref11_UTF8 n p0 = some r) : FnD E 102 0 [.c (Sx p0)] [] (.c (Bo r)) [] := by
  refine zfn Tryd.func102 rfl ?_
  unfold ref11_UTF8 at h
  refine za [0] ?_
  refine zx fun _ => ?_
  refine zk 1 ?_
  obtain ⟨l1, he, h⟩ := bindE h
  refine rx_O (v := .c (.lit (List.map eI32 l1))) (foot := []) (opW_runes (s := p0) he (by kernel_rfl)) (by kernel_rfl) rfl rfl ?_
  clear he
  refine zw (v := .c (Sx (runesBytes l1))) [] (rdW_runesText (ns := l1) (by kernel_rfl)) ?_
  refine zk 3 ?_
  refine ze [2] ?_
  cases h
  exact aw_ret zr
def ref11_join_body (self_ref11_join : GType → GType → Option (GType × Bool)) (n : Nat) (p0 : GType) (p1 : GType) : Option (GType × Bool) := (if (p0.Kind != p1.Kind) = true then some ((GType.mk 0 ([] : List GType)), false) else (if ((List.length p0.Of : Int) == 0) = true then some (p1, true) else (if ((List.length p1.Of : Int) == 0) = true then some (p0, true) else (idx p0.Of 0).bind fun (e1 : GType) => (idx p1.Of 0).bind fun (e2 : GType) => (self_ref11_join e1 e2).bind fun (y3 : (GType × Bool)) => (if (!y3.2) = true then some ((GType.mk 0 ([] : List GType)), false) else some ((GType.mk p0.Kind [y3.1]), true)))))
theorem ref11_join_body_ok (self_ref11_join : GType → GType → Option (GType × Bool)) (ih_ref11_join : ∀ (p0 : GType) (p1 : GType) (r : (GType × Bool)), self_ref11_join p0 p1 = some r → FnD E 103 0 [.agg [I p0.Kind, .lit (List.map eGType p0.Of)], .agg [I p1.Kind, .lit (List.map eGType p1.Of)]] [] (.tup [.agg [I r.1.Kind, .lit (List.map eGType r.1.Of)], .c (Bo r.2)]) []) (n : Nat) (p0 : GType) (p1 : GType) (r : (GType × Bool)) (h : ref11_join_body self_ref11_join n p0 p1 = some r) : FnD E 103 0 [.agg [I p0.Kind, .lit (List.map eGType p0.Of)], .agg [I p1.Kind, .lit (List.map eGType p1.Of)]] [] (.tup [.agg [I r.1.Kind, .lit (List.map eGType r.1.Of)], .c (Bo r.2)]) [] := by
  refine zfn Tryd.func103 rfl ?_
  unfold ref11_join_body at h
  refine za [2, 3, 4] ?_
  refine aw_seq ?_
  refine za [2, 3, 4, 12] ?_
  refine zi h (fun h => ?_) fun h => ?_
  refine za [4, 5] ?_
  cases h
  exact aw_ret zr
  refine aw_skip ?_
  refine aw_seq ?_
  refine zx fun _ => ?_
  refine zk 2 ?_
  refine zl eGType p0.Of ?_
  refine zk 1 ?_
  refine ze [2, 3, 4, 17] ?_
  refine zi h (fun h => ?_) fun h => ?_
  refine za [4, 5] ?_
  cases h
  exact aw_ret zr
  refine aw_skip ?_
  refine aw_seq ?_
  refine zx fun _ => ?_
  refine zk 2 ?_
  refine zl eGType p1.Of ?_
  refine zk 1 ?_
  refine ze [2, 3, 4, 22] ?_
  refine zi h (fun h => ?_) fun h => ?_
  refine za [4, 5] ?_
  cases h
  exact aw_ret zr
  refine aw_skip ?_
  refine zdx [[], [0], [1, 0], [2, 1, 0], [], [4], [5, 4], [6, 5, 4], [3, 7, 2, 1, 0, 6, 5, 4], [8, 3, 7, 2, 1, 0, 6, 5, 4], [9, 8, 3, 7, 2, 1, 0, 6, 5, 4], [9, 8, 3, 7, 2, 1, 0, 6, 5, 4], [], [12, 10, 8, 0, 1, 2, 3, 4, 5, 6, 7, 9], [11, 13, 0, 1, 2, 3, 4, 5, 6, 7, 8, 9, 10, 12]] fun _ => ?_
  refine zk 2 ?_
  obtain ⟨e1, he, h⟩ := bindE h
  refine rx_rd (v := .c (.imm [I e1.Kind, .lit (List.map eGType e1.Of)])) (foot := []) (rd_idx (enc := eGType) (sz := 2) (l := p0.Of) (ix := 0) he (by kernel_rfl) (eGType_eq e1) (by kernel_rfl)) (by kernel_rfl) rfl rfl ?_
  clear he
  refine zk 3 ?_
  obtain ⟨e2, he, h⟩ := bindE h
  refine rx_rd (v := .c (.imm [I e2.Kind, .lit (List.map eGType e2.Of)])) (foot := []) (rd_idx (enc := eGType) (sz := 2) (l := p1.Of) (ix := 0) he (by kernel_rfl) (eGType_eq e2) (by kernel_rfl)) (by kernel_rfl) rfl rfl ?_
  clear he
  refine zk 1 ?_
  obtain ⟨y3, he, h⟩ := bindE h
  refine zc fok103 (ih_ref11_join _ _ y3 he) ?_
  clear he
  refine zk 6 ?_
  refine zee [2, 4, 6, 7] (L2 := [(2, .c (.ptr 0 0)), (4, .c (.ptr 2 0)), (6, .c (.ptr 29 0)), (7, .c (Bo y3.2))]) (G2 := [(0, .blk 163 [I p0.Kind, .lit (List.map eGType p0.Of)]), (1, .blk 163 [I p1.Kind, .lit (List.map eGType p1.Of)]), (2, .blk 163 [I 0, NilS]), (29, .blk 163 [I y3.1.Kind, .lit (List.map eGType y3.1.Of)])]) 32 ?_
  refine aw_seq ?_
  refine za [2, 4, 6, 37] ?_
  refine zi h (fun h => ?_) fun h => ?_
  refine za [4, 5] ?_
  cases h
  exact aw_ret zr
  refine aw_skip ?_
  refine zx fun _ => ?_
  refine zk 3 ?_
  refine rx_bs (e := 163) (sz := 2) (len := 1) (r := [I y3.1.Kind, .lit (List.map eGType y3.1.Of)]) (l' := List.map eGType [y3.1]) (nm := 37) (by kernel_rfl) (by simp only [List.map_cons, List.map_nil, eGType_eq]; kernel_rfl) (by kernel_rfl) (by kernel_rfl) rfl rfl rfl ?_
  refine zk 3 ?_
  refine ze [4, 5] ?_
  cases h
  exact aw_ret zr
def ref11_join : Nat → GType → GType → Option (GType × Bool)
  | 0, _, _ => none
  | n + 1, p0, p1 => ref11_join_body (fun a0 a1 => ref11_join n a0 a1) n p0 p1
theorem ref11_join_ok (n : Nat) : (∀ (p0 : GType) (p1 : GType) (r : (GType × Bool)), ref11_join n p0 p1 = some r → FnD E 103 0 [.agg [I p0.Kind, .lit (List.map eGType p0.Of)], .agg [I p1.Kind, .lit (List.map eGType p1.Of)]] [] (.tup [.agg [I r.1.Kind, .lit (List.map eGType r.1.Of)], .c (Bo r.2)]) []) := by
  induction n with
  | zero => intro p0 p1 r h; rw [ref11_join] at h; cases h
  | succ n ih => intro p0 p1 r h; rw [ref11_join] at h; exact ref11_join_body_ok _ ih n _ _ r h
def ref11_check_L0 (p0 : GValue) (self_ref11_check : GValue → Int → Int → Option (GType × Int × Int)) (p1 : Int) (j2 : Int → Bool → List GType → Option (GType × Int × Int)) : Nat → Int → Bool → Int → List GType → Option (GType × Int × Int)
  | 0, _, _, _, _ => none
  | n + 1, v16, v17, v18, v19 => (if (decide (v18 < (List.length p0.L : Int))) = true then (withJ (fun (v25 : Bool) (v26 : Int) (v27 : List GType) => ref11_check_L0 p0 self_ref11_check p1 j2 n v26 v25 (IntKind.wrap .i64 (v18 + 1)) v27) (fun (j20 : Bool → Int → List GType → Option (GType × Int × Int)) => (idx p0.L v18).bind fun (e21 : GValue) => (self_ref11_check e21 (IntKind.wrap .i64 (p1 + 1)) v16).bind fun (y22 : (GType × Int × Int)) => (if (y22.2.2 != 0) = true then some ((GType.mk 0 ([] : List GType)), y22.2.1, y22.2.2) else (if (!v17) = true then j20 v17 y22.2.1 v19 else (if ((List.length v19 : Int) == 0) = true then j20 v17 y22.2.1 [y22.1] else (idx v19 0).bind fun (e23 : GType) => (ref11_join n e23 y22.1).bind fun (y24 : (GType × Bool)) => j20 y24.2 y22.2.1 [y24.1]))))) else j2 v16 v17 v19)
def ref11_check_body (self_ref11_check : GValue → Int → Int → Option (GType × Int × Int)) (n : Nat) (p0 : GValue) (p1 : Int) (p2 : Int) : Option (GType × Int × Int) := (if ((p0.Kind == 4) && (decide (p1 > 16))) = true then some ((GType.mk 0 ([] : List GType)), (IntKind.wrap .i64 (p2 + 1)), 8) else (if (((((decide (p0.Kind < 1)) || (decide (p0.Kind > 4))) || (((p0.N != 0) && (p0.Kind != 1)) && (p0.Kind != 2))) || ((!(sEq p0.S (⟨#[]⟩ : ByteArray))) && (p0.Kind != 3))) || ((decide ((List.length p0.L : Int) > 0)) && (!(p0.Kind == 4)))) = true then some ((GType.mk 0 ([] : List GType)), (IntKind.wrap .i64 (p2 + 1)), 9) else (if (((p0.Kind == 1) && ((decide (p0.N < (-1099511627776 : Int))) || (decide (p0.N > 1099511627776)))) || (((p0.Kind == 2) && (p0.N != 0)) && (p0.N != 1))) = true then some ((GType.mk 0 ([] : List GType)), (IntKind.wrap .i64 (p2 + 1)), 1) else (if (((decide ((ByteArray.size p0.S : Int) > 2000)) || (decide ((List.length p0.L : Int) > 100))) || (decide ((IntKind.wrap .i64 (p2 + 1)) > 1000))) = true then some ((GType.mk 0 ([] : List GType)), (IntKind.wrap .i64 (p2 + 1)), 2) else (ref11_UTF8 n p0.S).bind fun (y1 : Bool) => (if (!y1) = true then some ((GType.mk 0 ([] : List GType)), (IntKind.wrap .i64 (p2 + 1)), 3) else (withJ (fun (v35 : Int) (v36 : Bool) (v37 : List GType) => (if (!v36) = true then some ((GType.mk 0 ([] : List GType)), v35, 5) else some ((GType.mk p0.Kind v37), v35, 0))) (fun (j2 : Int → Bool → List GType → Option (GType × Int × Int)) => ref11_check_L0 p0 self_ref11_check p1 j2 n (IntKind.wrap .i64 (p2 + 1)) true 0 ([] : List GType))))))))
theorem ref11_check_body_ok (self_ref11_check : GValue → Int → Int → Option (GType × Int × Int)) (ih_ref11_check : ∀ (p0 : GValue) (p1 : Int) (p2 : Int) (r : (GType × Int × Int)), self_ref11_check p0 p1 p2 = some r → FnD E 97 0 [.agg [I p0.Kind, I p0.N, Sx p0.S, .lit (List.map eGValue p0.L)], .c (I p1), .c (I p2)] [] (.tup [.agg [I r.1.Kind, .lit (List.map eGType r.1.Of)], .c (I r.2.1), .c (I r.2.2)]) []) (n : Nat) (p0 : GValue) (p1 : Int) (p2 : Int) (r : (GType × Int × Int)) (h : ref11_check_body self_ref11_check n p0 p1 p2 = some r) : FnD E 97 0 [.agg [I p0.Kind, I p0.N, Sx p0.S, .lit (List.map eGValue p0.L)], .c (I p1), .c (I p2)] [] (.tup [.agg [I r.1.Kind, .lit (List.map eGType r.1.Of)], .c (I r.2.1), .c (I r.2.2)]) [] := by
  refine zfn Tryd.func97 rfl ?_
  unfold ref11_check_body at h
  refine za [1, 2, 3, 6] ?_
  refine za [1, 2, 3, 6] ?_
  refine za [1, 2, 3, 6, 9] ?_
  refine aw_seq ?_
  refine zx fun _ => ?_
  refine zk 2 ?_
  refine zE (.c (I p1)) ?_
  refine zE (.c (Bo (decide (p1 > 16)))) ?_
  refine zP (.bool ((p0.Kind == 4) && (decide (p1 > 16)))) ?_
  refine ze [1, 2, 3, 6, 9, 27] ?_
  refine zi h (fun h => ?_) fun h => ?_
  refine za [6, 7, 8] ?_
  cases h
  exact aw_ret zr
  refine aw_skip ?_
  refine aw_seq ?_
  refine zx fun _ => ?_
  refine zk 4 ?_
  refine zE (.c (.ptr 0 0)) ?_
  refine zE (.c (I p0.Kind)) ?_
  refine zE (.c (Bo (decide (p0.Kind > 4)))) ?_
  refine zP (.bool ((decide (p0.Kind < 1)) || (decide (p0.Kind > 4)))) ?_
  refine zk 1 ?_
  refine zE (.c (.ptr 0 1)) ?_
  refine zE (.c (I p0.N)) ?_
  refine zE (.c (Bo (p0.N != 0))) ?_
  refine zF [(!((decide (p0.Kind < 1)) || (decide (p0.Kind > 4))))] (.c (Bo (p0.N != 0))) ?_
  refine zE (.c (.ptr 0 0)) ?_
  refine zE (.c (I p0.Kind)) ?_
  refine zE (.c (Bo (p0.Kind != 1))) ?_
  refine zP (.bool ((p0.N != 0) && (p0.Kind != 1))) ?_
  refine zF [(!((decide (p0.Kind < 1)) || (decide (p0.Kind > 4))))] (.c (Bo ((p0.N != 0) && (p0.Kind != 1)))) ?_
  refine zE (.c (.ptr 0 0)) ?_
  refine zE (.c (I p0.Kind)) ?_
  refine zE (.c (Bo (p0.Kind != 2))) ?_
  refine zP (.bool (((p0.N != 0) && (p0.Kind != 1)) && (p0.Kind != 2))) ?_
  refine zP (.bool (((decide (p0.Kind < 1)) || (decide (p0.Kind > 4))) || (((p0.N != 0) && (p0.Kind != 1)) && (p0.Kind != 2)))) ?_
  refine zke 1 (L' := [(1, .c (I p1)), (2, .c (I (IntKind.wrap .i64 (p2 + 1)))), (3, .c (.ptr 0 0)), (6, .c (.ptr 1 0)), (9, .c (Bo (p0.Kind == 4))), (27, .c (Bo ((p0.Kind == 4) && (decide (p1 > 16))))), (30, .c (.ptr 0 0)), (31, .c (I p0.Kind)), (32, .c (Bo (decide (p0.Kind < 1)))), (33, .c (Bo (decide (p0.Kind < 1)))), (34, .cnd [(!(decide (p0.Kind < 1)))] (.c (.ptr 0 0))), (35, .cnd [(!(decide (p0.Kind < 1)))] (.c (I p0.Kind))), (36, .cnd [(!(decide (p0.Kind < 1)))] (.c (Bo (decide (p0.Kind > 4))))), (37, .c (Bo ((decide (p0.Kind < 1)) || (decide (p0.Kind > 4))))), (38, .c (Bo ((decide (p0.Kind < 1)) || (decide (p0.Kind > 4))))), (39, .cnd [(!((decide (p0.Kind < 1)) || (decide (p0.Kind > 4))))] (.c (.ptr 0 1))), (40, .cnd [(!((decide (p0.Kind < 1)) || (decide (p0.Kind > 4))))] (.c (I p0.N))), (41, .cnd [(!((decide (p0.Kind < 1)) || (decide (p0.Kind > 4))))] (.c (Bo (p0.N != 0)))), (42, .cnd [(!((decide (p0.Kind < 1)) || (decide (p0.Kind > 4))))] (.c (Bo (p0.N != 0)))), (43, .cnd [(!((decide (p0.Kind < 1)) || (decide (p0.Kind > 4)))), (p0.N != 0)] (.c (.ptr 0 0))), (44, .cnd [(!((decide (p0.Kind < 1)) || (decide (p0.Kind > 4)))), (p0.N != 0)] (.c (I p0.Kind))), (45, .cnd [(!((decide (p0.Kind < 1)) || (decide (p0.Kind > 4)))), (p0.N != 0)] (.c (Bo (p0.Kind != 1)))), (46, .cnd [(!((decide (p0.Kind < 1)) || (decide (p0.Kind > 4))))] (.c (Bo ((p0.N != 0) && (p0.Kind != 1))))), (47, .cnd [(!((decide (p0.Kind < 1)) || (decide (p0.Kind > 4))))] (.c (Bo ((p0.N != 0) && (p0.Kind != 1))))), (48, .cnd [(!((decide (p0.Kind < 1)) || (decide (p0.Kind > 4)))), ((p0.N != 0) && (p0.Kind != 1))] (.c (.ptr 0 0))), (49, .cnd [(!((decide (p0.Kind < 1)) || (decide (p0.Kind > 4)))), ((p0.N != 0) && (p0.Kind != 1))] (.c (I p0.Kind))), (50, .cnd [(!((decide (p0.Kind < 1)) || (decide (p0.Kind > 4)))), ((p0.N != 0) && (p0.Kind != 1))] (.c (Bo (p0.Kind != 2)))), (51, .cnd [(!((decide (p0.Kind < 1)) || (decide (p0.Kind > 4))))] (.c (Bo (((p0.N != 0) && (p0.Kind != 1)) && (p0.Kind != 2))))), (52, .c (Bo (((decide (p0.Kind < 1)) || (decide (p0.Kind > 4))) || (((p0.N != 0) && (p0.Kind != 1)) && (p0.Kind != 2))))), (53, .c (Bo (((decide (p0.Kind < 1)) || (decide (p0.Kind > 4))) || (((p0.N != 0) && (p0.Kind != 1)) && (p0.Kind != 2)))))]) (G' := [(0, .blk 70 [I p0.Kind, I p0.N, Sx p0.S, .lit (List.map eGValue p0.L)]), (1, .blk 163 [I 0, NilS])]) (X' := []) ?_
  refine zE (.c (.ptr 0 2)) ?_
  refine zE (.c (Sx p0.S)) ?_
  refine zE (.c (Bo (!(sEq p0.S (⟨#[]⟩ : ByteArray))))) ?_
  refine zF [(!(((decide (p0.Kind < 1)) || (decide (p0.Kind > 4))) || (((p0.N != 0) && (p0.Kind != 1)) && (p0.Kind != 2))))] (.c (Bo (!(sEq p0.S (⟨#[]⟩ : ByteArray))))) ?_
  refine zE (.c (.ptr 0 0)) ?_
  refine zE (.c (I p0.Kind)) ?_
  refine zE (.c (Bo (p0.Kind != 3))) ?_
  refine zP (.bool ((!(sEq p0.S (⟨#[]⟩ : ByteArray))) && (p0.Kind != 3))) ?_
  refine zP (.bool ((((decide (p0.Kind < 1)) || (decide (p0.Kind > 4))) || (((p0.N != 0) && (p0.Kind != 1)) && (p0.Kind != 2))) || ((!(sEq p0.S (⟨#[]⟩ : ByteArray))) && (p0.Kind != 3)))) ?_
  refine zk 1 ?_
  refine zE (.c (.ptr 0 3)) ?_
  refine zE (.c (.lit (List.map eGValue p0.L))) ?_
  refine rx_E (e := [(!((((decide (p0.Kind < 1)) || (decide (p0.Kind > 4))) || (((p0.N != 0) && (p0.Kind != 1)) && (p0.Kind != 2))) || ((!(sEq p0.S (⟨#[]⟩ : ByteArray))) && (p0.Kind != 3))))]) [(65, .c (.lit (List.map eGValue p0.L)), some 1)] (v := .c (I (List.length p0.L : Int))) (foot := []) (by kernel_rfl) (by kernel_rfl) (by kernel_rfl) (fun hg => rd_len (enc := eGValue) (l := p0.L) (by kernel_rfl)) rfl rfl ?_
  refine zE (.c (Bo (decide ((List.length p0.L : Int) > 0)))) ?_
  refine zF [(!((((decide (p0.Kind < 1)) || (decide (p0.Kind > 4))) || (((p0.N != 0) && (p0.Kind != 1)) && (p0.Kind != 2))) || ((!(sEq p0.S (⟨#[]⟩ : ByteArray))) && (p0.Kind != 3))))] (.c (Bo (decide ((List.length p0.L : Int) > 0)))) ?_
  refine zE (.c (Bo (p0.Kind == 4))) ?_
  refine zE (.c (Bo (!(p0.Kind == 4)))) ?_
  refine zP (.bool ((decide ((List.length p0.L : Int) > 0)) && (!(p0.Kind == 4)))) ?_
  refine zP (.bool (((((decide (p0.Kind < 1)) || (decide (p0.Kind > 4))) || (((p0.N != 0) && (p0.Kind != 1)) && (p0.Kind != 2))) || ((!(sEq p0.S (⟨#[]⟩ : ByteArray))) && (p0.Kind != 3))) || ((decide ((List.length p0.L : Int) > 0)) && (!(p0.Kind == 4))))) ?_
  refine zee [1, 2, 3, 6, 72] (L2 := [(1, .c (I p1)), (2, .c (I (IntKind.wrap .i64 (p2 + 1)))), (3, .c (.ptr 0 0)), (6, .c (.ptr 1 0)), (72, .c (Bo (((((decide (p0.Kind < 1)) || (decide (p0.Kind > 4))) || (((p0.N != 0) && (p0.Kind != 1)) && (p0.Kind != 2))) || ((!(sEq p0.S (⟨#[]⟩ : ByteArray))) && (p0.Kind != 3))) || ((decide ((List.length p0.L : Int) > 0)) && (!(p0.Kind == 4))))))]) (G2 := [(0, .blk 70 [I p0.Kind, I p0.N, Sx p0.S, .lit (List.map eGValue p0.L)]), (1, .blk 163 [I 0, NilS])]) 59 ?_
  refine zi h (fun h => ?_) fun h => ?_
  refine za [6, 7, 8] ?_
  cases h
  exact aw_ret zr
  refine aw_skip ?_
  refine aw_seq ?_
  refine zx fun _ => ?_
  refine zk 4 ?_
  refine zE (.c (.ptr 0 1)) ?_
  refine zE (.c (I p0.N)) ?_
  refine zE (.c (Bo (decide (p0.N < (-1099511627776 : Int))))) ?_
  refine zF [(p0.Kind == 1)] (.c (Bo (decide (p0.N < (-1099511627776 : Int))))) ?_
  refine zE (.c (.ptr 0 1)) ?_
  refine zE (.c (I p0.N)) ?_
  refine zE (.c (Bo (decide (p0.N > 1099511627776)))) ?_
  refine zP (.bool ((decide (p0.N < (-1099511627776 : Int))) || (decide (p0.N > 1099511627776)))) ?_
  refine zP (.bool ((p0.Kind == 1) && ((decide (p0.N < (-1099511627776 : Int))) || (decide (p0.N > 1099511627776))))) ?_
  refine zk 1 ?_
  refine zE (.c (.ptr 0 0)) ?_
  refine zE (.c (I p0.Kind)) ?_
  refine zE (.c (Bo (p0.Kind == 2))) ?_
  refine zF [(!((p0.Kind == 1) && ((decide (p0.N < (-1099511627776 : Int))) || (decide (p0.N > 1099511627776)))))] (.c (Bo (p0.Kind == 2))) ?_
  refine zE (.c (.ptr 0 1)) ?_
  refine zE (.c (I p0.N)) ?_
  refine zE (.c (Bo (p0.N != 0))) ?_
  refine zP (.bool ((p0.Kind == 2) && (p0.N != 0))) ?_
  refine zF [(!((p0.Kind == 1) && ((decide (p0.N < (-1099511627776 : Int))) || (decide (p0.N > 1099511627776)))))] (.c (Bo ((p0.Kind == 2) && (p0.N != 0)))) ?_
  refine zE (.c (.ptr 0 1)) ?_
  refine zE (.c (I p0.N)) ?_
  refine zE (.c (Bo (p0.N != 1))) ?_
  refine zP (.bool (((p0.Kind == 2) && (p0.N != 0)) && (p0.N != 1))) ?_
  refine zP (.bool (((p0.Kind == 1) && ((decide (p0.N < (-1099511627776 : Int))) || (decide (p0.N > 1099511627776)))) || (((p0.Kind == 2) && (p0.N != 0)) && (p0.N != 1)))) ?_
  refine zee [1, 2, 3, 6, 102] (L2 := [(1, .c (I p1)), (2, .c (I (IntKind.wrap .i64 (p2 + 1)))), (3, .c (.ptr 0 0)), (6, .c (.ptr 1 0)), (102, .c (Bo (((p0.Kind == 1) && ((decide (p0.N < (-1099511627776 : Int))) || (decide (p0.N > 1099511627776)))) || (((p0.Kind == 2) && (p0.N != 0)) && (p0.N != 1)))))]) (G2 := [(0, .blk 70 [I p0.Kind, I p0.N, Sx p0.S, .lit (List.map eGValue p0.L)]), (1, .blk 163 [I 0, NilS])]) 87 ?_
  refine zi h (fun h => ?_) fun h => ?_
  refine za [6, 7, 8] ?_
  cases h
  exact aw_ret zr
  refine aw_skip ?_
  refine aw_seq ?_
  refine zx fun _ => ?_
  refine zk 5 ?_
  refine zE (.c (.ptr 0 3)) ?_
  refine zE (.c (.lit (List.map eGValue p0.L))) ?_
  refine rx_E (e := [(!(decide ((ByteArray.size p0.S : Int) > 2000)))]) [(111, .c (.lit (List.map eGValue p0.L)), some 1)] (v := .c (I (List.length p0.L : Int))) (foot := []) (by kernel_rfl) (by kernel_rfl) (by kernel_rfl) (fun hg => rd_len (enc := eGValue) (l := p0.L) (by kernel_rfl)) rfl rfl ?_
  refine zE (.c (Bo (decide ((List.length p0.L : Int) > 100)))) ?_
  refine zP (.bool ((decide ((ByteArray.size p0.S : Int) > 2000)) || (decide ((List.length p0.L : Int) > 100)))) ?_
  refine zk 1 ?_
  refine zE (.c (I (IntKind.wrap .i64 (p2 + 1)))) ?_
  refine zE (.c (Bo (decide ((IntKind.wrap .i64 (p2 + 1)) > 1000)))) ?_
  refine zP (.bool (((decide ((ByteArray.size p0.S : Int) > 2000)) || (decide ((List.length p0.L : Int) > 100))) || (decide ((IntKind.wrap .i64 (p2 + 1)) > 1000)))) ?_
  refine zee [1, 2, 3, 6, 118] (L2 := [(1, .c (I p1)), (2, .c (I (IntKind.wrap .i64 (p2 + 1)))), (3, .c (.ptr 0 0)), (6, .c (.ptr 1 0)), (118, .c (Bo (((decide ((ByteArray.size p0.S : Int) > 2000)) || (decide ((List.length p0.L : Int) > 100))) || (decide ((IntKind.wrap .i64 (p2 + 1)) > 1000)))))]) (G2 := [(0, .blk 70 [I p0.Kind, I p0.N, Sx p0.S, .lit (List.map eGValue p0.L)]), (1, .blk 163 [I 0, NilS])]) 101 ?_
  refine zi h (fun h => ?_) fun h => ?_
  refine za [6, 7, 8] ?_
  cases h
  exact aw_ret zr
  refine aw_skip ?_
  refine aw_seq ?_
  refine zx fun _ => ?_
  refine zk 2 ?_
  obtain ⟨y1, he, h⟩ := bindE h
  refine zc fok102 (ref11_UTF8_ok n _ y1 he) ?_
  clear he
  refine zk 1 ?_
  refine ze [1, 2, 3, 6, 124] ?_
  refine zi h (fun h => ?_) fun h => ?_
  refine za [6, 7, 8] ?_
  cases h
  exact aw_ret zr
  refine aw_skip ?_
  refine za [1, 2, 3, 6, 10] ?_
  refine za [1, 2, 3, 6, 10, 11] ?_
  refine aw_join h (fun A j => ∀ v35 v36 v37, j v35 v36 v37 = some r → A (mk [(2, .c (I v35)), (6, .c (.ptr 0 0)), (10, .c (.ptr 1 0)), (11, .c (Bo v36))] [(0, .blk 163 [I 0, NilS]), (1, .blk 163 [I p0.Kind, .app 2 (List.map eGType v37)]), (2, .tok 163 2 (List.length v37))] 3)) (fun v35 v36 v37 h => ?_) (fun j2 Aj2 hj2 h => ?_)
  refine aw_seq ?_
  refine za [2, 6, 10, 179] ?_
  refine zi h (fun h => ?_) fun h => ?_
  refine za [6, 7, 8] ?_
  cases h
  exact aw_ret zr
  refine aw_skip ?_
  refine za [6, 7, 8] ?_
  cases h
  exact aw_ret zr
  refine za [1, 2, 3, 6, 10, 11, 12] ?_
  refine aw_block ?_
  refine aw_loopJ (fun n s => ∃ v16 v17 v18 v19, ref11_check_L0 p0 self_ref11_check p1 j2 n v16 v17 v18 v19 = some r ∧ s = mk [(1, .c (I p1)), (2, .c (I v16)), (3, .c (.ptr 0 0)), (6, .c (.ptr 1 0)), (10, .c (.ptr 2 0)), (11, .c (Bo v17)), (12, .c (I v18))] [(0, .blk 70 [I p0.Kind, I p0.N, Sx p0.S, .lit (List.map eGValue p0.L)]), (1, .blk 163 [I 0, NilS]), (2, .blk 163 [I p0.Kind, .app 3 (List.map eGType v19)]), (3, .tok 163 2 (List.length v19))] 4) n _ (Views.trans (view_nilC (n := 108) (T0 := 163) (l := [I p0.Kind, NilS]) (G2 := [(0, .blk 70 [I p0.Kind, I p0.N, Sx p0.S, .lit (List.map eGValue p0.L)]), (1, .blk 163 [I 0, NilS]), (108, .blk 163 [I p0.Kind, .app 112 (List.map eGType ([] : List GType))]), (112, .tok 163 2 (List.length ([] : List GType)))]) (lim2 := 113) 1 163 2 (by kernel_rfl) (by kernel_rfl) (by kernel_rfl) (by kernel_rfl)) (zv [(0, 0), (1, 1), (108, 2), (112, 3)] [1, 2, 3, 6, 10, 11, 12] 4)) ⟨_, _, _, _, h, rfl⟩ (fun s ⟨v16, v17, v18, v19, h, _⟩ => nomatch h) ?_
  rintro n s ⟨v16, v17, v18, v19, h, rfl⟩
  rw [ref11_check_L0] at h
  refine aw_seq ?_
  refine zx fun _ => ?_
  refine zk 3 ?_
  refine zl eGValue p0.L ?_
  refine zk 1 ?_
  refine ze [1, 2, 3, 6, 10, 11, 12, 134] ?_
  refine zi h (fun h => ?_) fun h => ?_
  refine aw_skip ?_
  refine aw_join h (fun A j => ∀ v25 v26 v27, j v25 v26 v27 = some r → A (mk [(1, .c (I p1)), (3, .c (.ptr 0 0)), (6, .c (.ptr 1 0)), (10, .c (.ptr 2 0)), (11, .c (Bo v25)), (12, .c (I v18)), (2, .c (I v26))] [(0, .blk 70 [I p0.Kind, I p0.N, Sx p0.S, .lit (List.map eGValue p0.L)]), (1, .blk 163 [I 0, NilS]), (2, .blk 163 [I p0.Kind, .app 3 (List.map eGType v27)]), (3, .tok 163 2 (List.length v27))] 4)) (fun v25 v26 v27 h => ?_) (fun j20 Aj20 hj20 h => ?_)
  refine aw_out ?_
  refine zb ?_
  exact via (zv [(0, 0), (1, 1), (2, 2), (3, 3)] [1, 2, 3, 6, 10, 11, 12] 4) (⟨_, _, _, _, h, rfl⟩)
  refine aw_block ?_
  refine zx fun _ => ?_
  refine zk 3 ?_
  obtain ⟨e21, he, h⟩ := bindE h
  refine rx_rd (v := .c (.imm [I e21.Kind, I e21.N, Sx e21.S, .lit (List.map eGValue e21.L)])) (foot := []) (rd_idx (enc := eGValue) (sz := 4) (l := p0.L) (ix := v18) he (by kernel_rfl) (eGValue_eq e21) (by kernel_rfl)) (by kernel_rfl) rfl rfl ?_
  clear he
  refine zk 4 ?_
  obtain ⟨y22, he, h⟩ := bindE h
  refine zc fok97 (ih_ref11_check _ _ _ y22 he) ?_
  clear he
  refine zk 8 ?_
  refine ze [1, 3, 6, 10, 11, 12, 13, 14, 15] ?_
  refine za [1, 2, 3, 6, 10, 11, 12, 13, 15] ?_
  refine aw_seq ?_
  refine za [1, 2, 3, 6, 10, 11, 12, 13, 15, 152] ?_
  refine zi h (fun h => ?_) fun h => ?_
  refine za [6, 7, 8] ?_
  cases h
  exact aw_ret zr
  refine aw_skip ?_
  refine aw_seq ?_
  refine za [1, 2, 3, 6, 10, 11, 12, 13, 157] ?_
  refine zi h (fun h => ?_) fun h => ?_
  exact aw_views (zv [(0, 0), (1, 1), (2, 2), (3, 3)] [1, 3, 6, 10, 11, 12, 2] 4) (aw_exit (hj20 _ _ _ h))
  refine aw_skip ?_
  refine aw_seq ?_
  refine zx fun _ => ?_
  refine zk 2 ?_
  refine zl eGType v19 ?_
  refine zk 1 ?_
  refine zee [1, 2, 3, 6, 10, 11, 12, 13, 161] (L2 := [(1, .c (I p1)), (3, .c (.ptr 0 0)), (6, .c (.ptr 1 0)), (10, .c (.ptr 2 0)), (11, .c (Bo v17)), (12, .c (I v18)), (13, .c (.ptr 22 0)), (2, .c (I y22.2.1)), (161, .c (Bo ((List.length v19 : Int) == 0)))]) (G2 := [(0, .blk 70 [I p0.Kind, I p0.N, Sx p0.S, .lit (List.map eGValue p0.L)]), (1, .blk 163 [I 0, NilS]), (2, .blk 163 [I p0.Kind, .app 3 (List.map eGType v19)]), (3, .tok 163 2 (List.length v19)), (22, .blk 163 [I y22.1.Kind, .lit (List.map eGType y22.1.Of)])]) 36 ?_
  refine zi h (fun h => ?_) fun h => ?_
  refine zx fun _ => ?_
  refine zk 1 ?_
  refine rx_bs (e := 163) (sz := 2) (len := 1) (r := [I y22.1.Kind, .lit (List.map eGType y22.1.Of)]) (l' := List.map eGType [y22.1]) (nm := 37) (by kernel_rfl) (by simp only [List.map_cons, List.map_nil, eGType_eq]; kernel_rfl) (by kernel_rfl) (by kernel_rfl) rfl rfl rfl ?_
  refine zk 2 ?_
  refine ze [1, 2, 3, 6, 10, 11, 12] ?_
  exact aw_views (zv [(0, 0), (1, 1), (2, 2), (37, 3)] [1, 3, 6, 10, 11, 12, 2] 4) (aw_exit (hj20 _ _ _ h))
  refine aw_skip ?_
  refine zdx [[], [0], [1, 0], [2, 1, 0], [], [3, 4, 2, 1, 0], [5, 3, 4, 2, 1, 0], [6, 5, 3, 4, 2, 1, 0], [6, 5, 3, 4, 2, 1, 0], [], [9, 7, 5, 0, 1, 2, 3, 4, 6], [8, 10, 0, 1, 2, 3, 4, 5, 6, 7, 9]] fun _ => ?_
  refine zk 2 ?_
  obtain ⟨e23, he, h⟩ := bindE h
  refine rx_rd (v := .c (.imm [I e23.Kind, .lit (List.map eGType e23.Of)])) (foot := []) (rd_idx (enc := eGType) (sz := 2) (l := v19) (ix := 0) he (by kernel_rfl) (eGType_eq e23) (by kernel_rfl)) (by kernel_rfl) rfl rfl ?_
  clear he
  refine zk 2 ?_
  obtain ⟨y24, he, h⟩ := bindE h
  refine zc fok103 (ref11_join_ok n _ _ y24 he) ?_
  clear he
  refine zk 6 ?_
  refine ze [1, 2, 3, 6, 10, 12, 16, 17] ?_
  refine za [1, 2, 3, 6, 10, 11, 12, 16] ?_
  refine aw_out ?_
  refine zy fun _ => ?_
  refine zk 1 ?_
  refine rx_bs (e := 163) (sz := 2) (len := 1) (r := [I y24.1.Kind, .lit (List.map eGType y24.1.Of)]) (l' := List.map eGType [y24.1]) (nm := 51) (by kernel_rfl) (by simp only [List.map_cons, List.map_nil, eGType_eq]; kernel_rfl) (by kernel_rfl) (by kernel_rfl) rfl rfl rfl ?_
  refine zk 2 ?_
  refine x_last ?_
  exact via (zv [(0, 0), (1, 1), (2, 2), (51, 3)] [1, 3, 6, 10, 11, 12, 2] 4) (hj20 _ _ _ h)
  exact aw_views (zv [(1, 0), (2, 1), (3, 2)] [2, 6, 10, 11] 3) (aw_exit (hj2 _ _ _ h))
def ref11_check : Nat → GValue → Int → Int → Option (GType × Int × Int)
  | 0, _, _, _ => none
  | n + 1, p0, p1, p2 => ref11_check_body (fun a0 a1 a2 => ref11_check n a0 a1 a2) n p0 p1 p2
theorem ref11_check_ok (n : Nat) : (∀ (p0 : GValue) (p1 : Int) (p2 : Int) (r : (GType × Int × Int)), ref11_check n p0 p1 p2 = some r → FnD E 97 0 [.agg [I p0.Kind, I p0.N, Sx p0.S, .lit (List.map eGValue p0.L)], .c (I p1), .c (I p2)] [] (.tup [.agg [I r.1.Kind, .lit (List.map eGType r.1.Of)], .c (I r.2.1), .c (I r.2.2)]) []) := by
  induction n with
  | zero => intro p0 p1 p2 r h; rw [ref11_check] at h; cases h
  | succ n ih => intro p0 p1 p2 r h; rw [ref11_check] at h; exact ref11_check_body_ok _ ih n _ _ _ r h
def ref11_TypeOf  (n : Nat) (p0 : GValue) : Option (GType × Int) := (ref11_check n p0 1 0).bind fun (y1 : (GType × Int × Int)) => some (y1.1, y1.2.2)
theorem ref11_TypeOf_ok  (n : Nat) (p0 : GValue) (r : (GType × Int)) (h : ref11_TypeOf n p0 = some r) : FnD E 90 0 [.agg [I p0.Kind, I p0.N, Sx p0.S, .lit (List.map eGValue p0.L)]] [] (.tup [.agg [I r.1.Kind, .lit (List.map eGType r.1.Of)], .c (I r.2)]) [] := by
  refine zfn Tryd.func90 rfl ?_
  unfold ref11_TypeOf at h
  refine za [1, 2] ?_
  refine zx fun _ => ?_
  refine zk 1 ?_
  obtain ⟨y1, he, h⟩ := bindE h
  refine zc fok97 (ref11_check_ok n _ _ _ y1 he) ?_
  clear he
  refine zk 8 ?_
  refine ze [2, 4, 6] ?_
  refine za [2, 3] ?_
  cases h
  exact aw_ret zr
def ref11_Check  (n : Nat) (p0 : GValue) : Option Int := (ref11_TypeOf n p0).bind fun (y1 : (GType × Int)) => some y1.2
theorem ref11_Check_ok  (n : Nat) (p0 : GValue) (r : Int) (h : ref11_Check n p0 = some r) : FnD E 77 0 [.agg [I p0.Kind, I p0.N, Sx p0.S, .lit (List.map eGValue p0.L)]] [] (.c (I r)) [] := by
  refine zfn Tryd.func77 rfl ?_
  unfold ref11_Check at h
  refine za [1] ?_
  refine zx fun _ => ?_
  refine zk 1 ?_
  obtain ⟨y1, he, h⟩ := bindE h
  refine zc fok90 (ref11_TypeOf_ok n _ y1 he) ?_
  clear he
  refine zk 6 ?_
  refine ze [4] ?_
  refine za [2] ?_
  cases h
  exact aw_ret zr
end Go.Proofs.YtojkihhnioeggaaDoor.S
