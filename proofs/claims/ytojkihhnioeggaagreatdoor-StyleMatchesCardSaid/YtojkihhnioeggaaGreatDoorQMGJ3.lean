import Derived.Test.YtojkihhnioeggaaGreatDoorQMGJ2
set_option linter.unusedVariables false
set_option linter.unusedSimpArgs false
set_option maxRecDepth 100000
set_option maxHeartbeats 4000000
namespace Go.Proofs.YtojkihhnioeggaaGreatDoor.S
open Go Go.Bm
def hP (p0 : aL) (self_ref14_build : aL → Int → bC → Option bC) (p2 : bC) (j2 : List Int → Int → Int → List aR → Option bC) : Nat → List Int → Int → Int → Int → List aR → Option bC
 | 0, _, _, _, _, _ => none
 | n + 1, v6, v7, v8, v9, v10 => (if (decide (v7 < (List.length p0.Kids : Int))) = true then (pE 8 v6 [v9]).bind fun (l11 : List Int) => (idx p0.Kids v7).bind fun (e12 : aL) => (self_ref14_build e12 p2.Next (bC.mk v8 v9 v10)).bind fun (y13 : bC) => hP p0 self_ref14_build p2 j2 n l11 (IntKind.wrap .i64 (v7 + 1)) y13.Root y13.Next y13.Nodes else j2 v6 v8 v9 v10)
def lD (self_ref14_build : aL → Int → bC → Option bC) (n : Nat) (p0 : aL) (p1 : Int) (p2 : bC) : Option bC := (pE 112 p2.Nodes [(aR.mk p2.Next p1 p0.Kind p0.Key p0.Attrs p0.Actions ([] : List Int))]).bind fun (l1 : List aR) => (aV (fun (v19 : List Int) (v20 : Int) (v21 : Int) (v22 : List aR) => (oE (List.length p2.Nodes : Int) (List.length v22)).bind fun (k23 : Nat) => (v22[k23]?).bind fun (e24 : aR) => some (bC.mk v20 v21 (List.set v22 k23 (aR.mk e24.ID e24.Parent e24.Kind e24.Key e24.Attrs e24.Actions v19)))) (fun (j2 : List Int → Int → Int → List aR → Option bC) => hP p0 self_ref14_build p2 j2 n ([] : List Int) 0 p2.Root (IntKind.wrap .i64 (p2.Next + 1)) l1))
theorem vO (self_ref14_build : aL → Int → bC → Option bC) (ih_ref14_build : ∀ (p0 : aL) (p1 : Int) (p2 : bC) (r : bC), self_ref14_build p0 p1 p2 = some r → cN E 60 1 [.agg [I p0.Kind, Sx p0.Key, .lit (List.map aM p0.Attrs), .lit (List.map aD p0.Actions), .lit (List.map aX p0.Kids)], .c (I p1), .agg [I p2.Root, I p2.Next, .row 0]] [(0, .vec 58 7 (List.map aE p2.Nodes))] (.agg [I r.Root, I r.Next, .row 1]) [(1, .vec 58 7 (List.map aE r.Nodes))]) (n : Nat) (p0 : aL) (p1 : Int) (p2 : bC) (r : bC) (h : lD self_ref14_build n p0 p1 p2 = some r) : cN E 60 1 [.agg [I p0.Kind, Sx p0.Key, .lit (List.map aM p0.Attrs), .lit (List.map aD p0.Actions), .lit (List.map aX p0.Kids)], .c (I p1), .agg [I p2.Root, I p2.Next, .row 0]] [(0, .vec 58 7 (List.map aE p2.Nodes))] (.agg [I r.Root, I r.Next, .row 1]) [(1, .vec 58 7 (List.map aE r.Nodes))] := by
 refine fW Tryz.func60 rfl ?_
 unfold lD at h
 refine za [1, 3, 5, 6] ?_
 refine za [1, 3, 5, 6, 7] ?_
 refine zx fun _ => ?_
 refine zk 2 ?_
 refine cF (v := .c (I (List.length p2.Nodes : Int))) (foot := [0]) (Bg (enc := aE) (l := p2.Nodes) (n := 0) (by kernel_rfl)) (by kernel_rfl) rfl rfl ?_
 refine zk 1 ?_
 refine ze [1, 3, 5, 6, 7, 8] ?_
 refine zx fun _ => ?_
 refine zk 14 ?_
 obtain ⟨l1, he, h⟩ := aB h
 refine sM (enc := aE) (l := p2.Nodes) (els := [(aR.mk p2.Next p1 p0.Kind p0.Key p0.Attrs p0.Actions ([] : List Int))]) (r := l1) (m := 0) (e := 58) (sz := 7) (bytes := 112) (nm := 25) he (by kernel_rfl) (fun x => by kernel_rfl) (by kernel_rfl) (by kernel_rfl) rfl rfl rfl ?_
 clear he
 refine zk 2 ?_
 refine ze [3, 5, 6, 7, 8] ?_
 refine za [3, 5, 6, 7, 8] ?_
 refine za [3, 5, 6, 7, 8, 9] ?_
 refine aQ h (fun A j => ∀ v19 v20 v21 v22, j v19 v20 v21 v22 = some r → A (mk [(5, .c (.ptr 1 0)), (6, .c (.ptr 2 0)), (8, .c (I (List.length p2.Nodes : Int))), (9, .c (.app 3 (List.map aJ v19)))] [(1, .blk 27 [I v20, I v21, .row 4]), (2, .blk 27 [I 0, I 0, bY]), (3, .tok 3 1 (List.length v19)), (4, .vec 58 7 (List.map aE v22))] 5)) (fun v19 v20 v21 v22 h => ?_) (fun j2 Aj2 hj2 h => ?_)
 refine zx fun _ => ?_
 refine zk 4 ?_
 obtain ⟨k23, he, h⟩ := aB h
 refine cF (v := .c (.ptr 4 (k23 * 7))) (foot := [4]) (dD (enc := aE) (l := v22) (n := 4) (sz := 7) (k := k23) (ix := (List.length p2.Nodes : Int)) he (by kernel_rfl)) (by kernel_rfl) rfl rfl ?_
 have hb_k23 := dP he; clear he
 refine zk 1 ?_
 obtain ⟨e24, he, h⟩ := aB h
 refine kC (enc := aE) (n := 4) (q := k23) (f := 6) (sz := 7) (T0 := 58) (lp := [.lit (List.map aJ v19)]) (l := v22) (e := e24) (e2 := (aR.mk e24.ID e24.Parent e24.Kind e24.Key e24.Attrs e24.Actions v19)) he (by kernel_rfl) (by simp only [List.length_cons, List.length_nil]; omega) (by kernel_rfl) (by kernel_rfl) rfl rfl ?_
 clear he
 refine ze [5, 6] ?_
 refine za [6] ?_
 have h := Option.some.inj h
 subst h
 refine aI (sD rfl [(4, 1), (2, 2)] [6] (L2 := [(6, .c (.ptr 2 0))]) (G2 := [(1, .vec 58 7 (List.map aE (List.set v22 k23 (aR.mk e24.ID e24.Parent e24.Kind e24.Key e24.Attrs e24.Actions v19)))), (2, .blk 27 [I v20, I v21, .row 1])]) (lim2 := 3) (by kernel_rfl)) ?_
 exact aG (Bn (.inl rfl) (by kernel_rfl) (by kernel_rfl))
 refine za [3, 5, 6, 7, 8, 9, 10] ?_
 refine aF ?_
 refine bA (fun n s => ∃ v6 v7 v8 v9 v10, hP p0 self_ref14_build p2 j2 n v6 v7 v8 v9 v10 = some r ∧ s = mk [(3, .c (.ptr 1 0)), (5, .c (.ptr 2 0)), (6, .c (.ptr 3 0)), (7, .c (I p2.Next)), (8, .c (I (List.length p2.Nodes : Int))), (9, .c (.app 4 (List.map aJ v6))), (10, .c (I v7))] [(1, .blk 70 [I p0.Kind, Sx p0.Key, .lit (List.map aM p0.Attrs), .lit (List.map aD p0.Actions), .lit (List.map aX p0.Kids)]), (2, .blk 27 [I v8, I v9, .row 5]), (3, .blk 27 [I 0, I 0, bY]), (4, .tok 3 1 (List.length v6)), (5, .vec 58 7 (List.map aE v10))] 6) n _ (dU.trans (mJ (L2 := [(3, .c (.ptr 1 0)), (5, .c (.ptr 2 0)), (6, .c (.ptr 3 0)), (7, .c (I p2.Next)), (8, .c (I (List.length p2.Nodes : Int))), (9, .c (.app 35 (List.map aJ ([] : List Int)))), (10, .c (I 0))]) (G2 := [(1, .blk 70 [I p0.Kind, Sx p0.Key, .lit (List.map aM p0.Attrs), .lit (List.map aD p0.Actions), .lit (List.map aX p0.Kids)]), (2, .blk 27 [I p2.Root, I (IntKind.wrap .i64 (p2.Next + 1)), .row 25]), (3, .blk 27 [I 0, I 0, bY]), (24, .tok 58 7 (List.length [(aR.mk p2.Next p1 p0.Kind p0.Key p0.Attrs p0.Actions ([] : List Int))])), (25, .vec 58 7 (List.map aE l1)), (35, .tok 3 1 (List.length ([] : List Int)))]) (lim2 := 36) 9 3 1 (by kernel_rfl) (by kernel_rfl) (by kernel_rfl) (by kernel_rfl)) (zv [(1, 1), (2, 2), (3, 3), (35, 4), (25, 5)] [3, 5, 6, 7, 8, 9, 10] 6)) ⟨_, _, _, _, _, h, rfl⟩ (fun s ⟨v6, v7, v8, v9, v10, h, _⟩ => nomatch h) ?_
 rintro n s ⟨v6, v7, v8, v9, v10, h, rfl⟩
 rw [hP] at h
 refine aK ?_
 refine zx fun _ => ?_
 refine zk 3 ?_
 refine zl aX p0.Kids ?_
 refine zk 1 ?_
 refine ze [3, 5, 6, 7, 8, 9, 10, 40] ?_
 refine zi h (fun h => ?_) fun h => ?_
 refine aC ?_
 refine aK ?_
 refine aF ?_
 refine zx fun _ => ?_
 refine zk 4 ?_
 obtain ⟨l11, he, h⟩ := aB h
 refine cB (enc := aJ) (l := v6) (els := [v9]) (r := l11) (old := some 4) (e := 3) (sz := 1) (bytes := 8) (k := (List.length v6)) (nm := 15) he (by kernel_rfl) (by kernel_rfl) (fun x => by kernel_rfl) (by kernel_rfl) (by kernel_rfl) rfl rfl rfl ?_
 clear he
 refine zk 1 ?_
 refine ze [3, 5, 6, 7, 8, 9, 10] ?_
 refine Lh [[], [0], [], [1, 2, 0], [3, 1, 2, 0], [], [], [4, 5, 6, 3, 1, 2, 0], [7, 0, 1, 2, 3, 4, 5, 6]] fun _ => ?_
 refine zk 3 ?_
 obtain ⟨e12, he, h⟩ := aB h
 refine cF (v := .c (.imm [I e12.Kind, Sx e12.Key, .lit (List.map aM e12.Attrs), .lit (List.map aD e12.Actions), .lit (List.map aX e12.Kids)])) (foot := []) (dR (enc := aX) (sz := 5) (l := p0.Kids) (ix := v7) he (by kernel_rfl) (fR e12) (by kernel_rfl)) (by kernel_rfl) rfl rfl ?_
 clear he
 refine zk 3 ?_
 obtain ⟨y13, he, h⟩ := aB h
 refine rI (F := 60) (As := [.agg [I e12.Kind, Sx e12.Key, .lit (List.map aM e12.Attrs), .lit (List.map aD e12.Actions), .lit (List.map aX e12.Kids)], .c (I p2.Next), .agg [I v8, I v9, .row 5]]) (Bs := [.agg [I e12.Kind, Sx e12.Key, .lit (List.map aM e12.Attrs), .lit (List.map aD e12.Actions), .lit (List.map aX e12.Kids)], .c (I p2.Next), .agg [I v8, I v9, .row 0]]) (σ := [(0, 5), (1, 24)]) (k := 1) (kn := 1) (nm := 24) (Gc := [(0, .vec 58 7 (List.map aE v10))]) (Gf := [(1, .vec 58 7 (List.map aE y13.Nodes))]) (r := .agg [I y13.Root, I y13.Next, .row 1]) (v := .agg [I y13.Root, I y13.Next, .row 24]) (by kernel_rfl) Xf ⟨.inl (by kernel_rfl), ⟨.inl (by kernel_rfl), ⟨.inr ⟨(by kernel_rfl), (by kernel_rfl)⟩, trivial⟩⟩⟩ (ih_ref14_build _ _ _ y13 he) (by kernel_rfl) (by kernel_rfl) (by kernel_rfl) (by kernel_rfl) (by kernel_rfl) (by kernel_rfl) rfl rfl rfl ?_
 clear he
 refine zk 1 ?_
 refine bL ?_
 refine aT ?_
 refine zb ?_
 exact dI (zv [(1, 1), (2, 2), (3, 3), (15, 4), (24, 5)] [3, 5, 6, 7, 8, 9, 10] 6) (⟨_, _, _, _, _, h, rfl⟩)
 exact aI (zv [(2, 1), (3, 2), (4, 3), (5, 4)] [5, 6, 8, 9] 5) (bD (hj2 _ _ _ _ h))
def jI : Nat → aL → Int → bC → Option bC
 | 0, _, _, _ => none
 | n + 1, p0, p1, p2 => lD (fun a0 a1 a2 => jI n a0 a1 a2) n p0 p1 p2
theorem Dm (n : Nat) : (∀ (p0 : aL) (p1 : Int) (p2 : bC) (r : bC), jI n p0 p1 p2 = some r → cN E 60 1 [.agg [I p0.Kind, Sx p0.Key, .lit (List.map aM p0.Attrs), .lit (List.map aD p0.Actions), .lit (List.map aX p0.Kids)], .c (I p1), .agg [I p2.Root, I p2.Next, .row 0]] [(0, .vec 58 7 (List.map aE p2.Nodes))] (.agg [I r.Root, I r.Next, .row 1]) [(1, .vec 58 7 (List.map aE r.Nodes))]) := by
 induction n with
 | zero => intro p0 p1 p2 r h; rw [jI] at h; cases h
 | succ n ih => intro p0 p1 p2 r h; rw [jI] at h; exact vO _ ih n _ _ _ r h
def mC  (n : Nat) (p0 : aL) (p1 : Int) : Option (bC × Int) := (gV n p0).bind fun (y1 : Int) => (if (y1 != 0) = true then some ((bC.mk 0 0 ([] : List aR)), y1) else (if ((decide (p1 < 1)) || (decide (p1 > 1099511627376))) = true then some ((bC.mk 0 0 ([] : List aR)), 1) else (jI n p0 0 (bC.mk p1 p1 ([] : List aR))).bind fun (y2 : bC) => some (y2, 0)))
theorem uG  (n : Nat) (p0 : aL) (p1 : Int) (r : (bC × Int)) (h : mC n p0 p1 = some r) : cN E 28 0 [.agg [I p0.Kind, Sx p0.Key, .lit (List.map aM p0.Attrs), .lit (List.map aD p0.Actions), .lit (List.map aX p0.Kids)], .c (I p1)] [] (.tup [.agg [I r.1.Root, I r.1.Next, .lit (List.map aE r.1.Nodes)], .c (I r.2)]) [] := by
 refine fW Tryz.func28 rfl ?_
 unfold mC at h
 refine za [1, 2, 4] ?_
 refine aK ?_
 refine zx fun _ => ?_
 refine zk 1 ?_
 obtain ⟨y1, he, h⟩ := aB h
 refine zc Sl (mN n _ y1 he) ?_
 clear he
 refine zk 1 ?_
 refine ze [1, 2, 4, 6] ?_
 refine za [1, 2, 4, 6, 11] ?_
 refine zi h (fun h => ?_) fun h => ?_
 refine za [4, 5] ?_
 cases h
 exact aG zr
 refine aC ?_
 refine aK ?_
 refine zx fun _ => ?_
 refine zk 3 ?_
 refine zE (.c (I p1)) ?_
 refine zE (.c (Bo (decide (p1 > 1099511627376)))) ?_
 refine zP (.bool ((decide (p1 < 1)) || (decide (p1 > 1099511627376)))) ?_
 refine ze [1, 2, 4, 19] ?_
 refine zi h (fun h => ?_) fun h => ?_
 refine za [4, 5] ?_
 cases h
 exact aG zr
 refine aC ?_
 refine za [2, 4, 7] ?_
 refine zx fun _ => ?_
 refine zk 2 ?_
 obtain ⟨y2, he, h⟩ := aB h
 refine rI (F := 60) (As := [.agg [I p0.Kind, Sx p0.Key, .lit (List.map aM p0.Attrs), .lit (List.map aD p0.Actions), .lit (List.map aX p0.Kids)], .c (I 0), .agg [I p1, I p1, bY]]) (Bs := [.agg [I p0.Kind, Sx p0.Key, .lit (List.map aM p0.Attrs), .lit (List.map aD p0.Actions), .lit (List.map aX p0.Kids)], .c (I 0), .agg [I p1, I p1, bY]]) (σ := [(1, 21)]) (k := 0) (kn := 1) (nm := 21) (Gc := []) (Gf := [(1, .vec 58 7 (List.map aE y2.Nodes))]) (r := .agg [I y2.Root, I y2.Next, .row 1]) (v := .agg [I y2.Root, I y2.Next, .row 21]) (by kernel_rfl) Xf ⟨.inl (by kernel_rfl), ⟨.inl (by kernel_rfl), ⟨.inr ⟨(by kernel_rfl), (by kernel_rfl)⟩, trivial⟩⟩⟩ (cN.nil1 (Dm n _ _ _ y2 he) rfl rfl) (by kernel_rfl) (by kernel_rfl) (by kernel_rfl) (by kernel_rfl) (by kernel_rfl) (by kernel_rfl) rfl rfl rfl ?_
 clear he
 refine zk 2 ?_
 refine jV [4, 5] (L2 := [(4, .c (.ptr 1 0)), (5, .c (I 0))]) (G2 := [(0, .blk 70 [I p0.Kind, Sx p0.Key, .lit (List.map aM p0.Attrs), .lit (List.map aD p0.Actions), .lit (List.map aX p0.Kids)]), (1, .blk 27 [I y2.Root, I y2.Next, .row 21]), (17, .blk 27 [I p1, I p1, bY]), (21, .vec 58 7 (List.map aE y2.Nodes))]) 24 ?_
 refine aI (yF 21 (T := 58) (sz := 7) (l := List.map aE y2.Nodes) (L2 := [(4, .c (.ptr 1 0)), (5, .c (I 0))]) (G2 := [(0, .blk 70 [I p0.Kind, Sx p0.Key, .lit (List.map aM p0.Attrs), .lit (List.map aD p0.Actions), .lit (List.map aX p0.Kids)]), (1, .blk 27 [I y2.Root, I y2.Next, .lit (List.map aE y2.Nodes)]), (17, .blk 27 [I p1, I p1, bY])]) (by kernel_rfl) (by kernel_rfl) (by kernel_rfl)) ?_
 cases h
 exact aG zr
def uI  (n : Nat) (p0 : aP) (p1 : Int) : Option (bC × aP) := (tP n p0 p1).bind fun (y1 : (aL × aP)) => (mE n y1.2 1 5).bind fun (y2 : (Int × aP)) => (mC n y1.1 y2.1).bind fun (y3 : (bC × Int)) => some (y3.1, y2.2)
theorem Lf  (n : Nat) (p0 : aP) (p1 : Int) (r : (bC × aP)) (h : uI n p0 p1 = some r) : cN E 10 1 [.c (.ptr 0 0), .c (I p1)] [(0, .blk 78 [.lit (List.map aJ p0.L), I p0.At])] (.agg [I r.1.Root, I r.1.Next, .lit (List.map aE r.1.Nodes)]) [(0, .blk 78 [.lit (List.map aJ r.2.L), I r.2.At])] := by
 refine fW Tryz.func10 rfl ?_
 unfold uI at h
 refine za [0, 1, 4] ?_
 refine zx fun _ => ?_
 refine zk 2 ?_
 obtain ⟨y1, he, h⟩ := aB h
 refine zo [(0, 0)] fok27 (Kj n _ _ y1 he) ?_
 clear he
 refine zk 1 ?_
 obtain ⟨y2, he, h⟩ := aB h
 refine zo [(0, 0)] Nn (oS n _ _ _ y2 he) ?_
 clear he
 obtain ⟨y3, he, h⟩ := aB h
 refine zc Xh (uG n _ _ y3 he) ?_
 clear he
 refine zk 6 ?_
 refine ze [4, 5] ?_
 refine za [4] ?_
 cases h
 exact aG zr
def eI (p0 : ByteArray) (j1 : Unit → Option Bool) : Nat → Int → Option Bool
 | 0, _ => none
 | n + 1, v3 => (if (decide (v3 < (ByteArray.size p0 : Int))) = true then (wU p0 v3).bind fun (u4 : Int) => (if ((!(((decide (u4 ≥ 97)) && (decide (u4 ≤ 122))) || ((decide (u4 ≥ 65)) && (decide (u4 ≤ 90))))) && ((v3 == 0) || ((((decide (u4 < 48)) || (decide (u4 > 57))) && (u4 != 45)) && (u4 != 95)))) = true then some false else eI p0 j1 n (IntKind.wrap .i64 (v3 + 1))) else j1 ())
def fO  (n : Nat) (p0 : ByteArray) : Option Bool := (if (((ByteArray.size p0 : Int) == 0) || (decide ((ByteArray.size p0 : Int) > 24))) = true then some false else (aV (fun (_ : Unit) => some true) (fun (j1 : Unit → Option Bool) => eI p0 j1 n 0)))
theorem jT  (n : Nat) (p0 : ByteArray) (r : Bool) (h : fO n p0 = some r) : cN E 66 0 [.c (Sx p0)] [] (.c (Bo r)) [] := by
 refine fW Tryz.func66 rfl ?_
 unfold fO at h
 refine za [0] ?_
 refine aK ?_
 refine zx fun _ => ?_
 refine zk 4 ?_
 refine zE (.c (Sx p0)) ?_
 refine zE (.c (I (ByteArray.size p0 : Int))) ?_
 refine zE (.c (Bo (decide ((ByteArray.size p0 : Int) > 24)))) ?_
 refine zP (.bool (((ByteArray.size p0 : Int) == 0) || (decide ((ByteArray.size p0 : Int) > 24)))) ?_
 refine ze [0, 13] ?_
 refine zi h (fun h => ?_) fun h => ?_
 refine za [2] ?_
 cases h
 exact aG zr
 refine aC ?_
 refine aQ h (fun A j => ∀ u, j u = some r → A (mk [] [] 0)) (fun u h => ?_) (fun j1 Aj1 hj1 h => ?_)
 refine za [2] ?_
 cases h
 exact aG zr
 refine za [0, 15, 16] ?_
 refine aF ?_
 refine bA (fun n s => ∃ v3, eI p0 j1 n v3 = some r ∧ s = mk [(0, .c (Sx p0)), (15, .c (I (ByteArray.size p0 : Int))), (16, .c (I v3))] [] 0) n _ (zv [] [0, 15, 16] 0) ⟨_, h, rfl⟩ (fun s ⟨v3, h, _⟩ => nomatch h) ?_
 rintro n s ⟨v3, h, rfl⟩
 rw [eI] at h
 refine za [0, 15, 16, 17] ?_
 refine aK ?_
 refine zi h (fun h => ?_) fun h => ?_
 refine aC ?_
 refine aK ?_
 refine aF ?_
 refine za [0, 3, 15, 16] ?_
 refine zx fun _ => ?_
 refine zk 2 ?_
 obtain ⟨u4, he, h⟩ := aB h
 refine zs he ?_
 clear he
 refine zk 1 ?_
 refine ze [0, 3, 4, 15, 16] ?_
 refine zx fun _ => ?_
 refine zk 3 ?_
 refine zE (.c (U8 u4)) ?_
 refine zE (.c (Bo (decide (u4 ≤ 122)))) ?_
 refine zP (.bool ((decide (u4 ≥ 97)) && (decide (u4 ≤ 122)))) ?_
 refine zk 1 ?_
 refine zE (.c (U8 u4)) ?_
 refine zE (.c (Bo (decide (u4 ≥ 65)))) ?_
 refine zF [(!((decide (u4 ≥ 97)) && (decide (u4 ≤ 122))))] (.c (Bo (decide (u4 ≥ 65)))) ?_
 refine zE (.c (U8 u4)) ?_
 refine zE (.c (Bo (decide (u4 ≤ 90)))) ?_
 refine zP (.bool ((decide (u4 ≥ 65)) && (decide (u4 ≤ 90)))) ?_
 refine zP (.bool (((decide (u4 ≥ 97)) && (decide (u4 ≤ 122))) || ((decide (u4 ≥ 65)) && (decide (u4 ≤ 90))))) ?_
 refine zk 1 ?_
 refine jV [0, 3, 4, 5, 15, 16] (L2 := [(0, .c (Sx p0)), (15, .c (I (ByteArray.size p0 : Int))), (16, .c (I v3)), (3, .c (I v3)), (4, .c (U8 u4)), (5, .c (Bo (((decide (u4 ≥ 97)) && (decide (u4 ≤ 122))) || ((decide (u4 ≥ 65)) && (decide (u4 ≤ 90))))))]) (G2 := []) 22 ?_
 refine zx fun _ => ?_
 refine zk 3 ?_
 refine zE (.c (I v3)) ?_
 refine zE (.c (Bo (v3 == 0))) ?_
 refine zF [(!(((decide (u4 ≥ 97)) && (decide (u4 ≤ 122))) || ((decide (u4 ≥ 65)) && (decide (u4 ≤ 90)))))] (.c (Bo (v3 == 0))) ?_
 refine zE (.c (U8 u4)) ?_
 refine zE (.c (Bo (decide (u4 < 48)))) ?_
 refine zF [(!(((decide (u4 ≥ 97)) && (decide (u4 ≤ 122))) || ((decide (u4 ≥ 65)) && (decide (u4 ≤ 90))))), (!(v3 == 0))] (.c (Bo (decide (u4 < 48)))) ?_
 refine zE (.c (U8 u4)) ?_
 refine zE (.c (Bo (decide (u4 > 57)))) ?_
 refine zP (.bool ((decide (u4 < 48)) || (decide (u4 > 57)))) ?_
 refine zF [(!(((decide (u4 ≥ 97)) && (decide (u4 ≤ 122))) || ((decide (u4 ≥ 65)) && (decide (u4 ≤ 90))))), (!(v3 == 0))] (.c (Bo ((decide (u4 < 48)) || (decide (u4 > 57))))) ?_
 refine zE (.c (U8 u4)) ?_
 refine zE (.c (Bo (u4 != 45))) ?_
 refine zP (.bool (((decide (u4 < 48)) || (decide (u4 > 57))) && (u4 != 45))) ?_
 refine zF [(!(((decide (u4 ≥ 97)) && (decide (u4 ≤ 122))) || ((decide (u4 ≥ 65)) && (decide (u4 ≤ 90))))), (!(v3 == 0))] (.c (Bo (((decide (u4 < 48)) || (decide (u4 > 57))) && (u4 != 45)))) ?_
 refine zE (.c (U8 u4)) ?_
 refine zE (.c (Bo (u4 != 95))) ?_
 refine zP (.bool ((((decide (u4 < 48)) || (decide (u4 > 57))) && (u4 != 45)) && (u4 != 95))) ?_
 refine zP (.bool ((v3 == 0) || ((((decide (u4 < 48)) || (decide (u4 > 57))) && (u4 != 45)) && (u4 != 95)))) ?_
 refine zP (.bool ((!(((decide (u4 ≥ 97)) && (decide (u4 ≤ 122))) || ((decide (u4 ≥ 65)) && (decide (u4 ≤ 90))))) && ((v3 == 0) || ((((decide (u4 < 48)) || (decide (u4 > 57))) && (u4 != 45)) && (u4 != 95))))) ?_
 refine jV [0, 15, 16, 57] (L2 := [(0, .c (Sx p0)), (15, .c (I (ByteArray.size p0 : Int))), (16, .c (I v3)), (57, .c (Bo ((!(((decide (u4 ≥ 97)) && (decide (u4 ≤ 122))) || ((decide (u4 ≥ 65)) && (decide (u4 ≤ 90))))) && ((v3 == 0) || ((((decide (u4 < 48)) || (decide (u4 > 57))) && (u4 != 45)) && (u4 != 95))))))]) (G2 := []) 44 ?_
 refine zi h (fun h => ?_) fun h => ?_
 refine za [2] ?_
 cases h
 exact aG zr
 refine aC ?_
 refine aT ?_
 refine zb ?_
 exact dI (zv [] [0, 15, 16] 0) (⟨_, h, rfl⟩)
 exact aI (zv [] [] 0) (bD (hj1 _ h))
def iJ  (n : Nat) (p0 : Int) : Option Bool := some ((decide (p0 ≥ 0)) && (decide (p0 < 22)))
theorem oI  (n : Nat) (p0 : Int) (r : Bool) (h : iJ n p0 = some r) : cN E 50 0 [.c (I p0)] [] (.c (Bo r)) [] := by
 refine fW Tryz.func50 rfl ?_
 unfold iJ at h
 refine za [0] ?_
 refine zx fun _ => ?_
 refine zk 3 ?_
 refine zE (.c (I p0)) ?_
 refine zE (.c (Bo (decide (p0 < 22)))) ?_
 refine zP (.bool ((decide (p0 ≥ 0)) && (decide (p0 < 22)))) ?_
 refine zk 1 ?_
 refine ze [2] ?_
 cases h
 exact aG zr
def dE  (n : Nat) (p0 : Int) (p1 : Int) : Option Bool := (iJ n p0).bind fun (y1 : Bool) => (gd [y1] (idx bE p0)).bind fun (e2 : bR) => (gd [(y1 && (decide (p1 ≥ e2.low)))] (idx bE p0)).bind fun (e3 : bR) => some ((y1 && (decide (p1 ≥ e2.low))) && (decide (p1 ≤ e3.high)))
theorem sB  (n : Nat) (p0 : Int) (p1 : Int) (r : Bool) (h : dE n p0 p1 = some r) : cN E 21 0 [.c (I p0), .c (I p1)] [] (.c (Bo r)) [] := by
 refine fW Tryz.func21 rfl ?_
 unfold dE at h
 refine za [0, 1] ?_
 refine zx fun _ => ?_
 refine zk 1 ?_
 obtain ⟨y1, he, h⟩ := aB h
 refine zc Ta (oI n _ y1 he) ?_
 clear he
 refine zk 1 ?_
 refine zE (.c (I p1)) ?_
 refine zE (.c (I p0)) ?_
 obtain ⟨e2, he, h⟩ := aB h
 refine Cx (es := [y1]) [(9, .c (I p0), some 1)] (enc := iM) (xs := bE) (ix := p0) (e := e2) (c := [Bo e2.inherited, I e2.low, I e2.high, I e2.start]) (len := 22) (sz := 4) (fun hg => bT he hg) (by kernel_rfl) (by kernel_rfl) (by kernel_rfl) (by kernel_rfl) (by kernel_rfl) (by kernel_rfl) (fun x => by kernel_rfl) rfl rfl ?_
 clear he
 refine zE (.c (.imm [I e2.low, I e2.high, I e2.start])) ?_
 refine zE (.c (I e2.low)) ?_
 refine zE (.c (Bo (decide (p1 ≥ e2.low)))) ?_
 refine zP (.bool (y1 && (decide (p1 ≥ e2.low)))) ?_
 refine zk 1 ?_
 refine zE (.c (I p1)) ?_
 refine zE (.c (I p0)) ?_
 obtain ⟨e3, he, h⟩ := aB h
 refine Cx (es := [(y1 && (decide (p1 ≥ e2.low)))]) [(17, .c (I p0), some 1)] (enc := iM) (xs := bE) (ix := p0) (e := e3) (c := [Bo e3.inherited, I e3.low, I e3.high, I e3.start]) (len := 22) (sz := 4) (fun hg => bT he hg) (by kernel_rfl) (by kernel_rfl) (by kernel_rfl) (by kernel_rfl) (by kernel_rfl) (by kernel_rfl) (fun x => by kernel_rfl) rfl rfl ?_
 clear he
 refine zE (.c (.imm [I e3.high, I e3.start])) ?_
 refine zE (.c (I e3.high)) ?_
 refine zE (.c (Bo (decide (p1 ≤ e3.high)))) ?_
 refine zP (.bool ((y1 && (decide (p1 ≥ e2.low))) && (decide (p1 ≤ e3.high)))) ?_
 refine zk 1 ?_
 refine jV [4] (L2 := [(4, .c (Bo ((y1 && (decide (p1 ≥ e2.low))) && (decide (p1 ≤ e3.high)))))]) (G2 := []) 20 ?_
 cases h
 exact aG zr
def nA  (n : Nat) (p0 : cI) (p1 : Int) : Option Int := (iJ n p0.Prop_).bind fun (y1 : Bool) => (if (!y1) = true then some 1 else (aV (fun (v3 : Bool) => (if v3 = true then some 9 else (gd [(p0.Source == 0)] (dE n p0.Prop_ p0.N)).bind fun (y4 : Bool) => (if ((p0.Source == 0) && (!y4)) = true then some 1 else (gd [(p0.Source == 1)] (fO n p0.Token)).bind fun (y5 : Bool) => (if ((p0.Source == 1) && (!y5)) = true then some 4 else (if (((p0.Prop_ == 5) || (p0.Prop_ == 21)) && ((lQ .i64 p1 7) != 0)) = true then some 13 else some 0))))) (fun (j2 : Bool → Option Int) => (if ((decide (p0.Source < 0)) || (decide (p0.Source > 3))) = true then j2 ((decide (p0.Source < 0)) || (decide (p0.Source > 3))) else (if ((p0.N != 0) && (p0.Source != 0)) = true then j2 ((p0.N != 0) && (p0.Source != 0)) else j2 ((!(cG p0.Token (⟨#[]⟩ : ByteArray))) && (p0.Source != 1)))))))
theorem tS  (n : Nat) (p0 : cI) (p1 : Int) (r : Int) (h : nA n p0 p1 = some r) : cN E 67 0 [.agg [I p0.Prop_, I p0.Source, I p0.N, Sx p0.Token], .c (I p1)] [] (.c (I r)) [] := by
 refine fW Tryz.func67 rfl ?_
 unfold nA at h
 refine za [1, 2] ?_
 refine aK ?_
 refine aF ?_
 refine zx fun _ => ?_
 refine zk 2 ?_
 obtain ⟨y1, he, h⟩ := aB h
 refine zc Ta (oI n _ y1 he) ?_
 clear he
 refine zk 2 ?_
 refine ze [1, 2, 5] ?_
 refine zi h (fun h => ?_) fun h => ?_
 refine za [4] ?_
 cases h
 exact aG zr
 refine aQ h (fun A j => ∀ v3, j v3 = some r → A (mk [(1, .c (I p1)), (2, .c (.ptr 0 0)), (10, .c (Bo v3))] [(0, .blk 81 [I p0.Prop_, I p0.Source, I p0.N, Sx p0.Token])] 1)) (fun v3 h => ?_) (fun j2 Aj2 hj2 h => ?_)
 refine zi h (fun h => ?_) fun h => ?_
 refine za [4] ?_
 cases h
 exact aG zr
 refine zx fun _ => ?_
 refine zk 4 ?_
 refine zE (.c (.ptr 0 0)) ?_
 refine zE (.c (I p0.Prop_)) ?_
 refine zE (.c (.ptr 0 2)) ?_
 refine zE (.c (I p0.N)) ?_
 obtain ⟨y4, he, h⟩ := aB h
 refine Ho [(p0.Source == 0)] Xn (fun hg => sB n _ _ y4 (bT he hg)) ?_
 clear he
 refine zE (.c (Bo (!y4))) ?_
 refine zP (.bool ((p0.Source == 0) && (!y4))) ?_
 refine zk 1 ?_
 refine ze [1, 2, 35] ?_
 refine zi h (fun h => ?_) fun h => ?_
 refine za [4] ?_
 cases h
 exact aG zr
 refine zx fun _ => ?_
 refine zk 4 ?_
 refine zE (.c (.ptr 0 3)) ?_
 refine zE (.c (Sx p0.Token)) ?_
 obtain ⟨y5, he, h⟩ := aB h
 refine Ho [(p0.Source == 1)] Cp (fun hg => jT n _ y5 (bT he hg)) ?_
 clear he
 refine zE (.c (Bo (!y5))) ?_
 refine zP (.bool ((p0.Source == 1) && (!y5))) ?_
 refine zk 1 ?_
 refine jV [1, 2, 47] (L2 := [(1, .c (I p1)), (2, .c (.ptr 0 0)), (47, .c (Bo ((p0.Source == 1) && (!y5))))]) (G2 := [(0, .blk 81 [I p0.Prop_, I p0.Source, I p0.N, Sx p0.Token])]) 23 ?_
 refine zi h (fun h => ?_) fun h => ?_
 refine za [4] ?_
 cases h
 exact aG zr
 refine zx fun _ => ?_
 refine zk 4 ?_
 refine zE (.c (.ptr 0 0)) ?_
 refine zE (.c (I p0.Prop_)) ?_
 refine zE (.c (Bo (p0.Prop_ == 21))) ?_
 refine zP (.bool ((p0.Prop_ == 5) || (p0.Prop_ == 21))) ?_
 refine zk 1 ?_
 refine zE (.c (I p1)) ?_
 refine zE (.c (I (lQ .i64 p1 7))) ?_
 refine zE (.c (Bo ((lQ .i64 p1 7) != 0))) ?_
 refine zP (.bool (((p0.Prop_ == 5) || (p0.Prop_ == 21)) && ((lQ .i64 p1 7) != 0))) ?_
 refine zk 1 ?_
 refine jV [57] (L2 := [(57, .c (Bo (((p0.Prop_ == 5) || (p0.Prop_ == 21)) && ((lQ .i64 p1 7) != 0))))]) (G2 := [(0, .blk 81 [I p0.Prop_, I p0.Source, I p0.N, Sx p0.Token])]) 37 ?_
 refine zi h (fun h => ?_) fun h => ?_
 refine za [4] ?_
 cases h
 exact aG zr
 refine aC ?_
 refine za [4] ?_
 cases h
 exact aG zr
 refine zx fun _ => ?_
 refine zk 4 ?_
 refine zE (.c (.ptr 0 1)) ?_
 refine zE (.c (I p0.Source)) ?_
 refine zE (.c (Bo (decide (p0.Source > 3)))) ?_
 refine zP (.bool ((decide (p0.Source < 0)) || (decide (p0.Source > 3)))) ?_
 refine zk 1 ?_
 refine jV [1, 2, 10] (L2 := [(1, .c (I p1)), (2, .c (.ptr 0 0)), (10, .c (Bo ((decide (p0.Source < 0)) || (decide (p0.Source > 3)))))]) (G2 := [(0, .blk 81 [I p0.Prop_, I p0.Source, I p0.N, Sx p0.Token])]) 16 ?_
 refine zi h (fun h => ?_) fun h => ?_
 exact aI (zv [(0, 0)] [1, 2, 10] 1) (aC (hj2 _ h))
 refine zx fun _ => ?_
 refine zk 4 ?_
 refine zE (.c (.ptr 0 1)) ?_
 refine zE (.c (I p0.Source)) ?_
 refine zE (.c (Bo (p0.Source != 0))) ?_
 refine zP (.bool ((p0.N != 0) && (p0.Source != 0))) ?_
 refine zk 1 ?_
 refine ze [1, 2, 10] ?_
 refine zi h (fun h => ?_) fun h => ?_
 exact aI (zv [(0, 0)] [1, 2, 10] 1) (aC (hj2 _ h))
 refine aT ?_
 refine zy fun _ => ?_
 refine zk 4 ?_
 refine zE (.c (.ptr 0 1)) ?_
 refine zE (.c (I p0.Source)) ?_
 refine zE (.c (Bo (p0.Source != 1))) ?_
 refine zP (.bool ((!(cG p0.Token (⟨#[]⟩ : ByteArray))) && (p0.Source != 1))) ?_
 refine zk 1 ?_
 refine bL ?_
 exact dI (zv [(0, 0)] [1, 2, 10] 1) (hj2 _ h)
def kG (e14 : cC) (j13 : Unit → Option Int) (p0 : bS) (v12 : Int) : Nat → Int → Option Int
 | 0, _ => none
 | n + 1, v19 => (if (decide (v19 < (List.length e14.Decls : Int))) = true then (idx e14.Decls v19).bind fun (e20 : cI) => (nA n e20 e14.States).bind fun (y21 : Int) => (if (y21 != 0) = true then some y21 else kG e14 j13 p0 v12 n (IntKind.wrap .i64 (v19 + 1))) else j13 ())
def kJ (p0 : bS) (j1 : Unit → Option Int) : Nat → Int → Option Int
 | 0, _ => none
 | n + 1, v12 => (if (decide (v12 < (List.length p0.Rules : Int))) = true then (aV (fun (_ : Unit) => kJ p0 j1 n (IntKind.wrap .i64 (v12 + 1))) (fun (j13 : Unit → Option Int) => (idx p0.Rules v12).bind fun (e14 : cC) => (if ((((decide (e14.Kind < 0)) || (decide (e14.Kind > 13))) || (decide (e14.UnderKind < 0))) || (decide (e14.UnderKind > 13))) = true then some 9 else (gd [(!(cG e14.Class (⟨#[]⟩ : ByteArray)))] (fO n e14.Class)).bind fun (y15 : Bool) => (gd [(!((!(cG e14.Class (⟨#[]⟩ : ByteArray))) && (!y15))), (!(cG e14.UnderClass (⟨#[]⟩ : ByteArray)))] (fO n e14.UnderClass)).bind fun (y16 : Bool) => (if (((!(cG e14.Class (⟨#[]⟩ : ByteArray))) && (!y15)) || ((!(cG e14.UnderClass (⟨#[]⟩ : ByteArray))) && (!y16))) = true then some 4 else (if ((decide (e14.States < 0)) || (decide (e14.States > 31))) = true then some 1 else (if (decide ((List.length e14.Decls : Int) > 50)) = true then some 2 else kG e14 j13 p0 v12 n 0)))))) else j1 ())
def pU  (n : Nat) (p0 : bS) : Option Int := (if (decide ((List.length p0.Rules : Int) > 100)) = true then some 2 else (aV (fun (_ : Unit) => some 0) (fun (j1 : Unit → Option Int) => kJ p0 j1 n 0)))
theorem xI  (n : Nat) (p0 : bS) (r : Int) (h : pU n p0 = some r) : cN E 34 0 [.agg [.lit (List.map aW p0.Rules)]] [] (.c (I r)) [] := by
 refine fW Tryz.func34 rfl ?_
 unfold pU at h
 refine za [1] ?_
 refine aK ?_
 refine zx fun _ => ?_
 refine zk 2 ?_
 refine zl aW p0.Rules ?_
 refine zk 1 ?_
 refine ze [1, 11] ?_
 refine zi h (fun h => ?_) fun h => ?_
 refine za [2] ?_
 cases h
 exact aG zr
 refine aC ?_
 refine aQ h (fun A j => ∀ u, j u = some r → A (mk [] [] 0)) (fun u h => ?_) (fun j1 Aj1 hj1 h => ?_)
 refine za [2] ?_
 cases h
 exact aG zr
 refine zx fun _ => ?_
 refine zk 2 ?_
 refine zl aW p0.Rules ?_
 refine zk 1 ?_
 refine ze [13, 14, 15] ?_
 refine aF ?_
 refine bA (fun n s => ∃ v12, kJ p0 j1 n v12 = some r ∧ s = mk [(13, .c (.lit (List.map aW p0.Rules))), (14, .c (I (List.length p0.Rules : Int))), (15, .c (I v12))] [] 0) n _ (zv [] [13, 14, 15] 0) ⟨_, h, rfl⟩ (fun s ⟨v12, h, _⟩ => nomatch h) ?_
 rintro n s ⟨v12, h, rfl⟩
 rw [kJ] at h
 refine za [13, 14, 15, 16] ?_
 refine aK ?_
 refine zi h (fun h => ?_) fun h => ?_
 refine aC ?_
 refine aQ h (fun A j => ∀ u, j u = some r → A (mk [(13, .c (.lit (List.map aW p0.Rules))), (14, .c (I (List.length p0.Rules : Int))), (15, .c (I v12))] [] 0)) (fun u h => ?_) (fun j13 Aj13 hj13 h => ?_)
 refine aT ?_
 refine zb ?_
 exact dI (zv [] [13, 14, 15] 0) (⟨_, h, rfl⟩)
 refine aF ?_
 refine zx fun _ => ?_
 obtain ⟨e14, he, h⟩ := aB h
 refine zd aW he ?_
 clear he
 refine zk 3 ?_
 refine ze [4, 13, 14, 15] ?_
 refine aK ?_
 refine aF ?_
 refine zx fun _ => ?_
 refine zk 4 ?_
 refine zE (.c (.ptr 3 0)) ?_
 refine zE (.c (I e14.Kind)) ?_
 refine zE (.c (Bo (decide (e14.Kind > 13)))) ?_
 refine zP (.bool ((decide (e14.Kind < 0)) || (decide (e14.Kind > 13)))) ?_
 refine zk 1 ?_
 refine zE (.c (.ptr 3 3)) ?_
 refine zE (.c (I e14.UnderKind)) ?_
 refine zE (.c (Bo (decide (e14.UnderKind < 0)))) ?_
 refine zP (.bool (((decide (e14.Kind < 0)) || (decide (e14.Kind > 13))) || (decide (e14.UnderKind < 0)))) ?_
 refine zk 1 ?_
 refine zE (.c (.ptr 3 3)) ?_
 refine zE (.c (I e14.UnderKind)) ?_
 refine zE (.c (Bo (decide (e14.UnderKind > 13)))) ?_
 refine zP (.bool ((((decide (e14.Kind < 0)) || (decide (e14.Kind > 13))) || (decide (e14.UnderKind < 0))) || (decide (e14.UnderKind > 13)))) ?_
 refine zk 1 ?_
 refine jV [4, 13, 14, 15, 19] (L2 := [(13, .c (.lit (List.map aW p0.Rules))), (14, .c (I (List.length p0.Rules : Int))), (15, .c (I v12)), (4, .c (.ptr 3 0)), (19, .c (Bo ((((decide (e14.Kind < 0)) || (decide (e14.Kind > 13))) || (decide (e14.UnderKind < 0))) || (decide (e14.UnderKind > 13)))))]) (G2 := [(3, .blk 63 [I e14.Kind, Sx e14.Class, I e14.States, I e14.UnderKind, Sx e14.UnderClass, .lit (List.map bK e14.Decls)])]) 24 ?_
 refine zi h (fun h => ?_) fun h => ?_
 refine za [2] ?_
 cases h
 exact aG zr
 refine zx fun _ => ?_
 refine zk 4 ?_
 refine zE (.c (.ptr 3 1)) ?_
 refine zE (.c (Sx e14.Class)) ?_
 obtain ⟨y15, he, h⟩ := aB h
 refine Ho [(!(cG e14.Class (⟨#[]⟩ : ByteArray)))] Cp (fun hg => jT n _ y15 (bT he hg)) ?_
 clear he
 refine zE (.c (Bo (!y15))) ?_
 refine zP (.bool ((!(cG e14.Class (⟨#[]⟩ : ByteArray))) && (!y15))) ?_
 refine zk 1 ?_
 refine zE (.c (.ptr 3 4)) ?_
 refine zE (.c (Sx e14.UnderClass)) ?_
 refine zE (.c (Bo (!(cG e14.UnderClass (⟨#[]⟩ : ByteArray))))) ?_
 refine zF [(!((!(cG e14.Class (⟨#[]⟩ : ByteArray))) && (!y15)))] (.c (Bo (!(cG e14.UnderClass (⟨#[]⟩ : ByteArray))))) ?_
 refine zE (.c (.ptr 3 4)) ?_
 refine zE (.c (Sx e14.UnderClass)) ?_
 obtain ⟨y16, he, h⟩ := aB h
 refine Ho [(!((!(cG e14.Class (⟨#[]⟩ : ByteArray))) && (!y15))), (!(cG e14.UnderClass (⟨#[]⟩ : ByteArray)))] Cp (fun hg => jT n _ y16 (bT he hg)) ?_
 clear he
 refine zE (.c (Bo (!y16))) ?_
 refine zP (.bool ((!(cG e14.UnderClass (⟨#[]⟩ : ByteArray))) && (!y16))) ?_
 refine zP (.bool (((!(cG e14.Class (⟨#[]⟩ : ByteArray))) && (!y15)) || ((!(cG e14.UnderClass (⟨#[]⟩ : ByteArray))) && (!y16)))) ?_
 refine zk 1 ?_
 refine jV [4, 13, 14, 15, 38] (L2 := [(13, .c (.lit (List.map aW p0.Rules))), (14, .c (I (List.length p0.Rules : Int))), (15, .c (I v12)), (4, .c (.ptr 3 0)), (38, .c (Bo (((!(cG e14.Class (⟨#[]⟩ : ByteArray))) && (!y15)) || ((!(cG e14.UnderClass (⟨#[]⟩ : ByteArray))) && (!y16)))))]) (G2 := [(3, .blk 63 [I e14.Kind, Sx e14.Class, I e14.States, I e14.UnderKind, Sx e14.UnderClass, .lit (List.map bK e14.Decls)])]) 45 ?_
 refine zi h (fun h => ?_) fun h => ?_
 refine za [2] ?_
 cases h
 exact aG zr
 refine zx fun _ => ?_
 refine zk 4 ?_
 refine zE (.c (.ptr 3 2)) ?_
 refine zE (.c (I e14.States)) ?_
 refine zE (.c (Bo (decide (e14.States > 31)))) ?_
 refine zP (.bool ((decide (e14.States < 0)) || (decide (e14.States > 31)))) ?_
 refine zk 1 ?_
 refine ze [4, 13, 14, 15, 59] ?_
 refine zi h (fun h => ?_) fun h => ?_
 refine za [2] ?_
 cases h
 exact aG zr
 refine zx fun _ => ?_
 refine zk 2 ?_
 refine zl bK e14.Decls ?_
 refine zk 2 ?_
 refine ze [4, 13, 14, 15, 68] ?_
 refine zi h (fun h => ?_) fun h => ?_
 refine za [2] ?_
 cases h
 exact aG zr
 refine aC ?_
 refine zx fun _ => ?_
 refine zk 2 ?_
 refine zl bK e14.Decls ?_
 refine zk 1 ?_
 refine jV [4, 13, 14, 15, 74, 75, 76] (L2 := [(13, .c (.lit (List.map aW p0.Rules))), (14, .c (I (List.length p0.Rules : Int))), (15, .c (I v12)), (4, .c (.ptr 3 0)), (74, .c (.lit (List.map bK e14.Decls))), (75, .c (I (List.length e14.Decls : Int))), (76, .c (I 0))]) (G2 := [(3, .blk 63 [I e14.Kind, Sx e14.Class, I e14.States, I e14.UnderKind, Sx e14.UnderClass, .lit (List.map bK e14.Decls)])]) 63 ?_
 refine aF ?_
 refine bA (fun n s => ∃ v19, kG e14 j13 p0 v12 n v19 = some r ∧ s = mk [(13, .c (.lit (List.map aW p0.Rules))), (14, .c (I (List.length p0.Rules : Int))), (15, .c (I v12)), (4, .c (.ptr 0 0)), (74, .c (.lit (List.map bK e14.Decls))), (75, .c (I (List.length e14.Decls : Int))), (76, .c (I v19))] [(0, .blk 63 [I e14.Kind, Sx e14.Class, I e14.States, I e14.UnderKind, Sx e14.UnderClass, .lit (List.map bK e14.Decls)])] 1) n _ (zv [(3, 0)] [13, 14, 15, 4, 74, 75, 76] 1) ⟨_, h, rfl⟩ (fun s ⟨v19, h, _⟩ => nomatch h) ?_
 rintro n s ⟨v19, h, rfl⟩
 rw [kG] at h
 refine za [4, 13, 14, 15, 74, 75, 76, 77] ?_
 refine aK ?_
 refine zi h (fun h => ?_) fun h => ?_
 refine aC ?_
 refine aK ?_
 refine aF ?_
 refine zx fun _ => ?_
 obtain ⟨e20, he, h⟩ := aB h
 refine zd bK he ?_
 clear he
 refine zk 3 ?_
 refine ze [4, 6, 13, 14, 15, 74, 75, 76] ?_
 refine zx fun _ => ?_
 refine zk 3 ?_
 obtain ⟨y21, he, h⟩ := aB h
 refine zc fok67 (tS n _ _ y21 he) ?_
 clear he
 refine zk 1 ?_
 refine ze [4, 7, 13, 14, 15, 74, 75, 76] ?_
 refine za [4, 7, 13, 14, 15, 74, 75, 76, 85] ?_
 refine zi h (fun h => ?_) fun h => ?_
 refine za [2] ?_
 cases h
 exact aG zr
 refine aC ?_
 refine aT ?_
 refine zb ?_
 exact dI (zv [(0, 0)] [13, 14, 15, 4, 74, 75, 76] 1) (⟨_, h, rfl⟩)
 exact aI (zv [] [13, 14, 15] 0) (bD (hj13 _ h))
 exact aI (zv [] [] 0) (bD (hj1 _ h))
def tQ  (n : Nat) (p0 : Int) : Option Bool := some ((decide (p0 ≥ 0)) && (decide (p0 ≤ 16777215)))
theorem Db  (n : Nat) (p0 : Int) (r : Bool) (h : tQ n p0 = some r) : cN E 68 0 [.c (I p0)] [] (.c (Bo r)) [] := by
 refine fW Tryz.func68 rfl ?_
 unfold tQ at h
 refine za [0] ?_
 refine zx fun _ => ?_
 refine zk 3 ?_
 refine zE (.c (I p0)) ?_
 refine zE (.c (Bo (decide (p0 ≤ 16777215)))) ?_
 refine zP (.bool ((decide (p0 ≥ 0)) && (decide (p0 ≤ 16777215)))) ?_
 refine zk 1 ?_
 refine ze [2] ?_
 cases h
 exact aG zr
def kH (e15 : wQ) (j14 : List (ByteArray × Bool) → Option Int) (v13 : List (ByteArray × Bool)) (p0 : mY) (v12 : Int) : Nat → Int → Option Int
 | 0, _ => none
 | n + 1, v19 => (if (decide (v19 < 4)) = true then (idx (gW.toL (gW.mk e15.Light e15.Dark e15.HighLight e15.HighDark)) v19).bind fun (e20 : Int) => (gd [(e20 != (-1 : Int))] (tQ n e20)).bind fun (y21 : Bool) => (if ((e20 != (-1 : Int)) && (!y21)) = true then some 1 else kH e15 j14 v13 p0 v12 n (IntKind.wrap .i64 (v19 + 1))) else j14 (iP e15.Name true v13))
def kI (p0 : mY) (j1 : Unit → Option Int) : Nat → Int → List (ByteArray × Bool) → Option Int
 | 0, _, _ => none
 | n + 1, v12, v13 => (if (decide (v12 < (List.length p0.Tokens : Int))) = true then (aV (fun (v23 : List (ByteArray × Bool)) => kI p0 j1 n (IntKind.wrap .i64 (v12 + 1)) v23) (fun (j14 : List (ByteArray × Bool) → Option Int) => (idx p0.Tokens v12).bind fun (e15 : wQ) => (fO n e15.Name).bind fun (y16 : Bool) => (if (!y16) = true then some 4 else (some (gN e15.Name v13, jF e15.Name v13)).bind fun (y17 : (Bool × Bool)) => (if y17.1 = true then some 6 else kH e15 j14 v13 p0 v12 n 0)))) else j1 ())
def qA  (n : Nat) (p0 : mY) : Option Int := (if (decide ((List.length p0.Tokens : Int) > 100)) = true then some 2 else (aV (fun (_ : Unit) => some 0) (fun (j1 : Unit → Option Int) => kI p0 j1 n 0 ([] : List (ByteArray × Bool)))))
theorem xV  (n : Nat) (p0 : mY) (r : Int) (h : qA n p0 = some r) : cN E 35 0 [.agg [.lit (List.map cK p0.Tokens)]] [] (.c (I r)) [] := by
 refine fW Tryz.func35 rfl ?_
 unfold qA at h
 refine za [1] ?_
 refine aK ?_
 refine zx fun _ => ?_
 refine zk 2 ?_
 refine zl cK p0.Tokens ?_
 refine zk 1 ?_
 refine ze [1, 11] ?_
 refine zi h (fun h => ?_) fun h => ?_
 refine za [2] ?_
 cases h
 exact aG zr
 refine aC ?_
 refine za [1, 3] ?_
 refine aQ h (fun A j => ∀ u, j u = some r → A (mk [] [] 0)) (fun u h => ?_) (fun j1 Aj1 hj1 h => ?_)
 refine za [2] ?_
 cases h
 exact aG zr
 refine zx fun _ => ?_
 refine zk 2 ?_
 refine zl cK p0.Tokens ?_
 refine zk 1 ?_
 refine ze [3, 14, 15, 16] ?_
 refine aF ?_
 refine bA (fun n s => ∃ v12 v13, kI p0 j1 n v12 v13 = some r ∧ s = mk [(3, .c (.mapr 0)), (14, .c (.lit (List.map cK p0.Tokens))), (15, .c (I (List.length p0.Tokens : Int))), (16, .c (I v12))] [(0, .map false (List.map (eM Value.string eB) v13))] 1) n _ (zv [(6, 0)] [3, 14, 15, 16] 1) ⟨_, _, h, rfl⟩ (fun s ⟨v12, v13, h, _⟩ => nomatch h) ?_
 rintro n s ⟨v12, v13, h, rfl⟩
 rw [kI] at h
 refine za [3, 14, 15, 16, 17] ?_
 refine aK ?_
 refine zi h (fun h => ?_) fun h => ?_
 refine aC ?_
 refine aQ h (fun A j => ∀ v23, j v23 = some r → A (mk [(3, .c (.mapr 0)), (14, .c (.lit (List.map cK p0.Tokens))), (15, .c (I (List.length p0.Tokens : Int))), (16, .c (I v12))] [(0, .map false (List.map (eM Value.string eB) v23))] 1)) (fun v23 h => ?_) (fun j14 Aj14 hj14 h => ?_)
 refine aT ?_
 refine zb ?_
 exact dI (zv [(0, 0)] [3, 14, 15, 16] 1) (⟨_, _, h, rfl⟩)
 refine aF ?_
 refine zx fun _ => ?_
 obtain ⟨e15, he, h⟩ := aB h
 refine zd cK he ?_
 clear he
 refine zk 3 ?_
 refine ze [3, 5, 14, 15, 16] ?_
 refine aK ?_
 refine aF ?_
 refine zx fun _ => ?_
 refine zk 2 ?_
 obtain ⟨y16, he, h⟩ := aB h
 refine zc Cp (jT n _ y16 he) ?_
 clear he
 refine zk 2 ?_
 refine ze [3, 5, 14, 15, 16, 20] ?_
 refine zi h (fun h => ?_) fun h => ?_
 refine za [2] ?_
 cases h
 exact aG zr
 refine zx fun _ => ?_
 refine zk 3 ?_
 obtain ⟨y17, he, h⟩ := aB h
 refine zw (v := .c (Bo y17.1)) [0] (cZ (kf := Value.string) (enc := eB) (l := v13) (k := e15.Name) (ok := false) (kk := .str) (j := ⟨.boo, 1, 1, [.bool false]⟩) (p := y17) (v := .c (Bo y17.1)) he (by kernel_rfl) Ia (by kernel_rfl) (by kernel_rfl) (by kernel_rfl)) ?_
 clear he
 refine zk 1 ?_
 refine ze [3, 5, 14, 15, 16, 25] ?_
 refine zi h (fun h => ?_) fun h => ?_
 refine za [2] ?_
 cases h
 exact aG zr
 refine aC ?_
 refine zx fun _ => ?_
 refine zk 3 ?_
 refine kA (kf := Value.string) (enc := eB) (l := v13) (k := e15.Name) (v := true) (n := 0) (ag := false) (kk := .str) (by kernel_rfl) Ia (by kernel_rfl) (by kernel_rfl) rfl rfl ?_
 refine jV [3, 5, 14, 15, 16] (L2 := [(3, .c (.mapr 0)), (14, .c (.lit (List.map cK p0.Tokens))), (15, .c (I (List.length p0.Tokens : Int))), (16, .c (I v12)), (5, .c (.ptr 4 0))]) (G2 := [(0, .map false (List.map (eM Value.string eB) (iP e15.Name true v13))), (4, .blk 85 [Sx e15.Name, I e15.Light, I e15.Dark, I e15.HighLight, I e15.HighDark])]) 20 ?_
 refine za [3, 14, 15, 16, 41, 42] ?_
 refine aF ?_
 refine bA (fun n s => ∃ v19, kH e15 j14 v13 p0 v12 n v19 = some r ∧ s = mk [(3, .c (.mapr 0)), (14, .c (.lit (List.map cK p0.Tokens))), (15, .c (I (List.length p0.Tokens : Int))), (16, .c (I v12)), (41, .agg [I e15.Light, I e15.Dark, I e15.HighLight, I e15.HighDark]), (42, .c (I v19))] [(0, .map false (List.map (eM Value.string eB) (iP e15.Name true v13)))] 1) n _ (zv [(0, 0)] [3, 14, 15, 16, 41, 42] 1) ⟨_, h, rfl⟩ (fun s ⟨v19, h, _⟩ => nomatch h) ?_
 rintro n s ⟨v19, h, rfl⟩
 rw [kH] at h
 refine za [3, 14, 15, 16, 41, 42, 43] ?_
 refine aK ?_
 refine zi h (fun h => ?_) fun h => ?_
 refine aC ?_
 refine aK ?_
 refine aF ?_
 refine zx fun _ => ?_
 obtain ⟨e20, he, h⟩ := aB h
 refine cF (v := .c (I e20)) (foot := []) (Bb (enc := aJ) (xs := (gW.toL (gW.mk e15.Light e15.Dark e15.HighLight e15.HighDark))) (ix := v19) (e := e20) (len := 4) (j := ⟨.int .i64, 1, 8, [.int .i64 0]⟩) (v := .c (I e20)) he (by kernel_rfl) (by kernel_rfl) (fun x => by kernel_rfl) (by decide) (by kernel_rfl)) (by kernel_rfl) rfl rfl ?_
 clear he
 refine zk 1 ?_
 refine ze [3, 7, 14, 15, 16, 41, 42] ?_
 refine zx fun _ => ?_
 refine zk 3 ?_
 refine zE (.c (I e20)) ?_
 obtain ⟨y21, he, h⟩ := aB h
 refine Ho [(e20 != (-1 : Int))] aA3 (fun hg => Db n _ y21 (bT he hg)) ?_
 clear he
 refine zE (.c (Bo (!y21))) ?_
 refine zP (.bool ((e20 != (-1 : Int)) && (!y21))) ?_
 refine ze [3, 14, 15, 16, 41, 42, 51] ?_
 refine zi h (fun h => ?_) fun h => ?_
 refine za [2] ?_
 cases h
 exact aG zr
 refine aC ?_
 refine aT ?_
 refine zb ?_
 exact dI (zv [(0, 0)] [3, 14, 15, 16, 41, 42] 1) (⟨_, h, rfl⟩)
 exact aI (zv [(0, 0)] [3, 14, 15, 16] 1) (bD (hj14 _ h))
 exact aI (zv [] [] 0) (bD (hj1 _ h))
def fQ (y2 : (aR × Bool)) (self_view_preorder : (List (Int × aR)) → Int → Option (List Int)) (p0 : (List (Int × aR))) (j1 : List Int → Option (List Int)) : Nat → List Int → Int → Option (List Int)
 | 0, _, _ => none
 | n + 1, v6, v7 => (if (decide (v7 < (List.length y2.1.Kids : Int))) = true then (idx y2.1.Kids v7).bind fun (e8 : Int) => (self_view_preorder p0 e8).bind fun (y9 : (List Int)) => (pE 8 v6 y9).bind fun (l10 : List Int) => fQ y2 self_view_preorder p0 j1 n l10 (IntKind.wrap .i64 (v7 + 1)) else j1 v6)
def jR (self_view_preorder : (List (Int × aR)) → Int → Option (List Int)) (n : Nat) (p0 : (List (Int × aR))) (p1 : Int) : Option (List Int) := (aV (fun (v13 : List Int) => some v13) (fun (j1 : List Int → Option (List Int)) => (some (gN p1 p0, jF p1 p0)).bind fun (y2 : (aR × Bool)) => fQ y2 self_view_preorder p0 j1 n [p1] 0))
theorem tI (self_view_preorder : (List (Int × aR)) → Int → Option (List Int)) (ih_view_preorder : ∀ (p0 : (List (Int × aR))) (p1 : Int) (r : (List Int)), self_view_preorder p0 p1 = some r → cN E 74 0 [.c (.lmap true (List.map (eM (Value.int .i64) aE) p0)), .c (I p1)] [] (.c (.lit (List.map aJ r))) []) (n : Nat) (p0 : (List (Int × aR))) (p1 : Int) (r : (List Int)) (h : jR self_view_preorder n p0 p1 = some r) : cN E 74 0 [.c (.lmap true (List.map (eM (Value.int .i64) aE) p0)), .c (I p1)] [] (.c (.lit (List.map aJ r))) [] := by
 refine fW Tryz.func74 rfl ?_
 unfold jR at h
 refine za [0, 1] ?_
 refine za [0, 1, 5] ?_
 refine aQ h (fun A j => ∀ v13, j v13 = some r → A (mk [(5, .c (.app 0 (List.map aJ v13)))] [(0, .tok 3 1 (List.length v13))] 1)) (fun v13 h => ?_) (fun j1 Aj1 hj1 h => ?_)
 refine za [4] ?_
 cases h
 exact aG zr
 refine zx fun _ => ?_
 refine zk 2 ?_
 obtain ⟨y2, he, h⟩ := aB h
 refine zw (v := .agg [I y2.1.ID, I y2.1.Parent, I y2.1.Kind, Sx y2.1.Key, .lit (List.map aM y2.1.Attrs), .lit (List.map aD y2.1.Actions), .lit (List.map aJ y2.1.Kids)]) [] (cZ (kf := (Value.int .i64)) (enc := aE) (l := p0) (k := p1) (ok := false) (kk := .int .i64) (j := ⟨.st [(3, 0, 1), (3, 1, 1), (3, 2, 1), (9, 3, 1), (55, 4, 1), (56, 5, 1), (22, 6, 1)], 7, 112, [.int .i64 0, .int .i64 0, .int .i64 0, .string ⟨#[]⟩, .slice none 0 0, .slice none 0 0, .slice none 0 0]⟩) (p := y2) (v := .agg [I y2.1.ID, I y2.1.Parent, I y2.1.Kind, Sx y2.1.Key, .lit (List.map aM y2.1.Attrs), .lit (List.map aD y2.1.Actions), .lit (List.map aJ y2.1.Kids)]) he (by kernel_rfl) gH (by kernel_rfl) (by kernel_rfl) (by kernel_rfl)) ?_
 clear he
 refine zk 1 ?_
 refine zl aJ y2.1.Kids ?_
 refine zk 1 ?_
 refine ze [0, 5, 13, 14, 15] ?_
 refine aF ?_
 refine bA (fun n s => ∃ v6 v7, fQ y2 self_view_preorder p0 j1 n v6 v7 = some r ∧ s = mk [(0, .c (.lmap true (List.map (eM (Value.int .i64) aE) p0))), (5, .c (.app 0 (List.map aJ v6))), (13, .c (.lit (List.map aJ y2.1.Kids))), (14, .c (I (List.length y2.1.Kids : Int))), (15, .c (I v7))] [(0, .tok 3 1 (List.length v6))] 1) n _ (zv [(2, 0)] [0, 5, 13, 14, 15] 1) ⟨_, _, h, rfl⟩ (fun s ⟨v6, v7, h, _⟩ => nomatch h) ?_
 rintro n s ⟨v6, v7, h, rfl⟩
 rw [fQ] at h
 refine za [0, 5, 13, 14, 15, 16] ?_
 refine aK ?_
 refine zi h (fun h => ?_) fun h => ?_
 refine aC ?_
 refine aK ?_
 refine aF ?_
 refine zx fun _ => ?_
 obtain ⟨e8, he, h⟩ := aB h
 refine zd aJ he ?_
 clear he
 refine zk 2 ?_
 refine ze [0, 5, 7, 13, 14, 15] ?_
 refine zy fun _ => ?_
 refine zk 3 ?_
 obtain ⟨y9, he, h⟩ := aB h
 refine zc Tx (ih_view_preorder _ _ y9 he) ?_
 clear he
 obtain ⟨l10, he, h⟩ := aB h
 refine cB (enc := aJ) (l := v6) (els := y9) (r := l10) (old := some 0) (e := 3) (sz := 1) (bytes := 8) (k := (List.length v6)) (nm := 9) he (by kernel_rfl) (by kernel_rfl) (fun x => by kernel_rfl) (by kernel_rfl) (by kernel_rfl) rfl rfl rfl ?_
 clear he
 refine zk 1 ?_
 refine bL ?_
 refine aT ?_
 refine zb ?_
 exact dI (zv [(9, 0)] [0, 5, 13, 14, 15] 1) (⟨_, _, h, rfl⟩)
 exact aI (zv [(0, 0)] [5] 1) (bD (hj1 _ h))
def eV : Nat → (List (Int × aR)) → Int → Option (List Int)
 | 0, _, _ => none
 | n + 1, p0, p1 => jR (fun a0 a1 => eV n a0 a1) n p0 p1
theorem rU (n : Nat) : (∀ (p0 : (List (Int × aR))) (p1 : Int) (r : (List Int)), eV n p0 p1 = some r → cN E 74 0 [.c (.lmap true (List.map (eM (Value.int .i64) aE) p0)), .c (I p1)] [] (.c (.lit (List.map aJ r))) []) := by
 induction n with
 | zero => intro p0 p1 r h; rw [eV] at h; cases h
 | succ n ih => intro p0 p1 r h; rw [eV] at h; exact tI _ ih n _ _ r h
end Go.Proofs.YtojkihhnioeggaaGreatDoor.S
