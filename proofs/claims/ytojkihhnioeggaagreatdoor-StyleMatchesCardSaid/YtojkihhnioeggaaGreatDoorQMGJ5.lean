import Derived.Test.YtojkihhnioeggaaGreatDoorQMGJ4
set_option linter.unusedVariables false
set_option linter.unusedSimpArgs false
set_option maxRecDepth 100000
set_option maxHeartbeats 4000000
namespace Go.Proofs.YtojkihhnioeggaaGreatDoor.S
open Go Go.Bm
def jK (self_expr_copyType : aS → Option aS) (n : Nat) (p0 : aS) : Option aS := (if ((List.length p0.Of : Int) == 0) = true then some (aS.mk p0.Kind ([] : List aS)) else (idx p0.Of 0).bind fun (e1 : aS) => (self_expr_copyType e1).bind fun (y2 : aS) => (nZ n y2).bind fun (y3 : aS) => some y3)
theorem tK (self_expr_copyType : aS → Option aS) (ih_expr_copyType : ∀ (p0 : aS) (r : aS), self_expr_copyType p0 = some r → cN E 148 0 [.agg [I p0.Kind, .lit (List.map bF p0.Of)]] [] (.agg [I r.Kind, .lit (List.map bF r.Of)]) []) (n : Nat) (p0 : aS) (r : aS) (h : jK self_expr_copyType n p0 = some r) : cN E 148 0 [.agg [I p0.Kind, .lit (List.map bF p0.Of)]] [] (.agg [I r.Kind, .lit (List.map bF r.Of)]) [] := by
 refine fW Tryz.func148 rfl ?_
 unfold jK at h
 refine za [1, 2] ?_
 refine aK ?_
 refine zx fun _ => ?_
 refine zk 2 ?_
 refine zl bF p0.Of ?_
 refine zk 1 ?_
 refine ze [1, 2, 6] ?_
 refine zi h (fun h => ?_) fun h => ?_
 refine za [2] ?_
 cases h
 exact aG zr
 refine aC ?_
 refine zx fun _ => ?_
 refine zk 2 ?_
 obtain ⟨e1, he, h⟩ := aB h
 refine cF (v := .c (.imm [I e1.Kind, .lit (List.map bF e1.Of)])) (foot := []) (dR (enc := bF) (sz := 2) (l := p0.Of) (ix := 0) he (by kernel_rfl) (fU e1) (by kernel_rfl)) (by kernel_rfl) rfl rfl ?_
 clear he
 refine zk 1 ?_
 obtain ⟨y2, he, h⟩ := aB h
 refine zc Rj (ih_expr_copyType _ y2 he) ?_
 clear he
 obtain ⟨y3, he, h⟩ := aB h
 refine zc Mb (pK n _ y3 he) ?_
 clear he
 refine zk 1 ?_
 refine jV [2] (L2 := [(2, .c (.ptr 1 0))]) (G2 := [(0, .blk 190 [I p0.Kind, .lit (List.map bF p0.Of)]), (1, .blk 190 [I y3.Kind, .lit (List.map bF y3.Of)])]) 13 ?_
 cases h
 exact aG zr
def fY : Nat → aS → Option aS
 | 0, _ => none
 | n + 1, p0 => jK (fun a0 => fY n a0) n p0
theorem yK (n : Nat) : (∀ (p0 : aS) (r : aS), fY n p0 = some r → cN E 148 0 [.agg [I p0.Kind, .lit (List.map bF p0.Of)]] [] (.agg [I r.Kind, .lit (List.map bF r.Of)]) []) := by
 induction n with
 | zero => intro p0 r h; rw [fY] at h; cases h
 | succ n ih => intro p0 r h; rw [fY] at h; exact tK _ ih n _ r h
def kX  (n : Nat) (p0 : aH) : Option (aS × Int) := (dX n p0 0 0).bind fun (y1 : (aS × Int × Int)) => (if (y1.2.1 != 0) = true then some ((aS.mk 0 ([] : List aS)), y1.2.1) else (fY n y1.1).bind fun (y2 : aS) => some (y2, 0))
theorem Cc  (n : Nat) (p0 : aH) (r : (aS × Int)) (h : kX n p0 = some r) : cN E 144 0 [.agg [I p0.Kind, I p0.N, Sx p0.S, .lit (List.map aO p0.L)]] [] (.tup [.agg [I r.1.Kind, .lit (List.map bF r.1.Of)], .c (I r.2)]) [] := by
 refine fW Tryz.func144 rfl ?_
 unfold kX at h
 refine za [1, 2] ?_
 refine za [1, 2, 4] ?_
 refine zx fun _ => ?_
 refine zk 1 ?_
 obtain ⟨y1, he, h⟩ := aB h
 refine zo [(0, 3)] Ro (Ev n _ _ _ y1 he) ?_
 clear he
 refine zk 6 ?_
 refine ze [2, 5, 6] ?_
 refine aK ?_
 refine za [2, 5, 6, 13] ?_
 refine zi h (fun h => ?_) fun h => ?_
 refine za [2, 3] ?_
 cases h
 exact aG zr
 refine aC ?_
 refine zx fun _ => ?_
 refine zk 1 ?_
 obtain ⟨y2, he, h⟩ := aB h
 refine zc Rj (yK n _ y2 he) ?_
 clear he
 refine zk 2 ?_
 refine ze [2, 3] ?_
 cases h
 exact aG zr
def jL  (n : Nat) (p0 : aH) : Option Int := (kX n p0).bind fun (y1 : (aS × Int)) => some y1.2
theorem vV  (n : Nat) (p0 : aH) (r : Int) (h : jL n p0 = some r) : cN E 139 0 [.agg [I p0.Kind, I p0.N, Sx p0.S, .lit (List.map aO p0.L)]] [] (.c (I r)) [] := by
 refine fW Tryz.func139 rfl ?_
 unfold jL at h
 refine za [1] ?_
 refine zx fun _ => ?_
 refine zk 1 ?_
 obtain ⟨y1, he, h⟩ := aB h
 refine zc Yu (Cc n _ y1 he) ?_
 clear he
 refine zk 6 ?_
 refine ze [4] ?_
 refine za [2] ?_
 cases h
 exact aG zr
def eN (p0 : (List aZ)) (j1 : Unit → Option Int) : Nat → Int → Option Int
 | 0, _ => none
 | n + 1, v6 => (if (decide (v6 < (List.length p0 : Int))) = true then (idx p0 v6).bind fun (e7 : aZ) => (fO n e7.Name).bind fun (y8 : Bool) => (if (!y8) = true then some 4 else (gd [(decide (v6 > 0))] (idx p0 (IntKind.wrap .i64 (v6 - 1)))).bind fun (e9 : aZ) => (if ((decide (v6 > 0)) && (!(Ko e9.Name e7.Name))) = true then some 10 else (jL n e7.Value).bind fun (y10 : Int) => (if (y10 != 0) = true then some y10 else eN p0 j1 n (IntKind.wrap .i64 (v6 + 1))))) else j1 ())
def lX  (n : Nat) (p0 : (List aZ)) : Option Int := (aV (fun (_ : Unit) => some 0) (fun (j1 : Unit → Option Int) => eN p0 j1 n 0))
theorem wK  (n : Nat) (p0 : (List aZ)) (r : Int) (h : lX n p0 = some r) : cN E 131 0 [.c (.lit (List.map aM p0))] [] (.c (I r)) [] := by
 refine fW Tryz.func131 rfl ?_
 unfold lX at h
 refine za [0] ?_
 refine aQ h (fun A j => ∀ u, j u = some r → A (mk [] [] 0)) (fun u h => ?_) (fun j1 Aj1 hj1 h => ?_)
 refine za [2] ?_
 cases h
 exact aG zr
 refine zx fun _ => ?_
 refine zk 1 ?_
 refine zl aM p0 ?_
 refine zk 1 ?_
 refine ze [0, 6, 7, 8] ?_
 refine aF ?_
 refine bA (fun n s => ∃ v6, eN p0 j1 n v6 = some r ∧ s = mk [(0, .c (.lit (List.map aM p0))), (6, .c (.lit (List.map aM p0))), (7, .c (I (List.length p0 : Int))), (8, .c (I v6))] [] 0) n _ (zv [] [0, 6, 7, 8] 0) ⟨_, h, rfl⟩ (fun s ⟨v6, h, _⟩ => nomatch h) ?_
 rintro n s ⟨v6, h, rfl⟩
 rw [eN] at h
 refine za [0, 6, 7, 8, 9] ?_
 refine aK ?_
 refine zi h (fun h => ?_) fun h => ?_
 refine aC ?_
 refine aK ?_
 refine aF ?_
 refine zx fun _ => ?_
 refine zk 1 ?_
 obtain ⟨e7, he, h⟩ := aB h
 refine zd aM he ?_
 clear he
 refine zk 4 ?_
 refine ze [0, 3, 4, 6, 7, 8] ?_
 refine aK ?_
 refine aF ?_
 refine zx fun _ => ?_
 refine zk 2 ?_
 obtain ⟨y8, he, h⟩ := aB h
 refine zc Cp (jT n _ y8 he) ?_
 clear he
 refine zk 2 ?_
 refine ze [0, 3, 4, 6, 7, 8, 13] ?_
 refine zi h (fun h => ?_) fun h => ?_
 refine za [2] ?_
 cases h
 exact aG zr
 refine wP [[], [0], [1, 0], [2, 1, 0], [2, 1, 0], [4, 2, 1, 0], [3, 5, 2, 1, 0, 4], [6, 2, 3, 5, 1, 0, 4], [7, 2, 6, 3, 5, 1, 0, 4], [2, 1, 0], [9, 2, 1, 0], [8, 10, 2, 7, 6, 3, 5, 1, 0, 4, 9], [2, 11, 1, 0, 8, 10, 7, 6, 3, 5, 4, 9], [12, 2, 11, 1, 0, 8, 10, 7, 6, 3, 5, 4, 9]] fun _ => ?_
 refine zk 3 ?_
 refine zE (.c (.lit (List.map aM p0))) ?_
 refine zE (.c (I v6)) ?_
 refine zE (.c (I (IntKind.wrap .i64 (v6 - 1)))) ?_
 obtain ⟨e9, he, h⟩ := aB h
 refine jW (e := [(decide (v6 > 0))]) [(22, .c (.lit (List.map aM p0)), some 1), (24, .c (I (IntKind.wrap .i64 (v6 - 1))), some 1)] (v := .c (.imm [Sx e9.Name, I e9.Value.Kind, I e9.Value.N, Sx e9.Value.S, .lit (List.map aO e9.Value.L)])) (foot := []) (by kernel_rfl) (by kernel_rfl) (by kernel_rfl) (fun hg => dR (enc := aM) (sz := 5) (l := p0) (ix := (IntKind.wrap .i64 (v6 - 1))) (bT he hg) (by kernel_rfl) (by kernel_rfl) (by kernel_rfl)) rfl rfl ?_
 clear he
 refine zE (.c (.imm [Sx e9.Name, I e9.Value.Kind, I e9.Value.N, Sx e9.Value.S, .lit (List.map aO e9.Value.L)])) ?_
 refine zE (.c (Sx e9.Name)) ?_
 refine zE (.c (.ptr 4 0)) ?_
 refine zE (.c (Sx e7.Name)) ?_
 refine zE (.c (Bo (!(Ko e9.Name e7.Name)))) ?_
 refine zP (.bool ((decide (v6 > 0)) && (!(Ko e9.Name e7.Name)))) ?_
 refine zk 1 ?_
 refine jV [0, 4, 6, 7, 8, 18] (L2 := [(0, .c (.lit (List.map aM p0))), (6, .c (.lit (List.map aM p0))), (7, .c (I (List.length p0 : Int))), (8, .c (I v6)), (4, .c (.ptr 4 0)), (18, .c (Bo ((decide (v6 > 0)) && (!(Ko e9.Name e7.Name)))))]) (G2 := [(4, .blk 172 [Sx e7.Name, I e7.Value.Kind, I e7.Value.N, Sx e7.Value.S, .lit (List.map aO e7.Value.L)])]) 26 ?_
 refine zi h (fun h => ?_) fun h => ?_
 refine za [2] ?_
 cases h
 exact aG zr
 refine aC ?_
 refine zx fun _ => ?_
 refine zk 2 ?_
 obtain ⟨y10, he, h⟩ := aB h
 refine zc Rv (vV n _ y10 he) ?_
 clear he
 refine zk 1 ?_
 refine ze [0, 5, 6, 7, 8] ?_
 refine za [0, 5, 6, 7, 8, 36] ?_
 refine zi h (fun h => ?_) fun h => ?_
 refine za [2] ?_
 cases h
 exact aG zr
 refine aC ?_
 refine aT ?_
 refine zb ?_
 exact dI (zv [] [0, 6, 7, 8] 0) (⟨_, h, rfl⟩)
 exact aI (zv [] [] 0) (bD (hj1 _ h))
def gK (e15 : cE) (j14 : Unit → Option Int) (p0 : (List cE)) (v13 : Int) : Nat → Int → Option Int
 | 0, _ => none
 | n + 1, v21 => (if (decide (v21 < (List.length e15.Args : Int))) = true then (idx e15.Args v21).bind fun (e22 : aH) => (jL n e22).bind fun (y23 : Int) => (if (y23 != 0) = true then some y23 else gK e15 j14 p0 v13 n (IntKind.wrap .i64 (v21 + 1))) else j14 ())
def eH (p0 : (List cE)) (j1 : Unit → Option Int) : Nat → Int → Option Int
 | 0, _ => none
 | n + 1, v13 => (if (decide (v13 < (List.length p0 : Int))) = true then (aV (fun (_ : Unit) => eH p0 j1 n (IntKind.wrap .i64 (v13 + 1))) (fun (j14 : Unit → Option Int) => (idx p0 v13).bind fun (e15 : cE) => (fO n e15.Event).bind fun (y16 : Bool) => (gd [(!(!y16))] (fO n e15.Handler)).bind fun (y17 : Bool) => (if ((!y16) || (!y17)) = true then some 4 else (gd [(decide (v13 > 0))] (idx p0 (IntKind.wrap .i64 (v13 - 1)))).bind fun (e18 : cE) => (if ((decide (v13 > 0)) && (!(Ko e18.Event e15.Event))) = true then some 10 else (if ((decide ((ByteArray.size e15.Instance : Int) > 400)) || (decide ((List.length e15.Args : Int) > 100))) = true then some 2 else gK e15 j14 p0 v13 n 0))))) else j1 ())
def mR  (n : Nat) (p0 : (List cE)) : Option Int := (aV (fun (_ : Unit) => some 0) (fun (j1 : Unit → Option Int) => eH p0 j1 n 0))
theorem Au  (n : Nat) (p0 : (List cE)) (r : Int) (h : mR n p0 = some r) : cN E 132 0 [.c (.lit (List.map aD p0))] [] (.c (I r)) [] := by
 refine fW Tryz.func132 rfl ?_
 unfold mR at h
 refine za [0] ?_
 refine aQ h (fun A j => ∀ u, j u = some r → A (mk [] [] 0)) (fun u h => ?_) (fun j1 Aj1 hj1 h => ?_)
 refine za [2] ?_
 cases h
 exact aG zr
 refine zx fun _ => ?_
 refine zk 1 ?_
 refine zl aD p0 ?_
 refine zk 1 ?_
 refine ze [0, 8, 9, 10] ?_
 refine aF ?_
 refine bA (fun n s => ∃ v13, eH p0 j1 n v13 = some r ∧ s = mk [(0, .c (.lit (List.map aD p0))), (8, .c (.lit (List.map aD p0))), (9, .c (I (List.length p0 : Int))), (10, .c (I v13))] [] 0) n _ (zv [] [0, 8, 9, 10] 0) ⟨_, h, rfl⟩ (fun s ⟨v13, h, _⟩ => nomatch h) ?_
 rintro n s ⟨v13, h, rfl⟩
 rw [eH] at h
 refine za [0, 8, 9, 10, 11] ?_
 refine aK ?_
 refine zi h (fun h => ?_) fun h => ?_
 refine aC ?_
 refine aQ h (fun A j => ∀ u, j u = some r → A (mk [(0, .c (.lit (List.map aD p0))), (8, .c (.lit (List.map aD p0))), (9, .c (I (List.length p0 : Int))), (10, .c (I v13))] [] 0)) (fun u h => ?_) (fun j14 Aj14 hj14 h => ?_)
 refine aT ?_
 refine zb ?_
 exact dI (zv [] [0, 8, 9, 10] 0) (⟨_, h, rfl⟩)
 refine aF ?_
 refine zx fun _ => ?_
 refine zk 1 ?_
 obtain ⟨e15, he, h⟩ := aB h
 refine zd aD he ?_
 clear he
 refine zk 4 ?_
 refine ze [0, 3, 4, 8, 9, 10] ?_
 refine aK ?_
 refine aF ?_
 refine zx fun _ => ?_
 refine zk 2 ?_
 obtain ⟨y16, he, h⟩ := aB h
 refine zc Cp (jT n _ y16 he) ?_
 clear he
 refine zk 2 ?_
 refine zE (.c (.ptr 4 2)) ?_
 refine zE (.c (Sx e15.Handler)) ?_
 obtain ⟨y17, he, h⟩ := aB h
 refine Ho [(!(!y16))] Cp (fun hg => jT n _ y17 (bT he hg)) ?_
 clear he
 refine zE (.c (Bo (!y17))) ?_
 refine zP (.bool ((!y16) || (!y17))) ?_
 refine zk 1 ?_
 refine jV [0, 3, 4, 8, 9, 10, 15] (L2 := [(0, .c (.lit (List.map aD p0))), (8, .c (.lit (List.map aD p0))), (9, .c (I (List.length p0 : Int))), (10, .c (I v13)), (4, .c (.ptr 4 0)), (3, .c (I v13)), (15, .c (Bo ((!y16) || (!y17))))]) (G2 := [(4, .blk 159 [Sx e15.Event, Sx e15.Instance, Sx e15.Handler, .lit (List.map aO e15.Args)])]) 18 ?_
 refine zi h (fun h => ?_) fun h => ?_
 refine za [2] ?_
 cases h
 exact aG zr
 refine wP [[], [0], [1, 0], [2, 1, 0], [2, 1, 0], [4, 2, 1, 0], [3, 5, 2, 1, 0, 4], [6, 2, 3, 5, 1, 0, 4], [7, 2, 6, 3, 5, 1, 0, 4], [2, 1, 0], [9, 2, 1, 0], [8, 10, 2, 7, 6, 3, 5, 1, 0, 4, 9], [2, 11, 1, 0, 8, 10, 7, 6, 3, 5, 4, 9], [12, 2, 11, 1, 0, 8, 10, 7, 6, 3, 5, 4, 9]] fun _ => ?_
 refine zk 3 ?_
 refine zE (.c (.lit (List.map aD p0))) ?_
 refine zE (.c (I v13)) ?_
 refine zE (.c (I (IntKind.wrap .i64 (v13 - 1)))) ?_
 obtain ⟨e18, he, h⟩ := aB h
 refine jW (e := [(decide (v13 > 0))]) [(30, .c (.lit (List.map aD p0)), some 1), (32, .c (I (IntKind.wrap .i64 (v13 - 1))), some 1)] (v := .c (.imm [Sx e18.Event, Sx e18.Instance, Sx e18.Handler, .lit (List.map aO e18.Args)])) (foot := []) (by kernel_rfl) (by kernel_rfl) (by kernel_rfl) (fun hg => dR (enc := aD) (sz := 4) (l := p0) (ix := (IntKind.wrap .i64 (v13 - 1))) (bT he hg) (by kernel_rfl) (by kernel_rfl) (by kernel_rfl)) rfl rfl ?_
 clear he
 refine zE (.c (.imm [Sx e18.Event, Sx e18.Instance, Sx e18.Handler, .lit (List.map aO e18.Args)])) ?_
 refine zE (.c (Sx e18.Event)) ?_
 refine zE (.c (.ptr 4 0)) ?_
 refine zE (.c (Sx e15.Event)) ?_
 refine zE (.c (Bo (!(Ko e18.Event e15.Event)))) ?_
 refine zP (.bool ((decide (v13 > 0)) && (!(Ko e18.Event e15.Event)))) ?_
 refine zk 1 ?_
 refine jV [0, 4, 8, 9, 10, 26] (L2 := [(0, .c (.lit (List.map aD p0))), (8, .c (.lit (List.map aD p0))), (9, .c (I (List.length p0 : Int))), (10, .c (I v13)), (4, .c (.ptr 4 0)), (26, .c (Bo ((decide (v13 > 0)) && (!(Ko e18.Event e15.Event)))))]) (G2 := [(4, .blk 159 [Sx e15.Event, Sx e15.Instance, Sx e15.Handler, .lit (List.map aO e15.Args)])]) 32 ?_
 refine zi h (fun h => ?_) fun h => ?_
 refine za [2] ?_
 cases h
 exact aG zr
 refine zx fun _ => ?_
 refine zk 5 ?_
 refine zE (.c (.ptr 4 3)) ?_
 refine zE (.c (.lit (List.map aO e15.Args))) ?_
 refine jW (e := [(!(decide ((ByteArray.size e15.Instance : Int) > 400)))]) [(47, .c (.lit (List.map aO e15.Args)), some 1)] (v := .c (I (List.length e15.Args : Int))) (foot := []) (by kernel_rfl) (by kernel_rfl) (by kernel_rfl) (fun hg => kR (enc := aO) (l := e15.Args) (by kernel_rfl)) rfl rfl ?_
 refine zE (.c (Bo (decide ((List.length e15.Args : Int) > 100)))) ?_
 refine zP (.bool ((decide ((ByteArray.size e15.Instance : Int) > 400)) || (decide ((List.length e15.Args : Int) > 100)))) ?_
 refine zk 1 ?_
 refine ze [0, 4, 8, 9, 10, 40] ?_
 refine zi h (fun h => ?_) fun h => ?_
 refine za [2] ?_
 cases h
 exact aG zr
 refine aC ?_
 refine zx fun _ => ?_
 refine zk 2 ?_
 refine zl aO e15.Args ?_
 refine zk 1 ?_
 refine jV [0, 8, 9, 10, 52, 53, 54] (L2 := [(0, .c (.lit (List.map aD p0))), (8, .c (.lit (List.map aD p0))), (9, .c (I (List.length p0 : Int))), (10, .c (I v13)), (52, .c (.lit (List.map aO e15.Args))), (53, .c (I (List.length e15.Args : Int))), (54, .c (I 0))]) (G2 := [(4, .blk 159 [Sx e15.Event, Sx e15.Instance, Sx e15.Handler, .lit (List.map aO e15.Args)])]) 47 ?_
 refine aF ?_
 refine bA (fun n s => ∃ v21, gK e15 j14 p0 v13 n v21 = some r ∧ s = mk [(0, .c (.lit (List.map aD p0))), (8, .c (.lit (List.map aD p0))), (9, .c (I (List.length p0 : Int))), (10, .c (I v13)), (52, .c (.lit (List.map aO e15.Args))), (53, .c (I (List.length e15.Args : Int))), (54, .c (I v21))] [] 0) n _ (zv [] [0, 8, 9, 10, 52, 53, 54] 0) ⟨_, h, rfl⟩ (fun s ⟨v21, h, _⟩ => nomatch h) ?_
 rintro n s ⟨v21, h, rfl⟩
 rw [gK] at h
 refine za [0, 8, 9, 10, 52, 53, 54, 55] ?_
 refine aK ?_
 refine zi h (fun h => ?_) fun h => ?_
 refine aC ?_
 refine aK ?_
 refine aF ?_
 refine zx fun _ => ?_
 obtain ⟨e22, he, h⟩ := aB h
 refine cF (v := .c (.imm [I e22.Kind, I e22.N, Sx e22.S, .lit (List.map aO e22.L)])) (foot := []) (dR (enc := aO) (sz := 4) (l := e15.Args) (ix := v21) he (by kernel_rfl) (dO e22) (by kernel_rfl)) (by kernel_rfl) rfl rfl ?_
 clear he
 refine zk 3 ?_
 refine ze [0, 6, 8, 9, 10, 52, 53, 54] ?_
 refine zx fun _ => ?_
 refine zk 1 ?_
 obtain ⟨y23, he, h⟩ := aB h
 refine zc Rv (vV n _ y23 he) ?_
 clear he
 refine zk 1 ?_
 refine ze [0, 7, 8, 9, 10, 52, 53, 54] ?_
 refine za [0, 7, 8, 9, 10, 52, 53, 54, 61] ?_
 refine zi h (fun h => ?_) fun h => ?_
 refine za [2] ?_
 cases h
 exact aG zr
 refine aC ?_
 refine aT ?_
 refine zb ?_
 exact dI (zv [] [0, 8, 9, 10, 52, 53, 54] 0) (⟨_, h, rfl⟩)
 exact aI (zv [] [0, 8, 9, 10] 0) (bD (hj14 _ h))
 exact aI (zv [] [] 0) (bD (hj1 _ h))
def fV (p0 : aL) (self_view_validate : aL → Int → Int → Option (Int × Int)) (p1 : Int) (j13 : Int → Option (Int × Int)) : Nat → Int → Int → Option (Int × Int)
 | 0, _, _ => none
 | n + 1, v16, v17 => (if (decide (v16 < (List.length p0.Kids : Int))) = true then (idx p0.Kids v16).bind fun (e18 : aL) => (self_view_validate e18 (IntKind.wrap .i64 (p1 + 1)) v17).bind fun (y19 : (Int × Int)) => (if (y19.1 != 0) = true then some (y19.1, y19.2) else fV p0 self_view_validate p1 j13 n (IntKind.wrap .i64 (v16 + 1)) y19.2) else j13 v17)
def fS (p0 : aL) (p2 : Int) (j4 : Unit → Option (Int × Int)) (p1 : Int) : Nat → Int → List (ByteArray × Bool) → Option (Int × Int)
 | 0, _, _ => none
 | n + 1, v7, v8 => (if (decide (v7 < (List.length p0.Kids : Int))) = true then (idx p0.Kids v7).bind fun (e9 : aL) => (gd [(!(cG e9.Key (⟨#[]⟩ : ByteArray)))] (some (gN e9.Key v8, jF e9.Key v8))).bind fun (y10 : (Bool × Bool)) => (if ((!(cG e9.Key (⟨#[]⟩ : ByteArray))) && y10.1) = true then some (6, (IntKind.wrap .i64 (p2 + 1))) else fS p0 p2 j4 p1 n (IntKind.wrap .i64 (v7 + 1)) (iP e9.Key true v8)) else j4 ())
def jU (self_view_validate : aL → Int → Int → Option (Int × Int)) (n : Nat) (p0 : aL) (p1 : Int) (p2 : Int) : Option (Int × Int) := (if (decide (p1 > 16)) = true then some (8, (IntKind.wrap .i64 (p2 + 1))) else (if (decide ((IntKind.wrap .i64 (p2 + 1)) > 400)) = true then some (2, (IntKind.wrap .i64 (p2 + 1))) else (if ((decide (p0.Kind < 1)) || (decide (p0.Kind > 13))) = true then some (9, (IntKind.wrap .i64 (p2 + 1))) else (xN n p0.Key).bind fun (y1 : Bool) => (if (!y1) = true then some (4, (IntKind.wrap .i64 (p2 + 1))) else (if (((decide ((List.length p0.Attrs : Int) > 24)) || (decide ((List.length p0.Actions : Int) > 24))) || (decide ((List.length p0.Kids : Int) > 100))) = true then some (2, (IntKind.wrap .i64 (p2 + 1))) else (lX n p0.Attrs).bind fun (y2 : Int) => (if (y2 != 0) = true then some (y2, (IntKind.wrap .i64 (p2 + 1))) else (mR n p0.Actions).bind fun (y3 : Int) => (if (y3 != 0) = true then some (y3, (IntKind.wrap .i64 (p2 + 1))) else (aV (fun (_ : Unit) => (aV (fun (v22 : Int) => some (0, v22)) (fun (j13 : Int → Option (Int × Int)) => fV p0 self_view_validate p1 j13 n 0 (IntKind.wrap .i64 (p2 + 1))))) (fun (j4 : Unit → Option (Int × Int)) => fS p0 p2 j4 p1 n 0 ([] : List (ByteArray × Bool)))))))))))
theorem tJ (self_view_validate : aL → Int → Int → Option (Int × Int)) (ih_view_validate : ∀ (p0 : aL) (p1 : Int) (p2 : Int) (r : (Int × Int)), self_view_validate p0 p1 p2 = some r → cN E 115 1 [.agg [I p0.Kind, Sx p0.Key, .lit (List.map aM p0.Attrs), .lit (List.map aD p0.Actions), .lit (List.map aX p0.Kids)], .c (I p1), .c (.ptr 0 0)] [(0, .blk 3 [I p2])] (.c (I r.1)) [(0, .blk 3 [I r.2])]) (n : Nat) (p0 : aL) (p1 : Int) (p2 : Int) (r : (Int × Int)) (h : jU self_view_validate n p0 p1 p2 = some r) : cN E 115 1 [.agg [I p0.Kind, Sx p0.Key, .lit (List.map aM p0.Attrs), .lit (List.map aD p0.Actions), .lit (List.map aX p0.Kids)], .c (I p1), .c (.ptr 0 0)] [(0, .blk 3 [I p2])] (.c (I r.1)) [(0, .blk 3 [I r.2])] := by
 refine fW Tryz.func115 rfl ?_
 unfold jU at h
 refine za [1, 2, 3] ?_
 refine za [1, 2, 3] ?_
 refine aK ?_
 refine aF ?_
 refine za [1, 2, 3, 20] ?_
 refine zi h (fun h => ?_) fun h => ?_
 refine za [6] ?_
 cases h
 exact aG zr
 refine za [1, 2, 3, 23] ?_
 refine zi h (fun h => ?_) fun h => ?_
 refine za [6] ?_
 cases h
 exact aG zr
 refine zx fun _ => ?_
 refine zk 4 ?_
 refine zE (.c (.ptr 1 0)) ?_
 refine zE (.c (I p0.Kind)) ?_
 refine zE (.c (Bo (decide (p0.Kind > 13)))) ?_
 refine zP (.bool ((decide (p0.Kind < 1)) || (decide (p0.Kind > 13)))) ?_
 refine zk 1 ?_
 refine jV [1, 2, 3, 28] (L2 := [(1, .c (I p1)), (2, .c (.ptr 0 0)), (3, .c (.ptr 1 0)), (28, .c (Bo ((decide (p0.Kind < 1)) || (decide (p0.Kind > 13)))))]) (G2 := [(0, .blk 3 [I (IntKind.wrap .i64 (p2 + 1))]), (1, .blk 70 [I p0.Kind, Sx p0.Key, .lit (List.map aM p0.Attrs), .lit (List.map aD p0.Actions), .lit (List.map aX p0.Kids)])]) 26 ?_
 refine zi h (fun h => ?_) fun h => ?_
 refine za [6] ?_
 cases h
 exact aG zr
 refine zx fun _ => ?_
 refine zk 2 ?_
 obtain ⟨y1, he, h⟩ := aB h
 refine zc Yk (Jt n _ y1 he) ?_
 clear he
 refine zk 2 ?_
 refine ze [1, 2, 3, 37] ?_
 refine zi h (fun h => ?_) fun h => ?_
 refine za [6] ?_
 cases h
 exact aG zr
 refine zx fun _ => ?_
 refine zk 2 ?_
 refine zl aM p0.Attrs ?_
 refine zk 2 ?_
 refine zE (.c (.ptr 1 3)) ?_
 refine zE (.c (.lit (List.map aD p0.Actions))) ?_
 refine jW (e := [(!(decide ((List.length p0.Attrs : Int) > 24)))]) [(49, .c (.lit (List.map aD p0.Actions)), some 1)] (v := .c (I (List.length p0.Actions : Int))) (foot := []) (by kernel_rfl) (by kernel_rfl) (by kernel_rfl) (fun hg => kR (enc := aD) (l := p0.Actions) (by kernel_rfl)) rfl rfl ?_
 refine zE (.c (Bo (decide ((List.length p0.Actions : Int) > 24)))) ?_
 refine zP (.bool ((decide ((List.length p0.Attrs : Int) > 24)) || (decide ((List.length p0.Actions : Int) > 24)))) ?_
 refine zk 1 ?_
 refine zE (.c (.ptr 1 4)) ?_
 refine zE (.c (.lit (List.map aX p0.Kids))) ?_
 refine jW (e := [(!((decide ((List.length p0.Attrs : Int) > 24)) || (decide ((List.length p0.Actions : Int) > 24))))]) [(55, .c (.lit (List.map aX p0.Kids)), some 1)] (v := .c (I (List.length p0.Kids : Int))) (foot := []) (by kernel_rfl) (by kernel_rfl) (by kernel_rfl) (fun hg => kR (enc := aX) (l := p0.Kids) (by kernel_rfl)) rfl rfl ?_
 refine zE (.c (Bo (decide ((List.length p0.Kids : Int) > 100)))) ?_
 refine zP (.bool (((decide ((List.length p0.Attrs : Int) > 24)) || (decide ((List.length p0.Actions : Int) > 24))) || (decide ((List.length p0.Kids : Int) > 100)))) ?_
 refine zk 1 ?_
 refine jV [1, 2, 3, 42] (L2 := [(1, .c (I p1)), (2, .c (.ptr 0 0)), (3, .c (.ptr 1 0)), (42, .c (Bo (((decide ((List.length p0.Attrs : Int) > 24)) || (decide ((List.length p0.Actions : Int) > 24))) || (decide ((List.length p0.Kids : Int) > 100)))))]) (G2 := [(0, .blk 3 [I (IntKind.wrap .i64 (p2 + 1))]), (1, .blk 70 [I p0.Kind, Sx p0.Key, .lit (List.map aM p0.Attrs), .lit (List.map aD p0.Actions), .lit (List.map aX p0.Kids)])]) 48 ?_
 refine zi h (fun h => ?_) fun h => ?_
 refine za [6] ?_
 cases h
 exact aG zr
 refine aC ?_
 refine aK ?_
 refine zx fun _ => ?_
 refine zk 2 ?_
 obtain ⟨y2, he, h⟩ := aB h
 refine zc Yj (wK n _ y2 he) ?_
 clear he
 refine zk 1 ?_
 refine ze [1, 2, 3, 7] ?_
 refine za [1, 2, 3, 7, 63] ?_
 refine zi h (fun h => ?_) fun h => ?_
 refine za [6] ?_
 cases h
 exact aG zr
 refine aC ?_
 refine aK ?_
 refine zx fun _ => ?_
 refine zk 2 ?_
 obtain ⟨y3, he, h⟩ := aB h
 refine zc Zb (Au n _ y3 he) ?_
 clear he
 refine zk 1 ?_
 refine ze [1, 2, 3, 8] ?_
 refine za [1, 2, 3, 8, 69] ?_
 refine zi h (fun h => ?_) fun h => ?_
 refine za [6] ?_
 cases h
 exact aG zr
 refine aC ?_
 refine za [1, 2, 3, 9] ?_
 refine aQ h (fun A j => ∀ u, j u = some r → A (mk [(1, .c (I p1)), (2, .c (.ptr 0 0)), (3, .c (.ptr 1 0))] [(0, .blk 3 [I (IntKind.wrap .i64 (p2 + 1))]), (1, .blk 70 [I p0.Kind, Sx p0.Key, .lit (List.map aM p0.Attrs), .lit (List.map aD p0.Actions), .lit (List.map aX p0.Kids)])] 2)) (fun u h => ?_) (fun j4 Aj4 hj4 h => ?_)
 refine aQ h (fun A j => ∀ v22, j v22 = some r → A (mk [] [(0, .blk 3 [I v22])] 1)) (fun v22 h => ?_) (fun j13 Aj13 hj13 h => ?_)
 refine za [6] ?_
 cases h
 exact aG zr
 refine zx fun _ => ?_
 refine zk 2 ?_
 refine zl aX p0.Kids ?_
 refine zk 1 ?_
 refine ze [1, 2, 93, 94, 95] ?_
 refine aF ?_
 refine bA (fun n s => ∃ v16 v17, fV p0 self_view_validate p1 j13 n v16 v17 = some r ∧ s = mk [(1, .c (I p1)), (2, .c (.ptr 0 0)), (93, .c (.lit (List.map aX p0.Kids))), (94, .c (I (List.length p0.Kids : Int))), (95, .c (I v16))] [(0, .blk 3 [I v17])] 1) n _ (zv [(0, 0)] [1, 2, 93, 94, 95] 1) ⟨_, _, h, rfl⟩ (fun s ⟨v16, v17, h, _⟩ => nomatch h) ?_
 rintro n s ⟨v16, v17, h, rfl⟩
 rw [fV] at h
 refine za [1, 2, 93, 94, 95, 96] ?_
 refine aK ?_
 refine zi h (fun h => ?_) fun h => ?_
 refine aC ?_
 refine aK ?_
 refine aF ?_
 refine zx fun _ => ?_
 obtain ⟨e18, he, h⟩ := aB h
 refine cF (v := .c (.imm [I e18.Kind, Sx e18.Key, .lit (List.map aM e18.Attrs), .lit (List.map aD e18.Actions), .lit (List.map aX e18.Kids)])) (foot := []) (dR (enc := aX) (sz := 5) (l := p0.Kids) (ix := v16) he (by kernel_rfl) (fR e18) (by kernel_rfl)) (by kernel_rfl) rfl rfl ?_
 clear he
 refine zk 3 ?_
 refine ze [1, 2, 13, 93, 94, 95] ?_
 refine zx fun _ => ?_
 refine zk 4 ?_
 obtain ⟨y19, he, h⟩ := aB h
 refine zo [(0, 0)] Rw (ih_view_validate _ _ _ y19 he) ?_
 clear he
 refine zk 1 ?_
 refine ze [1, 2, 14, 93, 94, 95] ?_
 refine za [1, 2, 14, 93, 94, 95, 105] ?_
 refine zi h (fun h => ?_) fun h => ?_
 refine za [6] ?_
 cases h
 exact aG zr
 refine aC ?_
 refine aT ?_
 refine zb ?_
 exact dI (zv [(0, 0)] [1, 2, 93, 94, 95] 1) (⟨_, _, h, rfl⟩)
 exact aI (zv [(0, 0)] [] 1) (bD (hj13 _ h))
 refine zx fun _ => ?_
 refine zk 2 ?_
 refine zl aX p0.Kids ?_
 refine zk 1 ?_
 refine jV [1, 2, 3, 9, 73, 74, 75] (L2 := [(1, .c (I p1)), (2, .c (.ptr 0 0)), (3, .c (.ptr 1 0)), (9, .c (.mapr 60)), (73, .c (.lit (List.map aX p0.Kids))), (74, .c (I (List.length p0.Kids : Int))), (75, .c (I 0))]) (G2 := [(0, .blk 3 [I (IntKind.wrap .i64 (p2 + 1))]), (1, .blk 70 [I p0.Kind, Sx p0.Key, .lit (List.map aM p0.Attrs), .lit (List.map aD p0.Actions), .lit (List.map aX p0.Kids)]), (60, .map false (List.map (eM Value.string eB) ([] : List (ByteArray × Bool))))]) 66 ?_
 refine aF ?_
 refine bA (fun n s => ∃ v7 v8, fS p0 p2 j4 p1 n v7 v8 = some r ∧ s = mk [(1, .c (I p1)), (2, .c (.ptr 0 0)), (3, .c (.ptr 1 0)), (9, .c (.mapr 2)), (73, .c (.lit (List.map aX p0.Kids))), (74, .c (I (List.length p0.Kids : Int))), (75, .c (I v7))] [(0, .blk 3 [I (IntKind.wrap .i64 (p2 + 1))]), (1, .blk 70 [I p0.Kind, Sx p0.Key, .lit (List.map aM p0.Attrs), .lit (List.map aD p0.Actions), .lit (List.map aX p0.Kids)]), (2, .map false (List.map (eM Value.string eB) v8))] 3) n _ (zv [(0, 0), (1, 1), (60, 2)] [1, 2, 3, 9, 73, 74, 75] 3) ⟨_, _, h, rfl⟩ (fun s ⟨v7, v8, h, _⟩ => nomatch h) ?_
 rintro n s ⟨v7, v8, h, rfl⟩
 rw [fS] at h
 refine za [1, 2, 3, 9, 73, 74, 75, 76] ?_
 refine aK ?_
 refine zi h (fun h => ?_) fun h => ?_
 refine aC ?_
 refine aK ?_
 refine aF ?_
 refine zx fun _ => ?_
 obtain ⟨e9, he, h⟩ := aB h
 refine cF (v := .c (.imm [I e9.Kind, Sx e9.Key, .lit (List.map aM e9.Attrs), .lit (List.map aD e9.Actions), .lit (List.map aX e9.Kids)])) (foot := []) (dR (enc := aX) (sz := 5) (l := p0.Kids) (ix := v7) he (by kernel_rfl) (fR e9) (by kernel_rfl)) (by kernel_rfl) rfl rfl ?_
 clear he
 refine zk 3 ?_
 refine ze [1, 2, 3, 9, 11, 73, 74, 75] ?_
 refine aK ?_
 refine zx fun _ => ?_
 refine zk 4 ?_
 refine zE (.c (.mapr 2)) ?_
 refine zE (.c (.ptr 6 1)) ?_
 refine zE (.c (Sx e9.Key)) ?_
 obtain ⟨y10, he, h⟩ := aB h
 refine Da (e := [(!(cG e9.Key (⟨#[]⟩ : ByteArray)))]) [(83, .c (.mapr 2), some 1), (85, .c (Sx e9.Key), some 1)] (v := .c (Bo y10.1)) (foot := [2]) (by kernel_rfl) (by kernel_rfl) (by kernel_rfl) (fun hg => cZ (kf := Value.string) (enc := eB) (l := v8) (k := e9.Key) (ok := false) (kk := .str) (j := ⟨.boo, 1, 1, [.bool false]⟩) (p := y10) (v := .c (Bo y10.1)) (bT he hg) (by kernel_rfl) Ia (by kernel_rfl) (by kernel_rfl) (by kernel_rfl)) rfl rfl ?_
 clear he
 refine zP (.bool ((!(cG e9.Key (⟨#[]⟩ : ByteArray))) && y10.1)) ?_
 refine ze [1, 2, 3, 9, 11, 73, 74, 75, 87] ?_
 refine zi h (fun h => ?_) fun h => ?_
 refine za [6] ?_
 cases h
 exact aG zr
 refine aC ?_
 refine zy fun _ => ?_
 refine zk 3 ?_
 refine kA (kf := Value.string) (enc := eB) (l := v8) (k := e9.Key) (v := true) (n := 2) (ag := false) (kk := .str) (by kernel_rfl) Ia (by kernel_rfl) (by kernel_rfl) rfl rfl ?_
 refine bL ?_
 refine aT ?_
 refine zb ?_
 exact dI (zv [(0, 0), (1, 1), (2, 2)] [1, 2, 3, 9, 73, 74, 75] 3) (⟨_, _, h, rfl⟩)
 exact aI (zv [(0, 0), (1, 1)] [1, 2, 3] 2) (bD (hj4 _ h))
def fZ : Nat → aL → Int → Int → Option (Int × Int)
 | 0, _, _, _ => none
 | n + 1, p0, p1, p2 => jU (fun a0 a1 a2 => fZ n a0 a1 a2) n p0 p1 p2
theorem zJ (n : Nat) : (∀ (p0 : aL) (p1 : Int) (p2 : Int) (r : (Int × Int)), fZ n p0 p1 p2 = some r → cN E 115 1 [.agg [I p0.Kind, Sx p0.Key, .lit (List.map aM p0.Attrs), .lit (List.map aD p0.Actions), .lit (List.map aX p0.Kids)], .c (I p1), .c (.ptr 0 0)] [(0, .blk 3 [I p2])] (.c (I r.1)) [(0, .blk 3 [I r.2])]) := by
 induction n with
 | zero => intro p0 p1 p2 r h; rw [fZ] at h; cases h
 | succ n ih => intro p0 p1 p2 r h; rw [fZ] at h; exact tJ _ ih n _ _ _ r h
def jZ  (n : Nat) (p0 : aL) : Option Int := (fZ n p0 1 0).bind fun (y1 : (Int × Int)) => some y1.1
theorem yW  (n : Nat) (p0 : aL) (r : Int) (h : jZ n p0 = some r) : cN E 95 0 [.agg [I p0.Kind, Sx p0.Key, .lit (List.map aM p0.Attrs), .lit (List.map aD p0.Actions), .lit (List.map aX p0.Kids)]] [] (.c (I r)) [] := by
 refine fW Tryz.func95 rfl ?_
 unfold jZ at h
 refine za [1] ?_
 refine za [1, 3] ?_
 refine zx fun _ => ?_
 refine zk 1 ?_
 obtain ⟨y1, he, h⟩ := aB h
 refine zo [(0, 2)] Rw (zJ n _ _ _ y1 he) ?_
 clear he
 refine zk 1 ?_
 refine ze [2] ?_
 cases h
 exact aG zr
def kZ  (n : Nat) (p0 : bC) : Option ((List (Int × aR)) × aL × Int) := (pL n p0).bind fun (y1 : ((List (Int × aR)) × Bool)) => (if (!y1.2) = true then some (([] : List (Int × aR)), (aL.mk 0 (⟨#[]⟩ : ByteArray) ([] : List aZ) ([] : List cE) ([] : List aL)), 12) else (gA n y1.1 p0.Root).bind fun (y2 : aL) => (jZ n y2).bind fun (y3 : Int) => some (y1.1, y2, y3))
theorem tA  (n : Nat) (p0 : bC) (r : ((List (Int × aR)) × aL × Int)) (h : kZ n p0 = some r) : cN E 57 0 [.agg [I p0.Root, I p0.Next, .lit (List.map aE p0.Nodes)]] [] (.tup [.c (.lmap true (List.map (eM (Value.int .i64) aE) r.1)), .agg [I r.2.1.Kind, Sx r.2.1.Key, .lit (List.map aM r.2.1.Attrs), .lit (List.map aD r.2.1.Actions), .lit (List.map aX r.2.1.Kids)], .c (I r.2.2)]) [] := by
 refine fW Tryz.func57 rfl ?_
 unfold kZ at h
 refine za [1, 3] ?_
 refine zx fun _ => ?_
 refine zk 1 ?_
 obtain ⟨y1, he, h⟩ := aB h
 refine zc fok93 (Fd n _ y1 he) ?_
 clear he
 refine zk 5 ?_
 refine ze [1, 3, 5, 6] ?_
 refine aK ?_
 refine za [1, 3, 5, 14] ?_
 refine zi h (fun h => ?_) fun h => ?_
 refine za [2, 3, 4] ?_
 refine aI (pH 2 true (L2 := [(3, .c (.ptr 2 0)), (2, .c (.lmap true (List.map (eM (Value.int .i64) aE) ([] : List (Int × aR))))), (4, .c (I 12))]) (by kernel_rfl) (by kernel_rfl)) ?_
 cases h
 exact aG zr
 refine aC ?_
 refine zx fun _ => ?_
 refine zk 3 ?_
 obtain ⟨y2, he, h⟩ := aB h
 refine zc Xo (xP n _ _ y2 he) ?_
 clear he
 refine zk 2 ?_
 refine ze [3, 5, 7] ?_
 refine wP [[], [], [], [2], [0, 3, 2], [1, 4, 0, 3, 2], [3, 5, 0, 1, 2, 4]] fun _ => ?_
 refine zk 3 ?_
 obtain ⟨y3, he, h⟩ := aB h
 refine zc fok95 (yW n _ y3 he) ?_
 clear he
 refine zk 3 ?_
 refine jV [2, 3, 4] (L2 := [(3, .c (.ptr 2 0)), (2, .c (.lmap true (List.map (eM (Value.int .i64) aE) y1.1))), (4, .c (I y3))]) (G2 := [(0, .blk 27 [I p0.Root, I p0.Next, .lit (List.map aE p0.Nodes)]), (2, .blk 70 [I y2.Kind, Sx y2.Key, .lit (List.map aM y2.Attrs), .lit (List.map aD y2.Actions), .lit (List.map aX y2.Kids)]), (17, .blk 70 [I y2.Kind, Sx y2.Key, .lit (List.map aM y2.Attrs), .lit (List.map aD y2.Actions), .lit (List.map aX y2.Kids)])]) 26 ?_
 cases h
 exact aG zr
def nJ  (n : Nat) (p0 : bC) : Option Int := (kZ n p0).bind fun (y1 : ((List (Int × aR)) × aL × Int)) => some y1.2.2
theorem vW  (n : Nat) (p0 : bC) (r : Int) (h : nJ n p0 = some r) : cN E 26 0 [.agg [I p0.Root, I p0.Next, .lit (List.map aE p0.Nodes)]] [] (.c (I r)) [] := by
 refine fW Tryz.func26 rfl ?_
 unfold nJ at h
 refine za [1] ?_
 refine zx fun _ => ?_
 refine zk 1 ?_
 obtain ⟨y1, he, h⟩ := aB h
 refine zc Xl (tA n _ y1 he) ?_
 clear he
 refine zk 8 ?_
 refine ze [5] ?_
 refine za [2] ?_
 cases h
 exact aG zr
def oM (self_view_value : aH → Option aH) (self_view_values : (List aH) → Option (List aH)) (n : Nat) (p0 : aH) : Option aH := (self_view_values p0.L).bind fun (y1 : (List aH)) => some (aH.mk p0.Kind p0.N p0.S y1)
theorem wC (self_view_value : aH → Option aH) (self_view_values : (List aH) → Option (List aH)) (ih_view_value : ∀ (p0 : aH) (r : aH), self_view_value p0 = some r → cN E 114 0 [.agg [I p0.Kind, I p0.N, Sx p0.S, .lit (List.map aO p0.L)]] [] (.agg [I r.Kind, I r.N, Sx r.S, .lit (List.map aO r.L)]) []) (ih_view_values : ∀ (p0 : (List aH)) (r : (List aH)), self_view_values p0 = some r → cN E 129 0 [.c (.lit (List.map aO p0))] [] (.c (.lit (List.map aO r))) []) (n : Nat) (p0 : aH) (r : aH) (h : oM self_view_value self_view_values n p0 = some r) : cN E 114 0 [.agg [I p0.Kind, I p0.N, Sx p0.S, .lit (List.map aO p0.L)]] [] (.agg [I r.Kind, I r.N, Sx r.S, .lit (List.map aO r.L)]) [] := by
 refine fW Tryz.func114 rfl ?_
 unfold oM at h
 refine za [1, 2] ?_
 refine zx fun _ => ?_
 refine zk 2 ?_
 obtain ⟨y1, he, h⟩ := aB h
 refine zc Xt (ih_view_values _ y1 he) ?_
 clear he
 refine zk 2 ?_
 refine ze [1, 2] ?_
 refine za [2] ?_
 cases h
 exact aG zr
def mW (p0 : (List aH)) (self_view_value : aH → Option aH) (j1 : List aH → Option (List aH)) : Nat → List aH → Int → Option (List aH)
 | 0, _, _ => none
 | n + 1, v5, v6 => (if (decide (v6 < (List.length p0 : Int))) = true then (idx p0 v6).bind fun (e7 : aH) => (self_view_value e7).bind fun (y8 : aH) => (pE 56 v5 [y8]).bind fun (l9 : List aH) => mW p0 self_view_value j1 n l9 (IntKind.wrap .i64 (v6 + 1)) else j1 v5)
def nN (self_view_value : aH → Option aH) (self_view_values : (List aH) → Option (List aH)) (n : Nat) (p0 : (List aH)) : Option (List aH) := (aV (fun (v12 : List aH) => some v12) (fun (j1 : List aH → Option (List aH)) => mW p0 self_view_value j1 n ([] : List aH) 0))
theorem vR (self_view_value : aH → Option aH) (self_view_values : (List aH) → Option (List aH)) (ih_view_value : ∀ (p0 : aH) (r : aH), self_view_value p0 = some r → cN E 114 0 [.agg [I p0.Kind, I p0.N, Sx p0.S, .lit (List.map aO p0.L)]] [] (.agg [I r.Kind, I r.N, Sx r.S, .lit (List.map aO r.L)]) []) (ih_view_values : ∀ (p0 : (List aH)) (r : (List aH)), self_view_values p0 = some r → cN E 129 0 [.c (.lit (List.map aO p0))] [] (.c (.lit (List.map aO r))) []) (n : Nat) (p0 : (List aH)) (r : (List aH)) (h : nN self_view_value self_view_values n p0 = some r) : cN E 129 0 [.c (.lit (List.map aO p0))] [] (.c (.lit (List.map aO r))) [] := by
 refine fW Tryz.func129 rfl ?_
 unfold nN at h
 refine za [0] ?_
 refine za [0, 3] ?_
 refine aQ h (fun A j => ∀ v12, j v12 = some r → A (mk [(3, .c (.app 0 (List.map aO v12)))] [(0, .tok 152 4 (List.length v12))] 1)) (fun v12 h => ?_) (fun j1 Aj1 hj1 h => ?_)
 refine za [2] ?_
 cases h
 exact aG zr
 refine zx fun _ => ?_
 refine zk 1 ?_
 refine zl aO p0 ?_
 refine zk 1 ?_
 refine ze [3, 6, 7, 8] ?_
 refine aF ?_
 refine bA (fun n s => ∃ v5 v6, mW p0 self_view_value j1 n v5 v6 = some r ∧ s = mk [(3, .c (.app 0 (List.map aO v5))), (6, .c (.lit (List.map aO p0))), (7, .c (I (List.length p0 : Int))), (8, .c (I v6))] [(0, .tok 152 4 (List.length v5))] 1) n _ (dU.trans (mJ (L2 := [(3, .c (.app 5 (List.map aO ([] : List aH)))), (6, .c (.lit (List.map aO p0))), (7, .c (I (List.length p0 : Int))), (8, .c (I 0))]) (G2 := [(5, .tok 152 4 (List.length ([] : List aH)))]) (lim2 := 6) 3 152 4 (by kernel_rfl) (by kernel_rfl) (by kernel_rfl) (by kernel_rfl)) (zv [(5, 0)] [3, 6, 7, 8] 1)) ⟨_, _, h, rfl⟩ (fun s ⟨v5, v6, h, _⟩ => nomatch h) ?_
 rintro n s ⟨v5, v6, h, rfl⟩
 rw [mW] at h
 refine za [3, 6, 7, 8, 9] ?_
 refine aK ?_
 refine zi h (fun h => ?_) fun h => ?_
 refine aC ?_
 refine aK ?_
 refine aF ?_
 refine zx fun _ => ?_
 obtain ⟨e7, he, h⟩ := aB h
 refine cF (v := .c (.imm [I e7.Kind, I e7.N, Sx e7.S, .lit (List.map aO e7.L)])) (foot := []) (dR (enc := aO) (sz := 4) (l := p0) (ix := v6) he (by kernel_rfl) (dO e7) (by kernel_rfl)) (by kernel_rfl) rfl rfl ?_
 clear he
 refine zk 3 ?_
 refine ze [3, 5, 6, 7, 8] ?_
 refine zy fun _ => ?_
 refine zk 2 ?_
 obtain ⟨y8, he, h⟩ := aB h
 refine zc Qv (ih_view_value _ y8 he) ?_
 clear he
 refine pO (e := 152) (sz := 4) (len := 1) (r := [I y8.Kind, I y8.N, Sx y8.S, .lit (List.map aO y8.L)]) (l' := List.map aO [y8]) (nm := 9) (by kernel_rfl) (by simp only [List.map_cons, List.map_nil, dO]; kernel_rfl) (by kernel_rfl) (by kernel_rfl) rfl rfl rfl ?_
 obtain ⟨l9, he, h⟩ := aB h
 refine cB (enc := aO) (l := v5) (els := [y8]) (r := l9) (old := some 0) (e := 152) (sz := 4) (bytes := 56) (k := (List.length v5)) (nm := 10) he (by kernel_rfl) (by kernel_rfl) (fun x => by rw [dO]; rfl) (by kernel_rfl) (by kernel_rfl) rfl rfl rfl ?_
 clear he
 refine zk 1 ?_
 refine bL ?_
 refine aT ?_
 refine zb ?_
 exact dI (zv [(10, 0)] [3, 6, 7, 8] 1) (⟨_, _, h, rfl⟩)
 exact aI (zv [(0, 0)] [3] 1) (bD (hj1 _ h))
mutual
def kY : Nat → aH → Option aH
 | 0, _ => none
 | n + 1, p0 => oM (fun a0 => kY n a0) (fun a0 => oC n a0) n p0
def oC : Nat → (List aH) → Option (List aH)
 | 0, _ => none
 | n + 1, p0 => nN (fun a0 => kY n a0) (fun a0 => oC n a0) n p0
end
theorem Ao (n : Nat) : (∀ (p0 : aH) (r : aH), kY n p0 = some r → cN E 114 0 [.agg [I p0.Kind, I p0.N, Sx p0.S, .lit (List.map aO p0.L)]] [] (.agg [I r.Kind, I r.N, Sx r.S, .lit (List.map aO r.L)]) []) ∧ (∀ (p0 : (List aH)) (r : (List aH)), oC n p0 = some r → cN E 129 0 [.c (.lit (List.map aO p0))] [] (.c (.lit (List.map aO r))) []) := by
 induction n with
 | zero => refine ⟨fun p0 r h => (by rw [kY] at h; cases h), fun p0 r h => (by rw [oC] at h; cases h)⟩
 | succ n ih =>
  obtain ⟨i0, i1⟩ := ih
  refine ⟨fun p0 r h => (by rw [kY] at h; exact wC _ _ i0 i1 n _ r h), fun p0 r h => (by rw [oC] at h; exact vR _ _ i0 i1 n _ r h)⟩
theorem Fg (n : Nat) : (∀ (p0 : aH) (r : aH), kY n p0 = some r → cN E 114 0 [.agg [I p0.Kind, I p0.N, Sx p0.S, .lit (List.map aO p0.L)]] [] (.agg [I r.Kind, I r.N, Sx r.S, .lit (List.map aO r.L)]) []) := (Ao n).1
def eK (p0 : (List aZ)) (p1 : ByteArray) (j1 : Unit → Option (aH × Bool)) : Nat → Int → Option (aH × Bool)
 | 0, _ => none
 | n + 1, v4 => (if (decide (v4 < (List.length p0 : Int))) = true then (idx p0 v4).bind fun (e5 : aZ) => (if (cG e5.Name p1) = true then (kY n e5.Value).bind fun (y6 : aH) => some (y6, true) else eK p0 p1 j1 n (IntKind.wrap .i64 (v4 + 1))) else j1 ())
def rK  (n : Nat) (p0 : (List aZ)) (p1 : ByteArray) : Option (aH × Bool) := (aV (fun (_ : Unit) => some ((aH.mk 0 0 (⟨#[]⟩ : ByteArray) ([] : List aH)), false)) (fun (j1 : Unit → Option (aH × Bool)) => eK p0 p1 j1 n 0))
theorem Hu  (n : Nat) (p0 : (List aZ)) (p1 : ByteArray) (r : (aH × Bool)) (h : rK n p0 p1 = some r) : cN E 91 0 [.c (.lit (List.map aM p0)), .c (Sx p1)] [] (.tup [.agg [I r.1.Kind, I r.1.N, Sx r.1.S, .lit (List.map aO r.1.L)], .c (Bo r.2)]) [] := by
 refine fW Tryz.func91 rfl ?_
 unfold rK at h
 refine za [0, 1, 4] ?_
 refine aQ h (fun A j => ∀ u, j u = some r → A (mk [(4, .c (.ptr 0 0))] [(0, .blk 152 [I 0, I 0, Sx (⟨#[]⟩ : ByteArray), bY])] 1)) (fun u h => ?_) (fun j1 Aj1 hj1 h => ?_)
 refine za [4, 5] ?_
 cases h
 exact aG zr
 refine zx fun _ => ?_
 refine zk 1 ?_
 refine zl aM p0 ?_
 refine zk 1 ?_
 refine ze [1, 4, 8, 9, 10] ?_
 refine aF ?_
 refine bA (fun n s => ∃ v4, eK p0 p1 j1 n v4 = some r ∧ s = mk [(1, .c (Sx p1)), (4, .c (.ptr 0 0)), (8, .c (.lit (List.map aM p0))), (9, .c (I (List.length p0 : Int))), (10, .c (I v4))] [(0, .blk 152 [I 0, I 0, Sx (⟨#[]⟩ : ByteArray), bY])] 1) n _ (zv [(0, 0)] [1, 4, 8, 9, 10] 1) ⟨_, h, rfl⟩ (fun s ⟨v4, h, _⟩ => nomatch h) ?_
 rintro n s ⟨v4, h, rfl⟩
 rw [eK] at h
 refine za [1, 4, 8, 9, 10, 11] ?_
 refine aK ?_
 refine zi h (fun h => ?_) fun h => ?_
 refine aC ?_
 refine aK ?_
 refine aF ?_
 refine zx fun _ => ?_
 obtain ⟨e5, he, h⟩ := aB h
 refine zd aM he ?_
 clear he
 refine zk 3 ?_
 refine ze [1, 4, 7, 8, 9, 10] ?_
 refine za [1, 4, 7, 8, 9, 10, 17] ?_
 refine zi h (fun h => ?_) fun h => ?_
 refine zx fun _ => ?_
 refine zk 2 ?_
 obtain ⟨y6, he, h⟩ := aB h
 refine zc Qv (Fg n _ y6 he) ?_
 clear he
 refine zk 2 ?_
 refine ze [4, 5] ?_
 cases h
 exact aG zr
 refine aC ?_
 refine aT ?_
 refine zb ?_
 exact dI (zv [(0, 0)] [1, 4, 8, 9, 10] 1) (⟨_, h, rfl⟩)
 exact aI (zv [(0, 0)] [4] 1) (bD (hj1 _ h))
def mD  (n : Nat) (p0 : (List aZ)) (p1 : ByteArray) : Option ByteArray := (rK n p0 p1).bind fun (y1 : (aH × Bool)) => (if (y1.1.Kind == 3) = true then some y1.1.S else some (⟨#[]⟩ : ByteArray))
theorem Hz  (n : Nat) (p0 : (List aZ)) (p1 : ByteArray) (r : ByteArray) (h : mD n p0 p1 = some r) : cN E 69 0 [.c (.lit (List.map aM p0)), .c (Sx p1)] [] (.c (Sx r)) [] := by
 refine fW Tryz.func69 rfl ?_
 unfold mD at h
 refine za [0, 1] ?_
 refine aK ?_
 refine zx fun _ => ?_
 refine zk 2 ?_
 obtain ⟨y1, he, h⟩ := aB h
 refine zc fok91 (Hu n _ _ y1 he) ?_
 clear he
 refine zk 6 ?_
 refine ze [5] ?_
 refine za [5, 15] ?_
 refine zi h (fun h => ?_) fun h => ?_
 refine za [4] ?_
 cases h
 exact aG zr
 refine aC ?_
 refine za [4] ?_
 cases h
 exact aG zr
theorem Vo : Mf E 101 bG (fun x => .agg (bG x)) := ⟨Tryz.f101, _, 2, _, _, _, _, _, _, _, _, _, Tryz.func101, rfl, rfl, by decide, rfl, fun D l y => by kernel_rfl, fun D l y i => by kernel_rfl, fun D l y i => by kernel_rfl, rfl, fun D l y i => by kernel_rfl, rfl, rfl, rfl, fun D l y i => by kernel_rfl, fun x => rfl, rfl, fun D l y i x => by kernel_rfl, rfl, rfl, rfl, rfl, rfl, fun D l y i b => by kernel_rfl, fun x => rfl⟩
def cO  (n : Nat) (p0 : (List aU)) : Option (List aU) := some p0
theorem iB  (n : Nat) (p0 : (List aU)) (r : (List aU)) (h : cO n p0 = some r) : cN E 70 0 [.c (.lit (List.map bG p0))] [] (.c (.fn 101 [.imm [.lit (List.map bG r)]])) [] := by
 refine fW Tryz.func70 rfl ?_
 unfold cO at h
 refine za [1] ?_
 refine za [2] ?_
 refine aI (vM 0 (T := 40) (l := [.lit (List.map bG p0)]) (l2 := [.lit (List.map bG p0)]) (L2 := [(2, .c (.fn 101 [.imm [.lit (List.map bG p0)]]))]) (G2 := []) (by kernel_rfl) (by kernel_rfl) (by kernel_rfl) (by kernel_rfl)) ?_
 cases h
 exact aG zr
def iH (n : Nat) (v12 : List (Int × aR)) (v13 : List (Int × ByteArray)) : List (Nat × aU) → List (Int × Int) → Option iN
 | [], v18 => some (iN.mk v12 v13 v18)
 | (i15, e16) :: t17, v18 => iH n v12 v13 t17 (iP e16.ID e16.States v18)
def jN (p0 : bC) (j1 : List (Int × aR) → List (Int × ByteArray) → Option iN) (p1 : (List aU)) : Nat → Int → List (Int × aR) → List (Int × ByteArray) → Option iN
 | 0, _, _, _ => none
 | n + 1, v4, v5, v6 => (if (decide (v4 < (List.length p0.Nodes : Int))) = true then (idx p0.Nodes v4).bind fun (e7 : aR) => (mD n e7.Attrs (⟨#[99, 108, 97, 115, 115]⟩ : ByteArray)).bind fun (y8 : ByteArray) => jN p0 j1 p1 n (IntKind.wrap .i64 (v4 + 1)) (iP e7.ID e7 v5) (iP e7.ID y8 v6) else j1 v5 v6)
def pG  (n : Nat) (p0 : bC) (p1 : (List aU)) : Option iN := (aV (fun (v12 : List (Int × aR)) (v13 : List (Int × ByteArray)) => (cO n p1).bind fun (y14 : (List aU)) => (Fp y14).bind fun (_ : Unit) => iH n v12 v13 (yQ y14 (List.length y14)) ([] : List (Int × Int))) (fun (j1 : List (Int × aR) → List (Int × ByteArray) → Option iN) => jN p0 j1 p1 n 0 ([] : List (Int × aR)) ([] : List (Int × ByteArray))))
theorem xC  (n : Nat) (p0 : bC) (p1 : (List aU)) (r : iN) (h : pG n p0 p1 = some r) : cN E 36 0 [.agg [I p0.Root, I p0.Next, .lit (List.map aE p0.Nodes)], .c (.lit (List.map bG p1))] [] (.agg [.lmap true (List.map (eM (Value.int .i64) aE) r.nodes), .lmap false (List.map (eM (Value.int .i64) eS) r.class_), .lmap false (List.map (eM (Value.int .i64) aJ) r.states)]) [] := by
 refine fW Tryz.func36 rfl ?_
 unfold pG at h
 refine za [1, 2, 4] ?_
 refine za [1, 2, 4, 5] ?_
 refine aQ h (fun A j => ∀ v12 v13, j v12 v13 = some r → A (mk [(1, .c (.lit (List.map bG p1))), (4, .c (.ptr 0 0)), (5, .c (.ptr 1 0))] [(0, .blk 92 [.v (.map none), .v (.map none), .v (.map none)]), (1, .blk 92 [.mapr 2, .mapr 3, .mapr 4]), (2, .map true (List.map (eM (Value.int .i64) aE) v12)), (3, .map false (List.map (eM (Value.int .i64) eS) v13)), (4, .map false (List.map (eM (Value.int .i64) aJ) ([] : List (Int × Int))))] 5)) (fun v12 v13 h => ?_) (fun j1 Aj1 hj1 h => ?_)
 refine aK ?_
 refine zx fun _ => ?_
 refine zk 1 ?_
 obtain ⟨y14, he, h⟩ := aB h
 refine zc fok70 (iB n _ y14 he) ?_
 clear he
 refine ze [4, 5, 35] ?_
 refine aF ?_
 refine aI (sD rfl [(0, 0), (1, 1), (2, 2), (3, 3), (4, 4)] [4, 5, 35] (L2 := [(4, .c (.ptr 0 0)), (5, .c (.ptr 1 0)), (35, .c (.fn 101 [.imm [.lit (List.map bG y14)]]))]) (G2 := [(0, .blk 92 [.v (.map none), .v (.map none), .v (.map none)]), (1, .blk 92 [.mapr 2, .mapr 3, .mapr 4]), (2, .map true (List.map (eM (Value.int .i64) aE) v12)), (3, .map false (List.map (eM (Value.int .i64) eS) v13)), (4, .map false (List.map (eM (Value.int .i64) aJ) ([] : List (Int × Int))))]) (lim2 := 5) (by kernel_rfl)) ?_
 obtain ⟨_, he, h⟩ := aB h
 refine Vr (l := y14) Xu Vo (by kernel_rfl) (Th he) (by kernel_rfl) (fun t G1 lim1 => ∃ (v18 : List (Int × Int)), iH n v12 v13 t v18 = some r ∧ G1 = [(0, .blk 92 [.v (.map none), .v (.map none), .v (.map none)]), (1, .blk 92 [.mapr 2, .mapr 3, .mapr 4]), (2, .map true (List.map (eM (Value.int .i64) aE) v12)), (3, .map false (List.map (eM (Value.int .i64) eS) v13)), (4, .map false (List.map (eM (Value.int .i64) aJ) v18))] ∧ lim1 = 5) ⟨_, h, rfl, rfl⟩ (fun lp x t17 G1 lim1 hJ => ?_) (fun G1 lim1 hJ => ?_)
 obtain ⟨i15, e16⟩ := x
 obtain ⟨v18, h, rfl, rfl⟩ := hJ
 rw [iH] at h
 show AW _ _ (mk [(4, .c (.ptr 0 0)), (5, .c (.ptr 1 0)), (35, .c (.fn 101 [.imm [.lit (List.map bG y14)]])), (36, .c (I (i15 : Int))), (37, .agg [I e16.ID, I e16.States])] [(0, .blk 92 [.v (.map none), .v (.map none), .v (.map none)]), (1, .blk 92 [.mapr 2, .mapr 3, .mapr 4]), (2, .map true (List.map (eM (Value.int .i64) aE) v12)), (3, .map false (List.map (eM (Value.int .i64) eS) v13)), (4, .map false (List.map (eM (Value.int .i64) aJ) v18))] 5) _
 refine zb ?_
 refine aF ?_
 refine aT ?_
 refine zy fun _ => ?_
 refine zk 6 ?_
 refine kA (kf := (Value.int .i64)) (enc := aJ) (l := v18) (k := e16.ID) (v := e16.States) (n := 4) (ag := false) (kk := .int .i64) (by kernel_rfl) gH (by kernel_rfl) (by kernel_rfl) rfl rfl ?_
 refine bL ?_
 exact dI (zv (L2 := []) [(0, 0), (1, 1), (2, 2), (3, 3), (4, 4)] [] 5) (⟨_, _, ⟨_, h, rfl, rfl⟩, rfl, rfl⟩)
 obtain ⟨v18, h, rfl, rfl⟩ := hJ
 rw [iH] at h
 refine za [4] ?_
 refine aI (rD 2 (ag := true) (l := List.map (eM (Value.int .i64) aE) v12) (L2 := [(4, .c (.ptr 0 0))]) (G2 := [(0, .blk 92 [.lmap true (List.map (eM (Value.int .i64) aE) v12), .mapr 3, .mapr 4]), (1, .blk 92 [.lmap true (List.map (eM (Value.int .i64) aE) v12), .mapr 3, .mapr 4]), (3, .map false (List.map (eM (Value.int .i64) eS) v13)), (4, .map false (List.map (eM (Value.int .i64) aJ) v18))]) (by kernel_rfl) (by kernel_rfl) (by kernel_rfl)) ?_
 refine aI (rD 3 (ag := false) (l := List.map (eM (Value.int .i64) eS) v13) (L2 := [(4, .c (.ptr 0 0))]) (G2 := [(0, .blk 92 [.lmap true (List.map (eM (Value.int .i64) aE) v12), .lmap false (List.map (eM (Value.int .i64) eS) v13), .mapr 4]), (1, .blk 92 [.lmap true (List.map (eM (Value.int .i64) aE) v12), .lmap false (List.map (eM (Value.int .i64) eS) v13), .mapr 4]), (4, .map false (List.map (eM (Value.int .i64) aJ) v18))]) (by kernel_rfl) (by kernel_rfl) (by kernel_rfl)) ?_
 refine aI (rD 4 (ag := false) (l := List.map (eM (Value.int .i64) aJ) v18) (L2 := [(4, .c (.ptr 0 0))]) (G2 := [(0, .blk 92 [.lmap true (List.map (eM (Value.int .i64) aE) v12), .lmap false (List.map (eM (Value.int .i64) eS) v13), .lmap false (List.map (eM (Value.int .i64) aJ) v18)]), (1, .blk 92 [.lmap true (List.map (eM (Value.int .i64) aE) v12), .lmap false (List.map (eM (Value.int .i64) eS) v13), .lmap false (List.map (eM (Value.int .i64) aJ) v18)])]) (by kernel_rfl) (by kernel_rfl) (by kernel_rfl)) ?_
 cases h
 exact aG zr
 refine zx fun _ => ?_
 refine zk 2 ?_
 refine zl aE p0.Nodes ?_
 refine zk 1 ?_
 refine ze [1, 4, 5, 15, 16, 17] ?_
 refine aF ?_
 refine bA (fun n s => ∃ v4 v5 v6, jN p0 j1 p1 n v4 v5 v6 = some r ∧ s = mk [(1, .c (.lit (List.map bG p1))), (4, .c (.ptr 0 0)), (5, .c (.ptr 1 0)), (15, .c (.lit (List.map aE p0.Nodes))), (16, .c (I (List.length p0.Nodes : Int))), (17, .c (I v4))] [(0, .blk 92 [.v (.map none), .v (.map none), .v (.map none)]), (1, .blk 92 [.mapr 2, .mapr 3, .mapr 4]), (2, .map true (List.map (eM (Value.int .i64) aE) v5)), (3, .map false (List.map (eM (Value.int .i64) eS) v6)), (4, .map false (List.map (eM (Value.int .i64) aJ) ([] : List (Int × Int))))] 5) n _ (zv [(1, 0), (6, 1), (2, 2), (3, 3), (4, 4)] [1, 4, 5, 15, 16, 17] 5) ⟨_, _, _, h, rfl⟩ (fun s ⟨v4, v5, v6, h, _⟩ => nomatch h) ?_
 rintro n s ⟨v4, v5, v6, h, rfl⟩
 rw [jN] at h
 refine za [1, 4, 5, 15, 16, 17, 18] ?_
 refine aK ?_
 refine zi h (fun h => ?_) fun h => ?_
 refine aC ?_
 refine aK ?_
 refine aF ?_
 refine zx fun _ => ?_
 obtain ⟨e7, he, h⟩ := aB h
 refine zd aE he ?_
 clear he
 refine zk 3 ?_
 refine ze [1, 4, 5, 7, 15, 16, 17] ?_
 refine Lh [[], [0], [], [2], [], [4], [], [6], [], [], [9], [10, 9], [1, 3, 8, 11, 0, 2, 10, 9], [5, 7, 11, 12, 0, 1, 2, 3, 4, 6, 8, 9, 10]] fun _ => ?_
 refine zk 11 ?_
 obtain ⟨y8, he, h⟩ := aB h
 refine zc fok69 (Hz n _ _ y8 he) ?_
 clear he
 refine kA (kf := (Value.int .i64)) (enc := aE) (l := v5) (k := e7.ID) (v := e7) (n := 2) (ag := true) (kk := .int .i64) (by kernel_rfl) gH (by kernel_rfl) (by kernel_rfl) rfl rfl ?_
 refine kA (kf := (Value.int .i64)) (enc := eS) (l := v6) (k := e7.ID) (v := y8) (n := 3) (ag := false) (kk := .int .i64) (by kernel_rfl) gH (by kernel_rfl) (by kernel_rfl) rfl rfl ?_
 refine bL ?_
 refine aT ?_
 refine zb ?_
 exact dI (zv [(0, 0), (1, 1), (2, 2), (3, 3), (4, 4)] [1, 4, 5, 15, 16, 17] 5) (⟨_, _, _, h, rfl⟩)
 exact aI (zv [(0, 0), (1, 1), (2, 2), (3, 3), (4, 4)] [1, 4, 5] 5) (bD (hj1 _ _ h))
end Go.Proofs.YtojkihhnioeggaaGreatDoor.S
