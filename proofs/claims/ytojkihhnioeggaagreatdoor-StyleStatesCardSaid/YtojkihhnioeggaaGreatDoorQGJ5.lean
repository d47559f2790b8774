import Derived.Test.YtojkihhnioeggaaGreatDoorQGJ4
set_option linter.unusedVariables false
set_option linter.unusedSimpArgs false
set_option maxRecDepth 100000
set_option maxHeartbeats 4000000
namespace Go.Proofs.YtojkihhnioeggaaGreatDoor.S
open Go Go.Bm
def iZ (self_expr_copyType : aQ → Option aQ) (n : Nat) (p0 : aQ) : Option aQ := (if ((List.length p0.Of : Int) == 0) = true then some (aQ.mk p0.Kind ([] : List aQ)) else (idx p0.Of 0).bind fun (e1 : aQ) => (self_expr_copyType e1).bind fun (y2 : aQ) => (nF n y2).bind fun (y3 : aQ) => some y3)
theorem sK (self_expr_copyType : aQ → Option aQ) (ih_expr_copyType : ∀ (p0 : aQ) (r : aQ), self_expr_copyType p0 = some r → cJ E 148 0 [.agg [I p0.Kind, .lit (List.map bE p0.Of)]] [] (.agg [I r.Kind, .lit (List.map bE r.Of)]) []) (n : Nat) (p0 : aQ) (r : aQ) (h : iZ self_expr_copyType n p0 = some r) : cJ E 148 0 [.agg [I p0.Kind, .lit (List.map bE p0.Of)]] [] (.agg [I r.Kind, .lit (List.map bE r.Of)]) [] := by
 refine fZ Tryz.func148 rfl ?_
 unfold iZ at h
 refine za [1, 2] ?_
 refine aI ?_
 refine zx fun _ => ?_
 refine zk 2 ?_
 refine zl bE p0.Of ?_
 refine zk 1 ?_
 refine ze [1, 2, 6] ?_
 refine zi h (fun h => ?_) fun h => ?_
 refine za [2] ?_
 cases h
 exact aH zr
 refine aC ?_
 refine zx fun _ => ?_
 refine zk 2 ?_
 obtain ⟨e1, he, h⟩ := aB h
 refine cE (v := .c (.imm [I e1.Kind, .lit (List.map bE e1.Of)])) (foot := []) (dJ (enc := bE) (sz := 2) (l := p0.Of) (ix := 0) he (by kernel_rfl) (fK e1) (by kernel_rfl)) (by kernel_rfl) rfl rfl ?_
 clear he
 refine zk 1 ?_
 obtain ⟨y2, he, h⟩ := aB h
 refine zc Su (ih_expr_copyType _ y2 he) ?_
 clear he
 obtain ⟨y3, he, h⟩ := aB h
 refine zc Lf (oY n _ y3 he) ?_
 clear he
 refine zk 1 ?_
 refine jY [2] (L2 := [(2, .c (.ptr 1 0))]) (G2 := [(0, .blk 190 [I p0.Kind, .lit (List.map bE p0.Of)]), (1, .blk 190 [I y3.Kind, .lit (List.map bE y3.Of)])]) 13 ?_
 cases h
 exact aH zr
def fT : Nat → aQ → Option aQ
 | 0, _ => none
 | n + 1, p0 => iZ (fun a0 => fT n a0) n p0
theorem yF (n : Nat) : (∀ (p0 : aQ) (r : aQ), fT n p0 = some r → cJ E 148 0 [.agg [I p0.Kind, .lit (List.map bE p0.Of)]] [] (.agg [I r.Kind, .lit (List.map bE r.Of)]) []) := by
 induction n with
 | zero => intro p0 r h; rw [fT] at h; cases h
 | succ n ih => intro p0 r h; rw [fT] at h; exact sK _ ih n _ r h
def kD  (n : Nat) (p0 : aF) : Option (aQ × Int) := (dO n p0 0 0).bind fun (y1 : (aQ × Int × Int)) => (if (y1.2.1 != 0) = true then some ((aQ.mk 0 ([] : List aQ)), y1.2.1) else (fT n y1.1).bind fun (y2 : aQ) => some (y2, 0))
theorem Ay  (n : Nat) (p0 : aF) (r : (aQ × Int)) (h : kD n p0 = some r) : cJ E 144 0 [.agg [I p0.Kind, I p0.N, Sx p0.S, .lit (List.map aN p0.L)]] [] (.tup [.agg [I r.1.Kind, .lit (List.map bE r.1.Of)], .c (I r.2)]) [] := by
 refine fZ Tryz.func144 rfl ?_
 unfold kD at h
 refine za [1, 2] ?_
 refine za [1, 2, 4] ?_
 refine zx fun _ => ?_
 refine zk 1 ?_
 obtain ⟨y1, he, h⟩ := aB h
 refine zo [(0, 3)] Qe (Ds n _ _ _ y1 he) ?_
 clear he
 refine zk 6 ?_
 refine ze [2, 5, 6] ?_
 refine aI ?_
 refine za [2, 5, 6, 13] ?_
 refine zi h (fun h => ?_) fun h => ?_
 refine za [2, 3] ?_
 cases h
 exact aH zr
 refine aC ?_
 refine zx fun _ => ?_
 refine zk 1 ?_
 obtain ⟨y2, he, h⟩ := aB h
 refine zc Su (yF n _ y2 he) ?_
 clear he
 refine zk 2 ?_
 refine ze [2, 3] ?_
 cases h
 exact aH zr
def iX  (n : Nat) (p0 : aF) : Option Int := (kD n p0).bind fun (y1 : (aQ × Int)) => some y1.2
theorem vG  (n : Nat) (p0 : aF) (r : Int) (h : iX n p0 = some r) : cJ E 139 0 [.agg [I p0.Kind, I p0.N, Sx p0.S, .lit (List.map aN p0.L)]] [] (.c (I r)) [] := by
 refine fZ Tryz.func139 rfl ?_
 unfold iX at h
 refine za [1] ?_
 refine zx fun _ => ?_
 refine zk 1 ?_
 obtain ⟨y1, he, h⟩ := aB h
 refine zc Xj (Ay n _ y1 he) ?_
 clear he
 refine zk 6 ?_
 refine ze [4] ?_
 refine za [2] ?_
 cases h
 exact aH zr
def eG (p0 : (List aY)) (j1 : Unit → Option Int) : Nat → Int → Option Int
 | 0, _ => none
 | n + 1, v6 => (if (decide (v6 < (List.length p0 : Int))) = true then (idx p0 v6).bind fun (e7 : aY) => (fO n e7.Name).bind fun (y8 : Bool) => (if (!y8) = true then some 4 else (gd [(decide (v6 > 0))] (idx p0 (IntKind.wrap .i64 (v6 - 1)))).bind fun (e9 : aY) => (if ((decide (v6 > 0)) && (!(Ip e9.Name e7.Name))) = true then some 10 else (iX n e7.Value).bind fun (y10 : Int) => (if (y10 != 0) = true then some y10 else eG p0 j1 n (IntKind.wrap .i64 (v6 + 1))))) else j1 ())
def lG  (n : Nat) (p0 : (List aY)) : Option Int := (aX (fun (_ : Unit) => some 0) (fun (j1 : Unit → Option Int) => eG p0 j1 n 0))
theorem vK  (n : Nat) (p0 : (List aY)) (r : Int) (h : lG n p0 = some r) : cJ E 131 0 [.c (.lit (List.map aM p0))] [] (.c (I r)) [] := by
 refine fZ Tryz.func131 rfl ?_
 unfold lG at h
 refine za [0] ?_
 refine aT h (fun A j => ∀ u, j u = some r → A (mk [] [] 0)) (fun u h => ?_) (fun j1 Aj1 hj1 h => ?_)
 refine za [2] ?_
 cases h
 exact aH zr
 refine zx fun _ => ?_
 refine zk 1 ?_
 refine zl aM p0 ?_
 refine zk 1 ?_
 refine ze [0, 6, 7, 8] ?_
 refine aG ?_
 refine aZ (fun n s => ∃ v6, eG p0 j1 n v6 = some r ∧ s = mk [(0, .c (.lit (List.map aM p0))), (6, .c (.lit (List.map aM p0))), (7, .c (I (List.length p0 : Int))), (8, .c (I v6))] [] 0) n _ (zv [] [0, 6, 7, 8] 0) ⟨_, h, rfl⟩ (fun s ⟨v6, h, _⟩ => nomatch h) ?_
 rintro n s ⟨v6, h, rfl⟩
 rw [eG] at h
 refine za [0, 6, 7, 8, 9] ?_
 refine aI ?_
 refine zi h (fun h => ?_) fun h => ?_
 refine aC ?_
 refine aI ?_
 refine aG ?_
 refine zx fun _ => ?_
 refine zk 1 ?_
 obtain ⟨e7, he, h⟩ := aB h
 refine zd aM he ?_
 clear he
 refine zk 4 ?_
 refine ze [0, 3, 4, 6, 7, 8] ?_
 refine aI ?_
 refine aG ?_
 refine zx fun _ => ?_
 refine zk 2 ?_
 obtain ⟨y8, he, h⟩ := aB h
 refine zc Az (jG n _ y8 he) ?_
 clear he
 refine zk 2 ?_
 refine ze [0, 3, 4, 6, 7, 8, 13] ?_
 refine zi h (fun h => ?_) fun h => ?_
 refine za [2] ?_
 cases h
 exact aH zr
 refine xN [[], [0], [1, 0], [2, 1, 0], [2, 1, 0], [4, 2, 1, 0], [3, 5, 2, 1, 0, 4], [6, 2, 3, 5, 1, 0, 4], [7, 2, 6, 3, 5, 1, 0, 4], [2, 1, 0], [9, 2, 1, 0], [8, 10, 2, 7, 6, 3, 5, 1, 0, 4, 9], [2, 11, 1, 0, 8, 10, 7, 6, 3, 5, 4, 9], [12, 2, 11, 1, 0, 8, 10, 7, 6, 3, 5, 4, 9]] fun _ => ?_
 refine zk 3 ?_
 refine zE (.c (.lit (List.map aM p0))) ?_
 refine zE (.c (I v6)) ?_
 refine zE (.c (I (IntKind.wrap .i64 (v6 - 1)))) ?_
 obtain ⟨e9, he, h⟩ := aB h
 refine jA (e := [(decide (v6 > 0))]) [(22, .c (.lit (List.map aM p0)), some 1), (24, .c (I (IntKind.wrap .i64 (v6 - 1))), some 1)] (v := .c (.imm [Sx e9.Name, I e9.Value.Kind, I e9.Value.N, Sx e9.Value.S, .lit (List.map aN e9.Value.L)])) (foot := []) (by kernel_rfl) (by kernel_rfl) (by kernel_rfl) (fun hg => dJ (enc := aM) (sz := 5) (l := p0) (ix := (IntKind.wrap .i64 (v6 - 1))) (bT he hg) (by kernel_rfl) (by kernel_rfl) (by kernel_rfl)) rfl rfl ?_
 clear he
 refine zE (.c (.imm [Sx e9.Name, I e9.Value.Kind, I e9.Value.N, Sx e9.Value.S, .lit (List.map aN e9.Value.L)])) ?_
 refine zE (.c (Sx e9.Name)) ?_
 refine zE (.c (.ptr 4 0)) ?_
 refine zE (.c (Sx e7.Name)) ?_
 refine zE (.c (Bo (!(Ip e9.Name e7.Name)))) ?_
 refine zP (.bool ((decide (v6 > 0)) && (!(Ip e9.Name e7.Name)))) ?_
 refine zk 1 ?_
 refine jY [0, 4, 6, 7, 8, 18] (L2 := [(0, .c (.lit (List.map aM p0))), (6, .c (.lit (List.map aM p0))), (7, .c (I (List.length p0 : Int))), (8, .c (I v6)), (4, .c (.ptr 4 0)), (18, .c (Bo ((decide (v6 > 0)) && (!(Ip e9.Name e7.Name)))))]) (G2 := [(4, .blk 172 [Sx e7.Name, I e7.Value.Kind, I e7.Value.N, Sx e7.Value.S, .lit (List.map aN e7.Value.L)])]) 26 ?_
 refine zi h (fun h => ?_) fun h => ?_
 refine za [2] ?_
 cases h
 exact aH zr
 refine aC ?_
 refine zx fun _ => ?_
 refine zk 2 ?_
 obtain ⟨y10, he, h⟩ := aB h
 refine zc Pm (vG n _ y10 he) ?_
 clear he
 refine zk 1 ?_
 refine ze [0, 5, 6, 7, 8] ?_
 refine za [0, 5, 6, 7, 8, 36] ?_
 refine zi h (fun h => ?_) fun h => ?_
 refine za [2] ?_
 cases h
 exact aH zr
 refine aC ?_
 refine aU ?_
 refine zb ?_
 exact dW (zv [] [0, 6, 7, 8] 0) (⟨_, h, rfl⟩)
 exact aJ (zv [] [] 0) (bC (hj1 _ h))
def gB (e15 : cA) (j14 : Unit → Option Int) (p0 : (List cA)) (v13 : Int) : Nat → Int → Option Int
 | 0, _ => none
 | n + 1, v21 => (if (decide (v21 < (List.length e15.Args : Int))) = true then (idx e15.Args v21).bind fun (e22 : aF) => (iX n e22).bind fun (y23 : Int) => (if (y23 != 0) = true then some y23 else gB e15 j14 p0 v13 n (IntKind.wrap .i64 (v21 + 1))) else j14 ())
def eD (p0 : (List cA)) (j1 : Unit → Option Int) : Nat → Int → Option Int
 | 0, _ => none
 | n + 1, v13 => (if (decide (v13 < (List.length p0 : Int))) = true then (aX (fun (_ : Unit) => eD p0 j1 n (IntKind.wrap .i64 (v13 + 1))) (fun (j14 : Unit → Option Int) => (idx p0 v13).bind fun (e15 : cA) => (fO n e15.Event).bind fun (y16 : Bool) => (gd [(!(!y16))] (fO n e15.Handler)).bind fun (y17 : Bool) => (if ((!y16) || (!y17)) = true then some 4 else (gd [(decide (v13 > 0))] (idx p0 (IntKind.wrap .i64 (v13 - 1)))).bind fun (e18 : cA) => (if ((decide (v13 > 0)) && (!(Ip e18.Event e15.Event))) = true then some 10 else (if ((decide ((ByteArray.size e15.Instance : Int) > 400)) || (decide ((List.length e15.Args : Int) > 100))) = true then some 2 else gB e15 j14 p0 v13 n 0))))) else j1 ())
def mE  (n : Nat) (p0 : (List cA)) : Option Int := (aX (fun (_ : Unit) => some 0) (fun (j1 : Unit → Option Int) => eD p0 j1 n 0))
theorem zN  (n : Nat) (p0 : (List cA)) (r : Int) (h : mE n p0 = some r) : cJ E 132 0 [.c (.lit (List.map aD p0))] [] (.c (I r)) [] := by
 refine fZ Tryz.func132 rfl ?_
 unfold mE at h
 refine za [0] ?_
 refine aT h (fun A j => ∀ u, j u = some r → A (mk [] [] 0)) (fun u h => ?_) (fun j1 Aj1 hj1 h => ?_)
 refine za [2] ?_
 cases h
 exact aH zr
 refine zx fun _ => ?_
 refine zk 1 ?_
 refine zl aD p0 ?_
 refine zk 1 ?_
 refine ze [0, 8, 9, 10] ?_
 refine aG ?_
 refine aZ (fun n s => ∃ v13, eD p0 j1 n v13 = some r ∧ s = mk [(0, .c (.lit (List.map aD p0))), (8, .c (.lit (List.map aD p0))), (9, .c (I (List.length p0 : Int))), (10, .c (I v13))] [] 0) n _ (zv [] [0, 8, 9, 10] 0) ⟨_, h, rfl⟩ (fun s ⟨v13, h, _⟩ => nomatch h) ?_
 rintro n s ⟨v13, h, rfl⟩
 rw [eD] at h
 refine za [0, 8, 9, 10, 11] ?_
 refine aI ?_
 refine zi h (fun h => ?_) fun h => ?_
 refine aC ?_
 refine aT h (fun A j => ∀ u, j u = some r → A (mk [(0, .c (.lit (List.map aD p0))), (8, .c (.lit (List.map aD p0))), (9, .c (I (List.length p0 : Int))), (10, .c (I v13))] [] 0)) (fun u h => ?_) (fun j14 Aj14 hj14 h => ?_)
 refine aU ?_
 refine zb ?_
 exact dW (zv [] [0, 8, 9, 10] 0) (⟨_, h, rfl⟩)
 refine aG ?_
 refine zx fun _ => ?_
 refine zk 1 ?_
 obtain ⟨e15, he, h⟩ := aB h
 refine zd aD he ?_
 clear he
 refine zk 4 ?_
 refine ze [0, 3, 4, 8, 9, 10] ?_
 refine aI ?_
 refine aG ?_
 refine zx fun _ => ?_
 refine zk 2 ?_
 obtain ⟨y16, he, h⟩ := aB h
 refine zc Az (jG n _ y16 he) ?_
 clear he
 refine zk 2 ?_
 refine zE (.c (.ptr 4 2)) ?_
 refine zE (.c (Sx e15.Handler)) ?_
 obtain ⟨y17, he, h⟩ := aB h
 refine Ks [(!(!y16))] Az (fun hg => jG n _ y17 (bT he hg)) ?_
 clear he
 refine zE (.c (Bo (!y17))) ?_
 refine zP (.bool ((!y16) || (!y17))) ?_
 refine zk 1 ?_
 refine jY [0, 3, 4, 8, 9, 10, 15] (L2 := [(0, .c (.lit (List.map aD p0))), (8, .c (.lit (List.map aD p0))), (9, .c (I (List.length p0 : Int))), (10, .c (I v13)), (4, .c (.ptr 4 0)), (3, .c (I v13)), (15, .c (Bo ((!y16) || (!y17))))]) (G2 := [(4, .blk 159 [Sx e15.Event, Sx e15.Instance, Sx e15.Handler, .lit (List.map aN e15.Args)])]) 18 ?_
 refine zi h (fun h => ?_) fun h => ?_
 refine za [2] ?_
 cases h
 exact aH zr
 refine xN [[], [0], [1, 0], [2, 1, 0], [2, 1, 0], [4, 2, 1, 0], [3, 5, 2, 1, 0, 4], [6, 2, 3, 5, 1, 0, 4], [7, 2, 6, 3, 5, 1, 0, 4], [2, 1, 0], [9, 2, 1, 0], [8, 10, 2, 7, 6, 3, 5, 1, 0, 4, 9], [2, 11, 1, 0, 8, 10, 7, 6, 3, 5, 4, 9], [12, 2, 11, 1, 0, 8, 10, 7, 6, 3, 5, 4, 9]] fun _ => ?_
 refine zk 3 ?_
 refine zE (.c (.lit (List.map aD p0))) ?_
 refine zE (.c (I v13)) ?_
 refine zE (.c (I (IntKind.wrap .i64 (v13 - 1)))) ?_
 obtain ⟨e18, he, h⟩ := aB h
 refine jA (e := [(decide (v13 > 0))]) [(30, .c (.lit (List.map aD p0)), some 1), (32, .c (I (IntKind.wrap .i64 (v13 - 1))), some 1)] (v := .c (.imm [Sx e18.Event, Sx e18.Instance, Sx e18.Handler, .lit (List.map aN e18.Args)])) (foot := []) (by kernel_rfl) (by kernel_rfl) (by kernel_rfl) (fun hg => dJ (enc := aD) (sz := 4) (l := p0) (ix := (IntKind.wrap .i64 (v13 - 1))) (bT he hg) (by kernel_rfl) (by kernel_rfl) (by kernel_rfl)) rfl rfl ?_
 clear he
 refine zE (.c (.imm [Sx e18.Event, Sx e18.Instance, Sx e18.Handler, .lit (List.map aN e18.Args)])) ?_
 refine zE (.c (Sx e18.Event)) ?_
 refine zE (.c (.ptr 4 0)) ?_
 refine zE (.c (Sx e15.Event)) ?_
 refine zE (.c (Bo (!(Ip e18.Event e15.Event)))) ?_
 refine zP (.bool ((decide (v13 > 0)) && (!(Ip e18.Event e15.Event)))) ?_
 refine zk 1 ?_
 refine jY [0, 4, 8, 9, 10, 26] (L2 := [(0, .c (.lit (List.map aD p0))), (8, .c (.lit (List.map aD p0))), (9, .c (I (List.length p0 : Int))), (10, .c (I v13)), (4, .c (.ptr 4 0)), (26, .c (Bo ((decide (v13 > 0)) && (!(Ip e18.Event e15.Event)))))]) (G2 := [(4, .blk 159 [Sx e15.Event, Sx e15.Instance, Sx e15.Handler, .lit (List.map aN e15.Args)])]) 32 ?_
 refine zi h (fun h => ?_) fun h => ?_
 refine za [2] ?_
 cases h
 exact aH zr
 refine zx fun _ => ?_
 refine zk 5 ?_
 refine zE (.c (.ptr 4 3)) ?_
 refine zE (.c (.lit (List.map aN e15.Args))) ?_
 refine jA (e := [(!(decide ((ByteArray.size e15.Instance : Int) > 400)))]) [(47, .c (.lit (List.map aN e15.Args)), some 1)] (v := .c (I (List.length e15.Args : Int))) (foot := []) (by kernel_rfl) (by kernel_rfl) (by kernel_rfl) (fun hg => jN (enc := aN) (l := e15.Args) (by kernel_rfl)) rfl rfl ?_
 refine zE (.c (Bo (decide ((List.length e15.Args : Int) > 100)))) ?_
 refine zP (.bool ((decide ((ByteArray.size e15.Instance : Int) > 400)) || (decide ((List.length e15.Args : Int) > 100)))) ?_
 refine zk 1 ?_
 refine ze [0, 4, 8, 9, 10, 40] ?_
 refine zi h (fun h => ?_) fun h => ?_
 refine za [2] ?_
 cases h
 exact aH zr
 refine aC ?_
 refine zx fun _ => ?_
 refine zk 2 ?_
 refine zl aN e15.Args ?_
 refine zk 1 ?_
 refine jY [0, 8, 9, 10, 52, 53, 54] (L2 := [(0, .c (.lit (List.map aD p0))), (8, .c (.lit (List.map aD p0))), (9, .c (I (List.length p0 : Int))), (10, .c (I v13)), (52, .c (.lit (List.map aN e15.Args))), (53, .c (I (List.length e15.Args : Int))), (54, .c (I 0))]) (G2 := [(4, .blk 159 [Sx e15.Event, Sx e15.Instance, Sx e15.Handler, .lit (List.map aN e15.Args)])]) 47 ?_
 refine aG ?_
 refine aZ (fun n s => ∃ v21, gB e15 j14 p0 v13 n v21 = some r ∧ s = mk [(0, .c (.lit (List.map aD p0))), (8, .c (.lit (List.map aD p0))), (9, .c (I (List.length p0 : Int))), (10, .c (I v13)), (52, .c (.lit (List.map aN e15.Args))), (53, .c (I (List.length e15.Args : Int))), (54, .c (I v21))] [] 0) n _ (zv [] [0, 8, 9, 10, 52, 53, 54] 0) ⟨_, h, rfl⟩ (fun s ⟨v21, h, _⟩ => nomatch h) ?_
 rintro n s ⟨v21, h, rfl⟩
 rw [gB] at h
 refine za [0, 8, 9, 10, 52, 53, 54, 55] ?_
 refine aI ?_
 refine zi h (fun h => ?_) fun h => ?_
 refine aC ?_
 refine aI ?_
 refine aG ?_
 refine zx fun _ => ?_
 obtain ⟨e22, he, h⟩ := aB h
 refine cE (v := .c (.imm [I e22.Kind, I e22.N, Sx e22.S, .lit (List.map aN e22.L)])) (foot := []) (dJ (enc := aN) (sz := 4) (l := e15.Args) (ix := v21) he (by kernel_rfl) (dF e22) (by kernel_rfl)) (by kernel_rfl) rfl rfl ?_
 clear he
 refine zk 3 ?_
 refine ze [0, 6, 8, 9, 10, 52, 53, 54] ?_
 refine zx fun _ => ?_
 refine zk 1 ?_
 obtain ⟨y23, he, h⟩ := aB h
 refine zc Pm (vG n _ y23 he) ?_
 clear he
 refine zk 1 ?_
 refine ze [0, 7, 8, 9, 10, 52, 53, 54] ?_
 refine za [0, 7, 8, 9, 10, 52, 53, 54, 61] ?_
 refine zi h (fun h => ?_) fun h => ?_
 refine za [2] ?_
 cases h
 exact aH zr
 refine aC ?_
 refine aU ?_
 refine zb ?_
 exact dW (zv [] [0, 8, 9, 10, 52, 53, 54] 0) (⟨_, h, rfl⟩)
 exact aJ (zv [] [0, 8, 9, 10] 0) (bC (hj14 _ h))
 exact aJ (zv [] [] 0) (bC (hj1 _ h))
def fM (p0 : aK) (self_view_validate : aK → Int → Int → Option (Int × Int)) (p1 : Int) (j13 : Int → Option (Int × Int)) : Nat → Int → Int → Option (Int × Int)
 | 0, _, _ => none
 | n + 1, v16, v17 => (if (decide (v16 < (List.length p0.Kids : Int))) = true then (idx p0.Kids v16).bind fun (e18 : aK) => (self_view_validate e18 (IntKind.wrap .i64 (p1 + 1)) v17).bind fun (y19 : (Int × Int)) => (if (y19.1 != 0) = true then some (y19.1, y19.2) else fM p0 self_view_validate p1 j13 n (IntKind.wrap .i64 (v16 + 1)) y19.2) else j13 v17)
def fP (p0 : aK) (p2 : Int) (j4 : Unit → Option (Int × Int)) (p1 : Int) : Nat → Int → List (ByteArray × Bool) → Option (Int × Int)
 | 0, _, _ => none
 | n + 1, v7, v8 => (if (decide (v7 < (List.length p0.Kids : Int))) = true then (idx p0.Kids v7).bind fun (e9 : aK) => (gd [(!(dA e9.Key (⟨#[]⟩ : ByteArray)))] (some (lS e9.Key v8, lA e9.Key v8))).bind fun (y10 : (Bool × Bool)) => (if ((!(dA e9.Key (⟨#[]⟩ : ByteArray))) && y10.1) = true then some (6, (IntKind.wrap .i64 (p2 + 1))) else fP p0 p2 j4 p1 n (IntKind.wrap .i64 (v7 + 1)) (jO e9.Key true v8)) else j4 ())
def jD (self_view_validate : aK → Int → Int → Option (Int × Int)) (n : Nat) (p0 : aK) (p1 : Int) (p2 : Int) : Option (Int × Int) := (if (decide (p1 > 16)) = true then some (8, (IntKind.wrap .i64 (p2 + 1))) else (if (decide ((IntKind.wrap .i64 (p2 + 1)) > 400)) = true then some (2, (IntKind.wrap .i64 (p2 + 1))) else (if ((decide (p0.Kind < 1)) || (decide (p0.Kind > 13))) = true then some (9, (IntKind.wrap .i64 (p2 + 1))) else (wH n p0.Key).bind fun (y1 : Bool) => (if (!y1) = true then some (4, (IntKind.wrap .i64 (p2 + 1))) else (if (((decide ((List.length p0.Attrs : Int) > 24)) || (decide ((List.length p0.Actions : Int) > 24))) || (decide ((List.length p0.Kids : Int) > 100))) = true then some (2, (IntKind.wrap .i64 (p2 + 1))) else (lG n p0.Attrs).bind fun (y2 : Int) => (if (y2 != 0) = true then some (y2, (IntKind.wrap .i64 (p2 + 1))) else (mE n p0.Actions).bind fun (y3 : Int) => (if (y3 != 0) = true then some (y3, (IntKind.wrap .i64 (p2 + 1))) else (aX (fun (_ : Unit) => (aX (fun (v22 : Int) => some (0, v22)) (fun (j13 : Int → Option (Int × Int)) => fM p0 self_view_validate p1 j13 n 0 (IntKind.wrap .i64 (p2 + 1))))) (fun (j4 : Unit → Option (Int × Int)) => fP p0 p2 j4 p1 n 0 ([] : List (ByteArray × Bool)))))))))))
theorem sH (self_view_validate : aK → Int → Int → Option (Int × Int)) (ih_view_validate : ∀ (p0 : aK) (p1 : Int) (p2 : Int) (r : (Int × Int)), self_view_validate p0 p1 p2 = some r → cJ E 115 1 [.agg [I p0.Kind, Sx p0.Key, .lit (List.map aM p0.Attrs), .lit (List.map aD p0.Actions), .lit (List.map aV p0.Kids)], .c (I p1), .c (.ptr 0 0)] [(0, .blk 3 [I p2])] (.c (I r.1)) [(0, .blk 3 [I r.2])]) (n : Nat) (p0 : aK) (p1 : Int) (p2 : Int) (r : (Int × Int)) (h : jD self_view_validate n p0 p1 p2 = some r) : cJ E 115 1 [.agg [I p0.Kind, Sx p0.Key, .lit (List.map aM p0.Attrs), .lit (List.map aD p0.Actions), .lit (List.map aV p0.Kids)], .c (I p1), .c (.ptr 0 0)] [(0, .blk 3 [I p2])] (.c (I r.1)) [(0, .blk 3 [I r.2])] := by
 refine fZ Tryz.func115 rfl ?_
 unfold jD at h
 refine za [1, 2, 3] ?_
 refine za [1, 2, 3] ?_
 refine aI ?_
 refine aG ?_
 refine za [1, 2, 3, 20] ?_
 refine zi h (fun h => ?_) fun h => ?_
 refine za [6] ?_
 cases h
 exact aH zr
 refine za [1, 2, 3, 23] ?_
 refine zi h (fun h => ?_) fun h => ?_
 refine za [6] ?_
 cases h
 exact aH zr
 refine zx fun _ => ?_
 refine zk 4 ?_
 refine zE (.c (.ptr 1 0)) ?_
 refine zE (.c (I p0.Kind)) ?_
 refine zE (.c (Bo (decide (p0.Kind > 13)))) ?_
 refine zP (.bool ((decide (p0.Kind < 1)) || (decide (p0.Kind > 13)))) ?_
 refine zk 1 ?_
 refine jY [1, 2, 3, 28] (L2 := [(1, .c (I p1)), (2, .c (.ptr 0 0)), (3, .c (.ptr 1 0)), (28, .c (Bo ((decide (p0.Kind < 1)) || (decide (p0.Kind > 13)))))]) (G2 := [(0, .blk 3 [I (IntKind.wrap .i64 (p2 + 1))]), (1, .blk 70 [I p0.Kind, Sx p0.Key, .lit (List.map aM p0.Attrs), .lit (List.map aD p0.Actions), .lit (List.map aV p0.Kids)])]) 26 ?_
 refine zi h (fun h => ?_) fun h => ?_
 refine za [6] ?_
 cases h
 exact aH zr
 refine zx fun _ => ?_
 refine zk 2 ?_
 obtain ⟨y1, he, h⟩ := aB h
 refine zc Yc (Jg n _ y1 he) ?_
 clear he
 refine zk 2 ?_
 refine ze [1, 2, 3, 37] ?_
 refine zi h (fun h => ?_) fun h => ?_
 refine za [6] ?_
 cases h
 exact aH zr
 refine zx fun _ => ?_
 refine zk 2 ?_
 refine zl aM p0.Attrs ?_
 refine zk 2 ?_
 refine zE (.c (.ptr 1 3)) ?_
 refine zE (.c (.lit (List.map aD p0.Actions))) ?_
 refine jA (e := [(!(decide ((List.length p0.Attrs : Int) > 24)))]) [(49, .c (.lit (List.map aD p0.Actions)), some 1)] (v := .c (I (List.length p0.Actions : Int))) (foot := []) (by kernel_rfl) (by kernel_rfl) (by kernel_rfl) (fun hg => jN (enc := aD) (l := p0.Actions) (by kernel_rfl)) rfl rfl ?_
 refine zE (.c (Bo (decide ((List.length p0.Actions : Int) > 24)))) ?_
 refine zP (.bool ((decide ((List.length p0.Attrs : Int) > 24)) || (decide ((List.length p0.Actions : Int) > 24)))) ?_
 refine zk 1 ?_
 refine zE (.c (.ptr 1 4)) ?_
 refine zE (.c (.lit (List.map aV p0.Kids))) ?_
 refine jA (e := [(!((decide ((List.length p0.Attrs : Int) > 24)) || (decide ((List.length p0.Actions : Int) > 24))))]) [(55, .c (.lit (List.map aV p0.Kids)), some 1)] (v := .c (I (List.length p0.Kids : Int))) (foot := []) (by kernel_rfl) (by kernel_rfl) (by kernel_rfl) (fun hg => jN (enc := aV) (l := p0.Kids) (by kernel_rfl)) rfl rfl ?_
 refine zE (.c (Bo (decide ((List.length p0.Kids : Int) > 100)))) ?_
 refine zP (.bool (((decide ((List.length p0.Attrs : Int) > 24)) || (decide ((List.length p0.Actions : Int) > 24))) || (decide ((List.length p0.Kids : Int) > 100)))) ?_
 refine zk 1 ?_
 refine jY [1, 2, 3, 42] (L2 := [(1, .c (I p1)), (2, .c (.ptr 0 0)), (3, .c (.ptr 1 0)), (42, .c (Bo (((decide ((List.length p0.Attrs : Int) > 24)) || (decide ((List.length p0.Actions : Int) > 24))) || (decide ((List.length p0.Kids : Int) > 100)))))]) (G2 := [(0, .blk 3 [I (IntKind.wrap .i64 (p2 + 1))]), (1, .blk 70 [I p0.Kind, Sx p0.Key, .lit (List.map aM p0.Attrs), .lit (List.map aD p0.Actions), .lit (List.map aV p0.Kids)])]) 48 ?_
 refine zi h (fun h => ?_) fun h => ?_
 refine za [6] ?_
 cases h
 exact aH zr
 refine aC ?_
 refine aI ?_
 refine zx fun _ => ?_
 refine zk 2 ?_
 obtain ⟨y2, he, h⟩ := aB h
 refine zc Yb (vK n _ y2 he) ?_
 clear he
 refine zk 1 ?_
 refine ze [1, 2, 3, 7] ?_
 refine za [1, 2, 3, 7, 63] ?_
 refine zi h (fun h => ?_) fun h => ?_
 refine za [6] ?_
 cases h
 exact aH zr
 refine aC ?_
 refine aI ?_
 refine zx fun _ => ?_
 refine zk 2 ?_
 obtain ⟨y3, he, h⟩ := aB h
 refine zc Ww (zN n _ y3 he) ?_
 clear he
 refine zk 1 ?_
 refine ze [1, 2, 3, 8] ?_
 refine za [1, 2, 3, 8, 69] ?_
 refine zi h (fun h => ?_) fun h => ?_
 refine za [6] ?_
 cases h
 exact aH zr
 refine aC ?_
 refine za [1, 2, 3, 9] ?_
 refine aT h (fun A j => ∀ u, j u = some r → A (mk [(1, .c (I p1)), (2, .c (.ptr 0 0)), (3, .c (.ptr 1 0))] [(0, .blk 3 [I (IntKind.wrap .i64 (p2 + 1))]), (1, .blk 70 [I p0.Kind, Sx p0.Key, .lit (List.map aM p0.Attrs), .lit (List.map aD p0.Actions), .lit (List.map aV p0.Kids)])] 2)) (fun u h => ?_) (fun j4 Aj4 hj4 h => ?_)
 refine aT h (fun A j => ∀ v22, j v22 = some r → A (mk [] [(0, .blk 3 [I v22])] 1)) (fun v22 h => ?_) (fun j13 Aj13 hj13 h => ?_)
 refine za [6] ?_
 cases h
 exact aH zr
 refine zx fun _ => ?_
 refine zk 2 ?_
 refine zl aV p0.Kids ?_
 refine zk 1 ?_
 refine ze [1, 2, 93, 94, 95] ?_
 refine aG ?_
 refine aZ (fun n s => ∃ v16 v17, fM p0 self_view_validate p1 j13 n v16 v17 = some r ∧ s = mk [(1, .c (I p1)), (2, .c (.ptr 0 0)), (93, .c (.lit (List.map aV p0.Kids))), (94, .c (I (List.length p0.Kids : Int))), (95, .c (I v16))] [(0, .blk 3 [I v17])] 1) n _ (zv [(0, 0)] [1, 2, 93, 94, 95] 1) ⟨_, _, h, rfl⟩ (fun s ⟨v16, v17, h, _⟩ => nomatch h) ?_
 rintro n s ⟨v16, v17, h, rfl⟩
 rw [fM] at h
 refine za [1, 2, 93, 94, 95, 96] ?_
 refine aI ?_
 refine zi h (fun h => ?_) fun h => ?_
 refine aC ?_
 refine aI ?_
 refine aG ?_
 refine zx fun _ => ?_
 obtain ⟨e18, he, h⟩ := aB h
 refine cE (v := .c (.imm [I e18.Kind, Sx e18.Key, .lit (List.map aM e18.Attrs), .lit (List.map aD e18.Actions), .lit (List.map aV e18.Kids)])) (foot := []) (dJ (enc := aV) (sz := 5) (l := p0.Kids) (ix := v16) he (by kernel_rfl) (fL e18) (by kernel_rfl)) (by kernel_rfl) rfl rfl ?_
 clear he
 refine zk 3 ?_
 refine ze [1, 2, 13, 93, 94, 95] ?_
 refine zx fun _ => ?_
 refine zk 4 ?_
 obtain ⟨y19, he, h⟩ := aB h
 refine zo [(0, 0)] Se (ih_view_validate _ _ _ y19 he) ?_
 clear he
 refine zk 1 ?_
 refine ze [1, 2, 14, 93, 94, 95] ?_
 refine za [1, 2, 14, 93, 94, 95, 105] ?_
 refine zi h (fun h => ?_) fun h => ?_
 refine za [6] ?_
 cases h
 exact aH zr
 refine aC ?_
 refine aU ?_
 refine zb ?_
 exact dW (zv [(0, 0)] [1, 2, 93, 94, 95] 1) (⟨_, _, h, rfl⟩)
 exact aJ (zv [(0, 0)] [] 1) (bC (hj13 _ h))
 refine zx fun _ => ?_
 refine zk 2 ?_
 refine zl aV p0.Kids ?_
 refine zk 1 ?_
 refine jY [1, 2, 3, 9, 73, 74, 75] (L2 := [(1, .c (I p1)), (2, .c (.ptr 0 0)), (3, .c (.ptr 1 0)), (9, .c (.mapr 60)), (73, .c (.lit (List.map aV p0.Kids))), (74, .c (I (List.length p0.Kids : Int))), (75, .c (I 0))]) (G2 := [(0, .blk 3 [I (IntKind.wrap .i64 (p2 + 1))]), (1, .blk 70 [I p0.Kind, Sx p0.Key, .lit (List.map aM p0.Attrs), .lit (List.map aD p0.Actions), .lit (List.map aV p0.Kids)]), (60, .map false (List.map (eM Value.string eB) ([] : List (ByteArray × Bool))))]) 66 ?_
 refine aG ?_
 refine aZ (fun n s => ∃ v7 v8, fP p0 p2 j4 p1 n v7 v8 = some r ∧ s = mk [(1, .c (I p1)), (2, .c (.ptr 0 0)), (3, .c (.ptr 1 0)), (9, .c (.mapr 2)), (73, .c (.lit (List.map aV p0.Kids))), (74, .c (I (List.length p0.Kids : Int))), (75, .c (I v7))] [(0, .blk 3 [I (IntKind.wrap .i64 (p2 + 1))]), (1, .blk 70 [I p0.Kind, Sx p0.Key, .lit (List.map aM p0.Attrs), .lit (List.map aD p0.Actions), .lit (List.map aV p0.Kids)]), (2, .map false (List.map (eM Value.string eB) v8))] 3) n _ (zv [(0, 0), (1, 1), (60, 2)] [1, 2, 3, 9, 73, 74, 75] 3) ⟨_, _, h, rfl⟩ (fun s ⟨v7, v8, h, _⟩ => nomatch h) ?_
 rintro n s ⟨v7, v8, h, rfl⟩
 rw [fP] at h
 refine za [1, 2, 3, 9, 73, 74, 75, 76] ?_
 refine aI ?_
 refine zi h (fun h => ?_) fun h => ?_
 refine aC ?_
 refine aI ?_
 refine aG ?_
 refine zx fun _ => ?_
 obtain ⟨e9, he, h⟩ := aB h
 refine cE (v := .c (.imm [I e9.Kind, Sx e9.Key, .lit (List.map aM e9.Attrs), .lit (List.map aD e9.Actions), .lit (List.map aV e9.Kids)])) (foot := []) (dJ (enc := aV) (sz := 5) (l := p0.Kids) (ix := v7) he (by kernel_rfl) (fL e9) (by kernel_rfl)) (by kernel_rfl) rfl rfl ?_
 clear he
 refine zk 3 ?_
 refine ze [1, 2, 3, 9, 11, 73, 74, 75] ?_
 refine aI ?_
 refine zx fun _ => ?_
 refine zk 4 ?_
 refine zE (.c (.mapr 2)) ?_
 refine zE (.c (.ptr 6 1)) ?_
 refine zE (.c (Sx e9.Key)) ?_
 obtain ⟨y10, he, h⟩ := aB h
 refine Bl (e := [(!(dA e9.Key (⟨#[]⟩ : ByteArray)))]) [(83, .c (.mapr 2), some 1), (85, .c (Sx e9.Key), some 1)] (v := .c (Bo y10.1)) (foot := [2]) (by kernel_rfl) (by kernel_rfl) (by kernel_rfl) (fun hg => cX (kf := Value.string) (enc := eB) (l := v8) (k := e9.Key) (ok := false) (kk := .str) (j := ⟨.boo, 1, 1, [.bool false]⟩) (p := y10) (v := .c (Bo y10.1)) (bT he hg) (by kernel_rfl) Gt (by kernel_rfl) (by kernel_rfl) (by kernel_rfl)) rfl rfl ?_
 clear he
 refine zP (.bool ((!(dA e9.Key (⟨#[]⟩ : ByteArray))) && y10.1)) ?_
 refine ze [1, 2, 3, 9, 11, 73, 74, 75, 87] ?_
 refine zi h (fun h => ?_) fun h => ?_
 refine za [6] ?_
 cases h
 exact aH zr
 refine aC ?_
 refine zy fun _ => ?_
 refine zk 3 ?_
 refine jM (kf := Value.string) (enc := eB) (l := v8) (k := e9.Key) (v := true) (n := 2) (ag := false) (kk := .str) (by kernel_rfl) Gt (by kernel_rfl) (by kernel_rfl) rfl rfl ?_
 refine bL ?_
 refine aU ?_
 refine zb ?_
 exact dW (zv [(0, 0), (1, 1), (2, 2)] [1, 2, 3, 9, 73, 74, 75] 3) (⟨_, _, h, rfl⟩)
 exact aJ (zv [(0, 0), (1, 1)] [1, 2, 3] 2) (bC (hj4 _ h))
def fR : Nat → aK → Int → Int → Option (Int × Int)
 | 0, _, _, _ => none
 | n + 1, p0, p1, p2 => jD (fun a0 a1 a2 => fR n a0 a1 a2) n p0 p1 p2
theorem xQ (n : Nat) : (∀ (p0 : aK) (p1 : Int) (p2 : Int) (r : (Int × Int)), fR n p0 p1 p2 = some r → cJ E 115 1 [.agg [I p0.Kind, Sx p0.Key, .lit (List.map aM p0.Attrs), .lit (List.map aD p0.Actions), .lit (List.map aV p0.Kids)], .c (I p1), .c (.ptr 0 0)] [(0, .blk 3 [I p2])] (.c (I r.1)) [(0, .blk 3 [I r.2])]) := by
 induction n with
 | zero => intro p0 p1 p2 r h; rw [fR] at h; cases h
 | succ n ih => intro p0 p1 p2 r h; rw [fR] at h; exact sH _ ih n _ _ _ r h
def jK  (n : Nat) (p0 : aK) : Option Int := (fR n p0 1 0).bind fun (y1 : (Int × Int)) => some y1.1
theorem yV  (n : Nat) (p0 : aK) (r : Int) (h : jK n p0 = some r) : cJ E 95 0 [.agg [I p0.Kind, Sx p0.Key, .lit (List.map aM p0.Attrs), .lit (List.map aD p0.Actions), .lit (List.map aV p0.Kids)]] [] (.c (I r)) [] := by
 refine fZ Tryz.func95 rfl ?_
 unfold jK at h
 refine za [1] ?_
 refine za [1, 3] ?_
 refine zx fun _ => ?_
 refine zk 1 ?_
 obtain ⟨y1, he, h⟩ := aB h
 refine zo [(0, 2)] Se (xQ n _ _ _ y1 he) ?_
 clear he
 refine zk 1 ?_
 refine ze [2] ?_
 cases h
 exact aH zr
def kR  (n : Nat) (p0 : bD) : Option ((List (Int × aR)) × aK × Int) := (oW n p0).bind fun (y1 : ((List (Int × aR)) × Bool)) => (if (!y1.2) = true then some (([] : List (Int × aR)), (aK.mk 0 (⟨#[]⟩ : ByteArray) ([] : List aY) ([] : List cA) ([] : List aK)), 12) else (fX n y1.1 p0.Root).bind fun (y2 : aK) => (jK n y2).bind fun (y3 : Int) => some (y1.1, y2, y3))
theorem sB  (n : Nat) (p0 : bD) (r : ((List (Int × aR)) × aK × Int)) (h : kR n p0 = some r) : cJ E 57 0 [.agg [I p0.Root, I p0.Next, .lit (List.map aE p0.Nodes)]] [] (.tup [.c (.lmap true (List.map (eM (Value.int .i64) aE) r.1)), .agg [I r.2.1.Kind, Sx r.2.1.Key, .lit (List.map aM r.2.1.Attrs), .lit (List.map aD r.2.1.Actions), .lit (List.map aV r.2.1.Kids)], .c (I r.2.2)]) [] := by
 refine fZ Tryz.func57 rfl ?_
 unfold kR at h
 refine za [1, 3] ?_
 refine zx fun _ => ?_
 refine zk 1 ?_
 obtain ⟨y1, he, h⟩ := aB h
 refine zc Yr (Ed n _ y1 he) ?_
 clear he
 refine zk 5 ?_
 refine ze [1, 3, 5, 6] ?_
 refine aI ?_
 refine za [1, 3, 5, 14] ?_
 refine zi h (fun h => ?_) fun h => ?_
 refine za [2, 3, 4] ?_
 refine aJ (oI 2 true (L2 := [(3, .c (.ptr 2 0)), (2, .c (.lmap true (List.map (eM (Value.int .i64) aE) ([] : List (Int × aR))))), (4, .c (I 12))]) (by kernel_rfl) (by kernel_rfl)) ?_
 cases h
 exact aH zr
 refine aC ?_
 refine zx fun _ => ?_
 refine zk 3 ?_
 obtain ⟨y2, he, h⟩ := aB h
 refine zc Vx (xI n _ _ y2 he) ?_
 clear he
 refine zk 2 ?_
 refine ze [3, 5, 7] ?_
 refine xN [[], [], [], [2], [0, 3, 2], [1, 4, 0, 3, 2], [3, 5, 0, 1, 2, 4]] fun _ => ?_
 refine zk 3 ?_
 obtain ⟨y3, he, h⟩ := aB h
 refine zc fok95 (yV n _ y3 he) ?_
 clear he
 refine zk 3 ?_
 refine jY [2, 3, 4] (L2 := [(3, .c (.ptr 2 0)), (2, .c (.lmap true (List.map (eM (Value.int .i64) aE) y1.1))), (4, .c (I y3))]) (G2 := [(0, .blk 27 [I p0.Root, I p0.Next, .lit (List.map aE p0.Nodes)]), (2, .blk 70 [I y2.Kind, Sx y2.Key, .lit (List.map aM y2.Attrs), .lit (List.map aD y2.Actions), .lit (List.map aV y2.Kids)]), (17, .blk 70 [I y2.Kind, Sx y2.Key, .lit (List.map aM y2.Attrs), .lit (List.map aD y2.Actions), .lit (List.map aV y2.Kids)])]) 26 ?_
 cases h
 exact aH zr
def lL  (n : Nat) (p0 : bD) : Option Int := (kR n p0).bind fun (y1 : ((List (Int × aR)) × aK × Int)) => some y1.2.2
theorem qB  (n : Nat) (p0 : bD) (r : Int) (h : lL n p0 = some r) : cJ E 26 0 [.agg [I p0.Root, I p0.Next, .lit (List.map aE p0.Nodes)]] [] (.c (I r)) [] := by
 refine fZ Tryz.func26 rfl ?_
 unfold lL at h
 refine za [1] ?_
 refine zx fun _ => ?_
 refine zk 1 ?_
 obtain ⟨y1, he, h⟩ := aB h
 refine zc Vw (sB n _ y1 he) ?_
 clear he
 refine zk 8 ?_
 refine ze [5] ?_
 refine za [2] ?_
 cases h
 exact aH zr
def nR (self_view_value : aF → Option aF) (self_view_values : (List aF) → Option (List aF)) (n : Nat) (p0 : aF) : Option aF := (self_view_values p0.L).bind fun (y1 : (List aF)) => some (aF.mk p0.Kind p0.N p0.S y1)
theorem vS (self_view_value : aF → Option aF) (self_view_values : (List aF) → Option (List aF)) (ih_view_value : ∀ (p0 : aF) (r : aF), self_view_value p0 = some r → cJ E 114 0 [.agg [I p0.Kind, I p0.N, Sx p0.S, .lit (List.map aN p0.L)]] [] (.agg [I r.Kind, I r.N, Sx r.S, .lit (List.map aN r.L)]) []) (ih_view_values : ∀ (p0 : (List aF)) (r : (List aF)), self_view_values p0 = some r → cJ E 129 0 [.c (.lit (List.map aN p0))] [] (.c (.lit (List.map aN r))) []) (n : Nat) (p0 : aF) (r : aF) (h : nR self_view_value self_view_values n p0 = some r) : cJ E 114 0 [.agg [I p0.Kind, I p0.N, Sx p0.S, .lit (List.map aN p0.L)]] [] (.agg [I r.Kind, I r.N, Sx r.S, .lit (List.map aN r.L)]) [] := by
 refine fZ Tryz.func114 rfl ?_
 unfold nR at h
 refine za [1, 2] ?_
 refine zx fun _ => ?_
 refine zk 2 ?_
 obtain ⟨y1, he, h⟩ := aB h
 refine zc Wo (ih_view_values _ y1 he) ?_
 clear he
 refine zk 2 ?_
 refine ze [1, 2] ?_
 refine za [2] ?_
 cases h
 exact aH zr
def lX (p0 : (List aF)) (self_view_value : aF → Option aF) (j1 : List aF → Option (List aF)) : Nat → List aF → Int → Option (List aF)
 | 0, _, _ => none
 | n + 1, v5, v6 => (if (decide (v6 < (List.length p0 : Int))) = true then (idx p0 v6).bind fun (e7 : aF) => (self_view_value e7).bind fun (y8 : aF) => (oK 56 v5 [y8]).bind fun (l9 : List aF) => lX p0 self_view_value j1 n l9 (IntKind.wrap .i64 (v6 + 1)) else j1 v5)
def mR (self_view_value : aF → Option aF) (self_view_values : (List aF) → Option (List aF)) (n : Nat) (p0 : (List aF)) : Option (List aF) := (aX (fun (v12 : List aF) => some v12) (fun (j1 : List aF → Option (List aF)) => lX p0 self_view_value j1 n ([] : List aF) 0))
theorem uZ (self_view_value : aF → Option aF) (self_view_values : (List aF) → Option (List aF)) (ih_view_value : ∀ (p0 : aF) (r : aF), self_view_value p0 = some r → cJ E 114 0 [.agg [I p0.Kind, I p0.N, Sx p0.S, .lit (List.map aN p0.L)]] [] (.agg [I r.Kind, I r.N, Sx r.S, .lit (List.map aN r.L)]) []) (ih_view_values : ∀ (p0 : (List aF)) (r : (List aF)), self_view_values p0 = some r → cJ E 129 0 [.c (.lit (List.map aN p0))] [] (.c (.lit (List.map aN r))) []) (n : Nat) (p0 : (List aF)) (r : (List aF)) (h : mR self_view_value self_view_values n p0 = some r) : cJ E 129 0 [.c (.lit (List.map aN p0))] [] (.c (.lit (List.map aN r))) [] := by
 refine fZ Tryz.func129 rfl ?_
 unfold mR at h
 refine za [0] ?_
 refine za [0, 3] ?_
 refine aT h (fun A j => ∀ v12, j v12 = some r → A (mk [(3, .c (.app 0 (List.map aN v12)))] [(0, .tok 152 4 (List.length v12))] 1)) (fun v12 h => ?_) (fun j1 Aj1 hj1 h => ?_)
 refine za [2] ?_
 cases h
 exact aH zr
 refine zx fun _ => ?_
 refine zk 1 ?_
 refine zl aN p0 ?_
 refine zk 1 ?_
 refine ze [3, 6, 7, 8] ?_
 refine aG ?_
 refine aZ (fun n s => ∃ v5 v6, lX p0 self_view_value j1 n v5 v6 = some r ∧ s = mk [(3, .c (.app 0 (List.map aN v5))), (6, .c (.lit (List.map aN p0))), (7, .c (I (List.length p0 : Int))), (8, .c (I v6))] [(0, .tok 152 4 (List.length v5))] 1) n _ (dX.trans (kO (L2 := [(3, .c (.app 5 (List.map aN ([] : List aF)))), (6, .c (.lit (List.map aN p0))), (7, .c (I (List.length p0 : Int))), (8, .c (I 0))]) (G2 := [(5, .tok 152 4 (List.length ([] : List aF)))]) (lim2 := 6) 3 152 4 (by kernel_rfl) (by kernel_rfl) (by kernel_rfl) (by kernel_rfl)) (zv [(5, 0)] [3, 6, 7, 8] 1)) ⟨_, _, h, rfl⟩ (fun s ⟨v5, v6, h, _⟩ => nomatch h) ?_
 rintro n s ⟨v5, v6, h, rfl⟩
 rw [lX] at h
 refine za [3, 6, 7, 8, 9] ?_
 refine aI ?_
 refine zi h (fun h => ?_) fun h => ?_
 refine aC ?_
 refine aI ?_
 refine aG ?_
 refine zx fun _ => ?_
 obtain ⟨e7, he, h⟩ := aB h
 refine cE (v := .c (.imm [I e7.Kind, I e7.N, Sx e7.S, .lit (List.map aN e7.L)])) (foot := []) (dJ (enc := aN) (sz := 4) (l := p0) (ix := v6) he (by kernel_rfl) (dF e7) (by kernel_rfl)) (by kernel_rfl) rfl rfl ?_
 clear he
 refine zk 3 ?_
 refine ze [3, 5, 6, 7, 8] ?_
 refine zy fun _ => ?_
 refine zk 2 ?_
 obtain ⟨y8, he, h⟩ := aB h
 refine zc Pp (ih_view_value _ y8 he) ?_
 clear he
 refine pE (e := 152) (sz := 4) (len := 1) (r := [I y8.Kind, I y8.N, Sx y8.S, .lit (List.map aN y8.L)]) (l' := List.map aN [y8]) (nm := 9) (by kernel_rfl) (by simp only [List.map_cons, List.map_nil, dF]; kernel_rfl) (by kernel_rfl) (by kernel_rfl) rfl rfl rfl ?_
 obtain ⟨l9, he, h⟩ := aB h
 refine bU (enc := aN) (l := v5) (els := [y8]) (r := l9) (old := some 0) (e := 152) (sz := 4) (bytes := 56) (k := (List.length v5)) (nm := 10) he (by kernel_rfl) (by kernel_rfl) (fun x => by rw [dF]; rfl) (by kernel_rfl) (by kernel_rfl) rfl rfl rfl ?_
 clear he
 refine zk 1 ?_
 refine bL ?_
 refine aU ?_
 refine zb ?_
 exact dW (zv [(10, 0)] [3, 6, 7, 8] 1) (⟨_, _, h, rfl⟩)
 exact aJ (zv [(0, 0)] [3] 1) (bC (hj1 _ h))
mutual
def kF : Nat → aF → Option aF
 | 0, _ => none
 | n + 1, p0 => nR (fun a0 => kF n a0) (fun a0 => nD n a0) n p0
def nD : Nat → (List aF) → Option (List aF)
 | 0, _ => none
 | n + 1, p0 => mR (fun a0 => kF n a0) (fun a0 => nD n a0) n p0
end
theorem zU (n : Nat) : (∀ (p0 : aF) (r : aF), kF n p0 = some r → cJ E 114 0 [.agg [I p0.Kind, I p0.N, Sx p0.S, .lit (List.map aN p0.L)]] [] (.agg [I r.Kind, I r.N, Sx r.S, .lit (List.map aN r.L)]) []) ∧ (∀ (p0 : (List aF)) (r : (List aF)), nD n p0 = some r → cJ E 129 0 [.c (.lit (List.map aN p0))] [] (.c (.lit (List.map aN r))) []) := by
 induction n with
 | zero => refine ⟨fun p0 r h => (by rw [kF] at h; cases h), fun p0 r h => (by rw [nD] at h; cases h)⟩
 | succ n ih =>
  obtain ⟨i0, i1⟩ := ih
  refine ⟨fun p0 r h => (by rw [kF] at h; exact vS _ _ i0 i1 n _ r h), fun p0 r h => (by rw [nD] at h; exact uZ _ _ i0 i1 n _ r h)⟩
theorem Dw (n : Nat) : (∀ (p0 : aF) (r : aF), kF n p0 = some r → cJ E 114 0 [.agg [I p0.Kind, I p0.N, Sx p0.S, .lit (List.map aN p0.L)]] [] (.agg [I r.Kind, I r.N, Sx r.S, .lit (List.map aN r.L)]) []) := (zU n).1
def hO (p0 : (List aY)) (p1 : ByteArray) (j1 : Unit → Option (aF × Bool)) : Nat → Int → Option (aF × Bool)
 | 0, _ => none
 | n + 1, v4 => (if (decide (v4 < (List.length p0 : Int))) = true then (idx p0 v4).bind fun (e5 : aY) => (if (dA e5.Name p1) = true then (kF n e5.Value).bind fun (y6 : aF) => some (y6, true) else hO p0 p1 j1 n (IntKind.wrap .i64 (v4 + 1))) else j1 ())
def qK  (n : Nat) (p0 : (List aY)) (p1 : ByteArray) : Option (aF × Bool) := (aX (fun (_ : Unit) => some ((aF.mk 0 0 (⟨#[]⟩ : ByteArray) ([] : List aF)), false)) (fun (j1 : Unit → Option (aF × Bool)) => hO p0 p1 j1 n 0))
theorem xA  (n : Nat) (p0 : (List aY)) (p1 : ByteArray) (r : (aF × Bool)) (h : qK n p0 p1 = some r) : cJ E 91 0 [.c (.lit (List.map aM p0)), .c (Sx p1)] [] (.tup [.agg [I r.1.Kind, I r.1.N, Sx r.1.S, .lit (List.map aN r.1.L)], .c (Bo r.2)]) [] := by
 refine fZ Tryz.func91 rfl ?_
 unfold qK at h
 refine za [0, 1, 4] ?_
 refine aT h (fun A j => ∀ u, j u = some r → A (mk [(4, .c (.ptr 0 0))] [(0, .blk 152 [I 0, I 0, Sx (⟨#[]⟩ : ByteArray), bX])] 1)) (fun u h => ?_) (fun j1 Aj1 hj1 h => ?_)
 refine za [4, 5] ?_
 cases h
 exact aH zr
 refine zx fun _ => ?_
 refine zk 1 ?_
 refine zl aM p0 ?_
 refine zk 1 ?_
 refine ze [1, 4, 8, 9, 10] ?_
 refine aG ?_
 refine aZ (fun n s => ∃ v4, hO p0 p1 j1 n v4 = some r ∧ s = mk [(1, .c (Sx p1)), (4, .c (.ptr 0 0)), (8, .c (.lit (List.map aM p0))), (9, .c (I (List.length p0 : Int))), (10, .c (I v4))] [(0, .blk 152 [I 0, I 0, Sx (⟨#[]⟩ : ByteArray), bX])] 1) n _ (zv [(0, 0)] [1, 4, 8, 9, 10] 1) ⟨_, h, rfl⟩ (fun s ⟨v4, h, _⟩ => nomatch h) ?_
 rintro n s ⟨v4, h, rfl⟩
 rw [hO] at h
 refine za [1, 4, 8, 9, 10, 11] ?_
 refine aI ?_
 refine zi h (fun h => ?_) fun h => ?_
 refine aC ?_
 refine aI ?_
 refine aG ?_
 refine zx fun _ => ?_
 obtain ⟨e5, he, h⟩ := aB h
 refine zd aM he ?_
 clear he
 refine zk 3 ?_
 refine ze [1, 4, 7, 8, 9, 10] ?_
 refine za [1, 4, 7, 8, 9, 10, 17] ?_
 refine zi h (fun h => ?_) fun h => ?_
 refine zx fun _ => ?_
 refine zk 2 ?_
 obtain ⟨y6, he, h⟩ := aB h
 refine zc Pp (Dw n _ y6 he) ?_
 clear he
 refine zk 2 ?_
 refine ze [4, 5] ?_
 cases h
 exact aH zr
 refine aC ?_
 refine aU ?_
 refine zb ?_
 exact dW (zv [(0, 0)] [1, 4, 8, 9, 10] 1) (⟨_, h, rfl⟩)
 exact aJ (zv [(0, 0)] [4] 1) (bC (hj1 _ h))
def yE  (n : Nat) (p0 : (List aY)) (p1 : ByteArray) : Option ByteArray := (qK n p0 p1).bind fun (y1 : (aF × Bool)) => (if (y1.1.Kind == 3) = true then some y1.1.S else some (⟨#[]⟩ : ByteArray))
theorem Ga  (n : Nat) (p0 : (List aY)) (p1 : ByteArray) (r : ByteArray) (h : yE n p0 p1 = some r) : cJ E 69 0 [.c (.lit (List.map aM p0)), .c (Sx p1)] [] (.c (Sx r)) [] := by
 refine fZ Tryz.func69 rfl ?_
 unfold yE at h
 refine za [0, 1] ?_
 refine aI ?_
 refine zx fun _ => ?_
 refine zk 2 ?_
 obtain ⟨y1, he, h⟩ := aB h
 refine zc Vg (xA n _ _ y1 he) ?_
 clear he
 refine zk 6 ?_
 refine ze [5] ?_
 refine za [5, 15] ?_
 refine zi h (fun h => ?_) fun h => ?_
 refine za [4] ?_
 cases h
 exact aH zr
 refine aC ?_
 refine za [4] ?_
 cases h
 exact aH zr
theorem Ur : Kh E 101 bA (fun x => .agg (bA x)) := ⟨Tryz.f101, _, 2, _, _, _, _, _, _, _, _, _, Tryz.func101, rfl, rfl, by decide, rfl, fun D l y => by kernel_rfl, fun D l y i => by kernel_rfl, fun D l y i => by kernel_rfl, rfl, fun D l y i => by kernel_rfl, rfl, rfl, rfl, fun D l y i => by kernel_rfl, fun x => rfl, rfl, fun D l y i x => by kernel_rfl, rfl, rfl, rfl, rfl, rfl, fun D l y i b => by kernel_rfl, fun x => rfl⟩
def cG  (n : Nat) (p0 : (List aP)) : Option (List aP) := some p0
theorem gX  (n : Nat) (p0 : (List aP)) (r : (List aP)) (h : cG n p0 = some r) : cJ E 70 0 [.c (.lit (List.map bA p0))] [] (.c (.fn 101 [.imm [.lit (List.map bA r)]])) [] := by
 refine fZ Tryz.func70 rfl ?_
 unfold cG at h
 refine za [1] ?_
 refine za [2] ?_
 refine aJ (uL 0 (T := 40) (l := [.lit (List.map bA p0)]) (l2 := [.lit (List.map bA p0)]) (L2 := [(2, .c (.fn 101 [.imm [.lit (List.map bA p0)]]))]) (G2 := []) (by kernel_rfl) (by kernel_rfl) (by kernel_rfl) (by kernel_rfl)) ?_
 cases h
 exact aH zr
def mH (n : Nat) (v12 : List (Int × aR)) (v13 : List (Int × ByteArray)) : List (Nat × aP) → List (Int × Int) → Option kH
 | [], v18 => some (kH.mk v12 v13 v18)
 | (i15, e16) :: t17, v18 => mH n v12 v13 t17 (jO e16.ID e16.States v18)
def nU (p0 : bD) (j1 : List (Int × aR) → List (Int × ByteArray) → Option kH) (p1 : (List aP)) : Nat → Int → List (Int × aR) → List (Int × ByteArray) → Option kH
 | 0, _, _, _ => none
 | n + 1, v4, v5, v6 => (if (decide (v4 < (List.length p0.Nodes : Int))) = true then (idx p0.Nodes v4).bind fun (e7 : aR) => (yE n e7.Attrs (⟨#[99, 108, 97, 115, 115]⟩ : ByteArray)).bind fun (y8 : ByteArray) => nU p0 j1 p1 n (IntKind.wrap .i64 (v4 + 1)) (jO e7.ID e7 v5) (jO e7.ID y8 v6) else j1 v5 v6)
def yA  (n : Nat) (p0 : bD) (p1 : (List aP)) : Option kH := (aX (fun (v12 : List (Int × aR)) (v13 : List (Int × ByteArray)) => (cG n p1).bind fun (y14 : (List aP)) => (Qn y14).bind fun (_ : Unit) => mH n v12 v13 (Cd y14 (List.length y14)) ([] : List (Int × Int))) (fun (j1 : List (Int × aR) → List (Int × ByteArray) → Option kH) => nU p0 j1 p1 n 0 ([] : List (Int × aR)) ([] : List (Int × ByteArray))))
theorem Hj  (n : Nat) (p0 : bD) (p1 : (List aP)) (r : kH) (h : yA n p0 p1 = some r) : cJ E 36 0 [.agg [I p0.Root, I p0.Next, .lit (List.map aE p0.Nodes)], .c (.lit (List.map bA p1))] [] (.agg [.lmap true (List.map (eM (Value.int .i64) aE) r.nodes), .lmap false (List.map (eM (Value.int .i64) eS) r.class_), .lmap false (List.map (eM (Value.int .i64) aL) r.states)]) [] := by
 refine fZ Tryz.func36 rfl ?_
 unfold yA at h
 refine za [1, 2, 4] ?_
 refine za [1, 2, 4, 5] ?_
 refine aT h (fun A j => ∀ v12 v13, j v12 v13 = some r → A (mk [(1, .c (.lit (List.map bA p1))), (4, .c (.ptr 0 0)), (5, .c (.ptr 1 0))] [(0, .blk 92 [.v (.map none), .v (.map none), .v (.map none)]), (1, .blk 92 [.mapr 2, .mapr 3, .mapr 4]), (2, .map true (List.map (eM (Value.int .i64) aE) v12)), (3, .map false (List.map (eM (Value.int .i64) eS) v13)), (4, .map false (List.map (eM (Value.int .i64) aL) ([] : List (Int × Int))))] 5)) (fun v12 v13 h => ?_) (fun j1 Aj1 hj1 h => ?_)
 refine aI ?_
 refine zx fun _ => ?_
 refine zk 1 ?_
 obtain ⟨y14, he, h⟩ := aB h
 refine zc Yi (gX n _ y14 he) ?_
 clear he
 refine ze [4, 5, 35] ?_
 refine aG ?_
 refine aJ (tX rfl [(0, 0), (1, 1), (2, 2), (3, 3), (4, 4)] [4, 5, 35] (L2 := [(4, .c (.ptr 0 0)), (5, .c (.ptr 1 0)), (35, .c (.fn 101 [.imm [.lit (List.map bA y14)]]))]) (G2 := [(0, .blk 92 [.v (.map none), .v (.map none), .v (.map none)]), (1, .blk 92 [.mapr 2, .mapr 3, .mapr 4]), (2, .map true (List.map (eM (Value.int .i64) aE) v12)), (3, .map false (List.map (eM (Value.int .i64) eS) v13)), (4, .map false (List.map (eM (Value.int .i64) aL) ([] : List (Int × Int))))]) (lim2 := 5) (by kernel_rfl)) ?_
 obtain ⟨_, he, h⟩ := aB h
 refine Th (l := y14) Xu Ur (by kernel_rfl) (Pe he) (by kernel_rfl) (fun t G1 lim1 => ∃ (v18 : List (Int × Int)), mH n v12 v13 t v18 = some r ∧ G1 = [(0, .blk 92 [.v (.map none), .v (.map none), .v (.map none)]), (1, .blk 92 [.mapr 2, .mapr 3, .mapr 4]), (2, .map true (List.map (eM (Value.int .i64) aE) v12)), (3, .map false (List.map (eM (Value.int .i64) eS) v13)), (4, .map false (List.map (eM (Value.int .i64) aL) v18))] ∧ lim1 = 5) ⟨_, h, rfl, rfl⟩ (fun lp x t17 G1 lim1 hJ => ?_) (fun G1 lim1 hJ => ?_)
 obtain ⟨i15, e16⟩ := x
 obtain ⟨v18, h, rfl, rfl⟩ := hJ
 rw [mH] at h
 show AW _ _ (mk [(4, .c (.ptr 0 0)), (5, .c (.ptr 1 0)), (35, .c (.fn 101 [.imm [.lit (List.map bA y14)]])), (36, .c (I (i15 : Int))), (37, .agg [I e16.ID, I e16.States])] [(0, .blk 92 [.v (.map none), .v (.map none), .v (.map none)]), (1, .blk 92 [.mapr 2, .mapr 3, .mapr 4]), (2, .map true (List.map (eM (Value.int .i64) aE) v12)), (3, .map false (List.map (eM (Value.int .i64) eS) v13)), (4, .map false (List.map (eM (Value.int .i64) aL) v18))] 5) _
 refine zb ?_
 refine aG ?_
 refine aU ?_
 refine zy fun _ => ?_
 refine zk 6 ?_
 refine jM (kf := (Value.int .i64)) (enc := aL) (l := v18) (k := e16.ID) (v := e16.States) (n := 4) (ag := false) (kk := .int .i64) (by kernel_rfl) gH (by kernel_rfl) (by kernel_rfl) rfl rfl ?_
 refine bL ?_
 exact dW (zv (L2 := []) [(0, 0), (1, 1), (2, 2), (3, 3), (4, 4)] [] 5) (⟨_, _, ⟨_, h, rfl, rfl⟩, rfl, rfl⟩)
 obtain ⟨v18, h, rfl, rfl⟩ := hJ
 rw [mH] at h
 refine za [4] ?_
 refine aJ (qR 2 (ag := true) (l := List.map (eM (Value.int .i64) aE) v12) (L2 := [(4, .c (.ptr 0 0))]) (G2 := [(0, .blk 92 [.lmap true (List.map (eM (Value.int .i64) aE) v12), .mapr 3, .mapr 4]), (1, .blk 92 [.lmap true (List.map (eM (Value.int .i64) aE) v12), .mapr 3, .mapr 4]), (3, .map false (List.map (eM (Value.int .i64) eS) v13)), (4, .map false (List.map (eM (Value.int .i64) aL) v18))]) (by kernel_rfl) (by kernel_rfl) (by kernel_rfl)) ?_
 refine aJ (qR 3 (ag := false) (l := List.map (eM (Value.int .i64) eS) v13) (L2 := [(4, .c (.ptr 0 0))]) (G2 := [(0, .blk 92 [.lmap true (List.map (eM (Value.int .i64) aE) v12), .lmap false (List.map (eM (Value.int .i64) eS) v13), .mapr 4]), (1, .blk 92 [.lmap true (List.map (eM (Value.int .i64) aE) v12), .lmap false (List.map (eM (Value.int .i64) eS) v13), .mapr 4]), (4, .map false (List.map (eM (Value.int .i64) aL) v18))]) (by kernel_rfl) (by kernel_rfl) (by kernel_rfl)) ?_
 refine aJ (qR 4 (ag := false) (l := List.map (eM (Value.int .i64) aL) v18) (L2 := [(4, .c (.ptr 0 0))]) (G2 := [(0, .blk 92 [.lmap true (List.map (eM (Value.int .i64) aE) v12), .lmap false (List.map (eM (Value.int .i64) eS) v13), .lmap false (List.map (eM (Value.int .i64) aL) v18)]), (1, .blk 92 [.lmap true (List.map (eM (Value.int .i64) aE) v12), .lmap false (List.map (eM (Value.int .i64) eS) v13), .lmap false (List.map (eM (Value.int .i64) aL) v18)])]) (by kernel_rfl) (by kernel_rfl) (by kernel_rfl)) ?_
 cases h
 exact aH zr
 refine zx fun _ => ?_
 refine zk 2 ?_
 refine zl aE p0.Nodes ?_
 refine zk 1 ?_
 refine ze [1, 4, 5, 15, 16, 17] ?_
 refine aG ?_
 refine aZ (fun n s => ∃ v4 v5 v6, nU p0 j1 p1 n v4 v5 v6 = some r ∧ s = mk [(1, .c (.lit (List.map bA p1))), (4, .c (.ptr 0 0)), (5, .c (.ptr 1 0)), (15, .c (.lit (List.map aE p0.Nodes))), (16, .c (I (List.length p0.Nodes : Int))), (17, .c (I v4))] [(0, .blk 92 [.v (.map none), .v (.map none), .v (.map none)]), (1, .blk 92 [.mapr 2, .mapr 3, .mapr 4]), (2, .map true (List.map (eM (Value.int .i64) aE) v5)), (3, .map false (List.map (eM (Value.int .i64) eS) v6)), (4, .map false (List.map (eM (Value.int .i64) aL) ([] : List (Int × Int))))] 5) n _ (zv [(1, 0), (6, 1), (2, 2), (3, 3), (4, 4)] [1, 4, 5, 15, 16, 17] 5) ⟨_, _, _, h, rfl⟩ (fun s ⟨v4, v5, v6, h, _⟩ => nomatch h) ?_
 rintro n s ⟨v4, v5, v6, h, rfl⟩
 rw [nU] at h
 refine za [1, 4, 5, 15, 16, 17, 18] ?_
 refine aI ?_
 refine zi h (fun h => ?_) fun h => ?_
 refine aC ?_
 refine aI ?_
 refine aG ?_
 refine zx fun _ => ?_
 obtain ⟨e7, he, h⟩ := aB h
 refine zd aE he ?_
 clear he
 refine zk 3 ?_
 refine ze [1, 4, 5, 7, 15, 16, 17] ?_
 refine Mh [[], [0], [], [2], [], [4], [], [6], [], [], [9], [10, 9], [1, 3, 8, 11, 0, 2, 10, 9], [5, 7, 11, 12, 0, 1, 2, 3, 4, 6, 8, 9, 10]] fun _ => ?_
 refine zk 11 ?_
 obtain ⟨y8, he, h⟩ := aB h
 refine zc aA8 (Ga n _ _ y8 he) ?_
 clear he
 refine jM (kf := (Value.int .i64)) (enc := aE) (l := v5) (k := e7.ID) (v := e7) (n := 2) (ag := true) (kk := .int .i64) (by kernel_rfl) gH (by kernel_rfl) (by kernel_rfl) rfl rfl ?_
 refine jM (kf := (Value.int .i64)) (enc := eS) (l := v6) (k := e7.ID) (v := y8) (n := 3) (ag := false) (kk := .int .i64) (by kernel_rfl) gH (by kernel_rfl) (by kernel_rfl) rfl rfl ?_
 refine bL ?_
 refine aU ?_
 refine zb ?_
 exact dW (zv [(0, 0), (1, 1), (2, 2), (3, 3), (4, 4)] [1, 4, 5, 15, 16, 17] 5) (⟨_, _, _, h, rfl⟩)
 exact aJ (zv [(0, 0), (1, 1), (2, 2), (3, 3), (4, 4)] [1, 4, 5] 5) (bC (hj1 _ _ h))
end Go.Proofs.YtojkihhnioeggaaGreatDoor.S
