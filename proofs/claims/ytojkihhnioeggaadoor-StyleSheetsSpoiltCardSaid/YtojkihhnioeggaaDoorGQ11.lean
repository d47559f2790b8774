/- Functions, and that the program's are they. Printed by ext.py. -/
import Derived.Test.YtojkihhnioeggaaDoorGQ10
set_option linter.unusedVariables false
set_option linter.unusedSimpArgs false
set_option maxRecDepth 100000
set_option maxHeartbeats 4000000
namespace Go.Proofs.YtojkihhnioeggaaDoor.S
open Go Go.Bm
def fixed_Round  (n : Nat) (p0 : Int) (p1 : Int) : Option Int := (fixed_ok n p0 p1).bind fun (y1 : Bool) => (if (!y1) = true then some 0 else (withJ (fun (v3 : Int) (v4 : Int) => (fixed_floor n (IntKind.wrap .i64 ((IntKind.wrap .i64 (2 * v3)) + v4)) (IntKind.wrap .i64 (2 * v4))).bind fun (y5 : Int) => some y5) (fun (j2 : Int → Int → Option Int) => (if (decide (p1 < 0)) = true then j2 (IntKind.wrap .i64 (0 - p0)) (IntKind.wrap .i64 (0 - p1)) else j2 p0 p1))))
theorem fixed_Round_ok  (n : Nat) (p0 : Int) (p1 : Int) (r : Int) (h : fixed_Round n p0 p1 = some r) : FnD E 60 0 [.c (I p0), .c (I p1)] [] (.c (I r)) [] := by
  refine zfn Tryd.func60 rfl ?_
  unfold fixed_Round at h
  refine za [0, 1] ?_
  refine aw_seq ?_
  refine zx fun _ => ?_
  refine zk 2 ?_
  obtain ⟨y1, he, h⟩ := bindE h
  refine rx_call (F := 74) (As := [.c (I p0), .c (I p1)]) (Bs := [.c (I p0), .c (I p1)]) (r := .c (Bo y1)) (v := .c (Bo y1)) (by kernel_rfl) fok74 (by kernel_rfl) (fixed_ok_ok n _ _ y1 he) (by kernel_rfl) (by kernel_rfl) rfl rfl ?_
  clear he
  refine zk 1 ?_
  refine ze [0, 1, 8] ?_
  refine aw_ite (t := (!y1)) (by kernel_rfl) h (fun h => ?_) (fun h => ?_)
  · refine za [4] ?_
    have h := Option.some.inj h
    subst h
    exact aw_ret (fin_pub (A := .c (I 0)) (.inl rfl) (by kernel_rfl) (by kernel_rfl) (by kernel_rfl))
  · refine aw_skip ?_
    refine aw_join h (fun A j => ∀ (v3 : Int) (v4 : Int), j v3 v4 = some r → A (mk [(0, .c (I v3)), (1, .c (I v4))] [] 0)) (fun v3 v4 h => ?_) (fun j2 Aj2 hj2 h => ?_)
    · refine zx fun _ => ?_
      refine zk 6 ?_
      obtain ⟨y5, he, h⟩ := bindE h
      refine rx_call (F := 75) (As := [.c (I (IntKind.wrap .i64 ((IntKind.wrap .i64 (2 * v3)) + v4))), .c (I (IntKind.wrap .i64 (2 * v4)))]) (Bs := [.c (I (IntKind.wrap .i64 ((IntKind.wrap .i64 (2 * v3)) + v4))), .c (I (IntKind.wrap .i64 (2 * v4)))]) (r := .c (I y5)) (v := .c (I y5)) (by kernel_rfl) fok75 (by kernel_rfl) (fixed_floor_ok n _ _ y5 he) (by kernel_rfl) (by kernel_rfl) rfl rfl ?_
      clear he
      refine zk 1 ?_
      refine ze [4] ?_
      have h := Option.some.inj h
      subst h
      exact aw_ret (fin_pub (A := .c (I y5)) (.inl rfl) (by kernel_rfl) (by kernel_rfl) (by kernel_rfl))
    · refine za [0, 1, 10] ?_
      refine aw_ite (t := (decide (p1 < 0))) (by kernel_rfl) h (fun h => ?_) (fun h => ?_)
      · refine aw_out ?_
        refine zb ?_
        exact via (zv [] [0, 1] 0) (hj2 _ _ h)
      · exact aw_views (zv [] [0, 1] 0) (aw_skip (hj2 _ _ h))
def fixed_Scale  (n : Nat) (p0 : Int) (p1 : Int) (p2 : Int) : Option (Int × Int) := (if ((((((decide (p0 < (-1099511627776 : Int))) || (decide (p0 > 1099511627776))) || (decide (p1 < 0))) || (decide (p1 > 65536))) || (decide (p2 < 1))) || (decide (p2 > 65536))) = true then some (0, 1) else (fixed_Round n (IntKind.wrap .i64 (p0 * p1)) p2).bind fun (y1 : Int) => some (y1, 0))
theorem fixed_Scale_ok  (n : Nat) (p0 : Int) (p1 : Int) (p2 : Int) (r : (Int × Int)) (h : fixed_Scale n p0 p1 p2 = some r) : FnD E 45 0 [.c (I p0), .c (I p1), .c (I p2)] [] (.tup [.c (I r.1), .c (I r.2)]) [] := by
  refine zfn Tryd.func45 rfl ?_
  unfold fixed_Scale at h
  refine za [0, 1, 2] ?_
  refine aw_seq ?_
  refine zx fun _ => ?_
  refine zk 3 ?_
  refine zE (.c (I p0)) ?_
  refine zE (.c (Bo (decide (p0 > 1099511627776)))) ?_
  refine zP (.bool ((decide (p0 < (-1099511627776 : Int))) || (decide (p0 > 1099511627776)))) ?_
  refine zk 1 ?_
  refine zE (.c (I p1)) ?_
  refine zE (.c (Bo (decide (p1 < 0)))) ?_
  refine zP (.bool (((decide (p0 < (-1099511627776 : Int))) || (decide (p0 > 1099511627776))) || (decide (p1 < 0)))) ?_
  refine zk 1 ?_
  refine zE (.c (I p1)) ?_
  refine zE (.c (Bo (decide (p1 > 65536)))) ?_
  refine zP (.bool ((((decide (p0 < (-1099511627776 : Int))) || (decide (p0 > 1099511627776))) || (decide (p1 < 0))) || (decide (p1 > 65536)))) ?_
  refine zk 1 ?_
  refine zE (.c (I p2)) ?_
  refine zE (.c (Bo (decide (p2 < 1)))) ?_
  refine zP (.bool (((((decide (p0 < (-1099511627776 : Int))) || (decide (p0 > 1099511627776))) || (decide (p1 < 0))) || (decide (p1 > 65536))) || (decide (p2 < 1)))) ?_
  refine zk 1 ?_
  refine zE (.c (I p2)) ?_
  refine zE (.c (Bo (decide (p2 > 65536)))) ?_
  refine zP (.bool ((((((decide (p0 < (-1099511627776 : Int))) || (decide (p0 > 1099511627776))) || (decide (p1 < 0))) || (decide (p1 > 65536))) || (decide (p2 < 1))) || (decide (p2 > 65536)))) ?_
  refine zee [0, 1, 2, 29] (L2 := [(0, .c (I p0)), (1, .c (I p1)), (2, .c (I p2)), (29, .c (Bo ((((((decide (p0 < (-1099511627776 : Int))) || (decide (p0 > 1099511627776))) || (decide (p1 < 0))) || (decide (p1 > 65536))) || (decide (p2 < 1))) || (decide (p2 > 65536)))))]) (G2 := []) 24 ?_
  refine aw_ite (t := ((((((decide (p0 < (-1099511627776 : Int))) || (decide (p0 > 1099511627776))) || (decide (p1 < 0))) || (decide (p1 > 65536))) || (decide (p2 < 1))) || (decide (p2 > 65536)))) (by kernel_rfl) h (fun h => ?_) (fun h => ?_)
  · refine za [6, 7] ?_
    have h := Option.some.inj h
    subst h
    exact aw_ret (fin_pub (A := .tup [.c (I 0), .c (I 1)]) (.inl rfl) (by kernel_rfl) (by kernel_rfl) (by kernel_rfl))
  · refine aw_skip ?_
    refine zx fun _ => ?_
    refine zk 4 ?_
    obtain ⟨y1, he, h⟩ := bindE h
    refine rx_call (F := 60) (As := [.c (I (IntKind.wrap .i64 (p0 * p1))), .c (I p2)]) (Bs := [.c (I (IntKind.wrap .i64 (p0 * p1))), .c (I p2)]) (r := .c (I y1)) (v := .c (I y1)) (by kernel_rfl) fok60 (by kernel_rfl) (fixed_Round_ok n _ _ y1 he) (by kernel_rfl) (by kernel_rfl) rfl rfl ?_
    clear he
    refine zk 2 ?_
    refine ze [6, 7] ?_
    have h := Option.some.inj h
    subst h
    exact aw_ret (fin_pub (A := .tup [.c (I y1), .c (I 0)]) (.inl rfl) (by kernel_rfl) (by kernel_rfl) (by kernel_rfl))
def fixed_Clamp  (n : Nat) (p0 : Int) (p1 : Int) (p2 : Int) : Option Int := (if ((decide (p0 < p1)) || (decide (p2 < p1))) = true then some p1 else (if (decide (p0 > p2)) = true then some p2 else some p0))
theorem fixed_Clamp_ok  (n : Nat) (p0 : Int) (p1 : Int) (p2 : Int) (r : Int) (h : fixed_Clamp n p0 p1 p2 = some r) : FnD E 46 0 [.c (I p0), .c (I p1), .c (I p2)] [] (.c (I r)) [] := by
  refine zfn Tryd.func46 rfl ?_
  unfold fixed_Clamp at h
  refine za [0, 1, 2] ?_
  refine aw_seq ?_
  refine aw_block ?_
  refine zx fun _ => ?_
  refine zk 4 ?_
  refine zE (.c (I p2)) ?_
  refine zE (.c (I p1)) ?_
  refine zE (.c (Bo (decide (p2 < p1)))) ?_
  refine zP (.bool ((decide (p0 < p1)) || (decide (p2 < p1)))) ?_
  refine zk 1 ?_
  refine ze [0, 1, 2, 7] ?_
  refine aw_ite (t := ((decide (p0 < p1)) || (decide (p2 < p1)))) (by kernel_rfl) h (fun h => ?_) (fun h => ?_)
  · refine za [6] ?_
    have h := Option.some.inj h
    subst h
    exact aw_ret (fin_pub (A := .c (I p1)) (.inl rfl) (by kernel_rfl) (by kernel_rfl) (by kernel_rfl))
  · refine za [0, 2, 17] ?_
    refine aw_ite (t := (decide (p0 > p2))) (by kernel_rfl) h (fun h => ?_) (fun h => ?_)
    · refine za [6] ?_
      have h := Option.some.inj h
      subst h
      exact aw_ret (fin_pub (A := .c (I p2)) (.inl rfl) (by kernel_rfl) (by kernel_rfl) (by kernel_rfl))
    · refine aw_skip ?_
      refine za [6] ?_
      have h := Option.some.inj h
      subst h
      exact aw_ret (fin_pub (A := .c (I p0)) (.inl rfl) (by kernel_rfl) (by kernel_rfl) (by kernel_rfl))
def theme_Size  (n : Nat) (p0 : GMode) (p1 : Int) : Option Int := (withJ (fun (v3 : Int) => (fixed_Clamp n v3 1 1000).bind fun (y4 : Int) => some y4) (fun (j1 : Int → Option Int) => (if ((((decide (p0.Scale ≥ 50)) && (decide (p0.Scale ≤ 400))) && (decide (p1 ≥ 1))) && (decide (p1 ≤ 1000))) = true then (fixed_Scale n p1 p0.Scale 100).bind fun (y2 : (Int × Int)) => j1 y2.1 else j1 p1)))
theorem theme_Size_ok  (n : Nat) (p0 : GMode) (p1 : Int) (r : Int) (h : theme_Size n p0 p1 = some r) : FnD E 25 0 [.agg [Bo p0.Dark, Bo p0.High, I p0.Scale], .c (I p1)] [] (.c (I r)) [] := by
  refine zfn Tryd.func25 rfl ?_
  unfold theme_Size at h
  refine za [1, 2] ?_
  refine aw_join h (fun A j => ∀ (v3 : Int), j v3 = some r → A (mk [(1, .c (I v3))] [] 0)) (fun v3 h => ?_) (fun j1 Aj1 hj1 h => ?_)
  · refine zx fun _ => ?_
    refine zk 1 ?_
    obtain ⟨y4, he, h⟩ := bindE h
    refine rx_call (F := 46) (As := [.c (I v3), .c (I 1), .c (I 1000)]) (Bs := [.c (I v3), .c (I 1), .c (I 1000)]) (r := .c (I y4)) (v := .c (I y4)) (by kernel_rfl) fok46 (by kernel_rfl) (fixed_Clamp_ok n _ _ _ y4 he) (by kernel_rfl) (by kernel_rfl) rfl rfl ?_
    clear he
    refine zk 1 ?_
    refine ze [4] ?_
    have h := Option.some.inj h
    subst h
    exact aw_ret (fin_pub (A := .c (I y4)) (.inl rfl) (by kernel_rfl) (by kernel_rfl) (by kernel_rfl))
  · refine zx fun _ => ?_
    refine zk 4 ?_
    refine zE (.c (.ptr 0 2)) ?_
    refine zE (.c (I p0.Scale)) ?_
    refine zE (.c (Bo (decide (p0.Scale ≤ 400)))) ?_
    refine zP (.bool ((decide (p0.Scale ≥ 50)) && (decide (p0.Scale ≤ 400)))) ?_
    refine zk 1 ?_
    refine zE (.c (I p1)) ?_
    refine zE (.c (Bo (decide (p1 ≥ 1)))) ?_
    refine zP (.bool (((decide (p0.Scale ≥ 50)) && (decide (p0.Scale ≤ 400))) && (decide (p1 ≥ 1)))) ?_
    refine zk 1 ?_
    refine zE (.c (I p1)) ?_
    refine zE (.c (Bo (decide (p1 ≤ 1000)))) ?_
    refine zP (.bool ((((decide (p0.Scale ≥ 50)) && (decide (p0.Scale ≤ 400))) && (decide (p1 ≥ 1))) && (decide (p1 ≤ 1000)))) ?_
    refine zee [1, 2, 20] (L2 := [(1, .c (I p1)), (2, .c (.ptr 0 0)), (20, .c (Bo ((((decide (p0.Scale ≥ 50)) && (decide (p0.Scale ≤ 400))) && (decide (p1 ≥ 1))) && (decide (p1 ≤ 1000)))))]) (G2 := [(0, .blk 52 [Bo p0.Dark, Bo p0.High, I p0.Scale])]) 18 ?_
    refine aw_ite (t := ((((decide (p0.Scale ≥ 50)) && (decide (p0.Scale ≤ 400))) && (decide (p1 ≥ 1))) && (decide (p1 ≤ 1000)))) (by kernel_rfl) h (fun h => ?_) (fun h => ?_)
    · refine aw_out ?_
      refine zy fun _ => ?_
      refine zk 3 ?_
      obtain ⟨y2, he, h⟩ := bindE h
      refine rx_call (F := 45) (As := [.c (I p1), .c (I p0.Scale), .c (I 100)]) (Bs := [.c (I p1), .c (I p0.Scale), .c (I 100)]) (r := .tup [.c (I y2.1), .c (I y2.2)]) (v := .tup [.c (I y2.1), .c (I y2.2)]) (by kernel_rfl) fok45 (by kernel_rfl) (fixed_Scale_ok n _ _ _ y2 he) (by kernel_rfl) (by kernel_rfl) rfl rfl ?_
      clear he
      refine zk 4 ?_
      refine x_last ?_
      exact via (zv [] [1] 0) (hj1 _ h)
    · exact aw_views (zv [] [1] 0) (aw_skip (hj1 _ h))
end Go.Proofs.YtojkihhnioeggaaDoor.S
