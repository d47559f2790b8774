import Derived.Test.YtojkihhnioeggaaGreatDoorQUGM13
set_option linter.unusedVariables false
set_option linter.unusedSimpArgs false
set_option maxRecDepth 100000
set_option maxHeartbeats 4000000
namespace Go.Proofs.YtojkihhnioeggaaGreatDoor.S
open Go Go.Bm
def pM  (n : Nat) (p0 : aP) (p1 : aU) : Option Bool := some (p0.ID == p1.ID)
theorem Cl  (n : Nat) (p0 : aP) (p1 : aU) (r : Bool) (h : pM n p0 p1 = some r) : dI E 100 0 [B4 p0, D8 p1.ID p1.Style] [] (B2 r) [] := by
 refine gT Tryz.func100 rfl ?_
 unfold pM at h
 refine za [2, 3] ?_
 refine za [4] ?_
 cases h
 exact aI zr
def aZ (p0 : (List aP)) (p1 : (List aU)) (j1 : Unit → Option Bool) : Nat → Int → Option Bool
 | 0, _ => none
 | n + 1, v5 => (if (decide (v5 < (List.length p0 : Int))) = true then (idx p0 v5).bind fun (e6 : aP) => (idx p1 v5).bind fun (e7 : aU) => (pM n e6 e7).bind fun (y8 : Bool) => (if (!y8) = true then some false else aZ p0 p1 j1 n (IntKind.wrap .i64 (v5 + 1))) else j1 ())
def bO  (n : Nat) (p0 : (List aP)) (p1 : (List aU)) (p2 : Unit) : Option Bool := (if ((List.length p0 : Int) != (List.length p1 : Int)) = true then some false else (aS (fun (_ : Unit) => some true) (fun (j1 : Unit → Option Bool) => aZ p0 p1 j1 n 0)))
theorem fT  (n : Nat) (p0 : (List aP)) (p1 : (List aU)) (p2 : Unit) (r : Bool) (h : bO n p0 p1 p2 = some r) : dI E 99 0 [F7 p0, B6 p1, .c (.fn 100 [])] [] (B2 r) [] := by
 refine gT Tryz.func99 rfl ?_
 unfold bO at h
 refine za [0, 1, 2] ?_
 refine aO ?_
 refine zx fun _ => ?_
 refine zk 1 ?_
 refine zl aE p0 ?_
 refine zk 1 ?_
 refine zl aW p1 ?_
 refine zk 1 ?_
 refine ze [0, 1, 2, 14] ?_
 refine zi h (fun h => ?_) fun h => ?_
 refine za [6] ?_
 cases h
 exact aI zr
 refine aC ?_
 refine aX h (fun A j => ∀ u, j u = some r → A (mk [] [] 0)) (fun u h => ?_) (fun j1 Aj1 hj1 h => ?_)
 refine za [6] ?_
 cases h
 exact aI zr
 refine zx fun _ => ?_
 refine zk 1 ?_
 refine zl aE p0 ?_
 refine zk 1 ?_
 refine ze [1, 2, 15, 16, 17] ?_
 refine aK ?_
 refine bJ (fun n s => ∃ v5, aZ p0 p1 j1 n v5 = some r ∧ s = mk [L5 1 p1, (2, .c (.fn 100 [])), (15, F7 p0), (16, .c (I (List.length p0 : Int))), C6 17 v5] [] 0) n _ (zv [] [1, 2, 15, 16, 17] 0) ⟨_, h, rfl⟩ (fun s ⟨v5, h, _⟩ => nomatch h) ?_
 rintro n s ⟨v5, h, rfl⟩
 rw [aZ] at h
 refine za [1, 2, 15, 16, 17, 18] ?_
 refine aO ?_
 refine zi h (fun h => ?_) fun h => ?_
 refine aC ?_
 refine aO ?_
 refine aK ?_
 refine zx fun _ => ?_
 refine zk 1 ?_
 obtain ⟨e6, he, h⟩ := aB h
 refine zd aE he ?_
 clear he
 refine zk 4 ?_
 refine ze [1, 2, 7, 8, 15, 16, 17] ?_
 refine zx fun _ => ?_
 refine zk 2 ?_
 obtain ⟨e7, he, h⟩ := aB h
 refine zd aW he ?_
 clear he
 refine zk 3 ?_
 refine ze [1, 2, 8, 9, 15, 16, 17] ?_
 refine zx fun _ => ?_
 refine zk 3 ?_
 obtain ⟨y8, he, h⟩ := aB h
 refine rx_O (v := .c (Bo y8)) (foot := []) (Ia (F := 100) (As := [B4 e6, D8 e7.ID e7.Style]) (Bs := [B4 e6, D8 e7.ID e7.Style]) (r := .c (Bo y8)) (v := .c (Bo y8)) (by kernel_rfl) fok100 (by kernel_rfl) (Cl n _ _ y8 he) (by kernel_rfl)) (by kernel_rfl) rfl rfl ?_
 clear he
 refine zk 1 ?_
 refine mC [1, 2, 15, 16, 17, 30] (L2 := [L5 1 p1, (2, .c (.fn 100 [])), (15, F7 p0), (16, .c (I (List.length p0 : Int))), C6 17 v5, (30, B2 (!y8))]) (G2 := [(4, A4 e6), (11, .blk 54 [I e7.ID, I e7.Style.x0, I e7.Style.x1, I e7.Style.x2, I e7.Style.x3, I e7.Style.x4, I e7.Style.x5, I e7.Style.x6, I e7.Style.x7, I e7.Style.x8, I e7.Style.x9, I e7.Style.x10, I e7.Style.x11, I e7.Style.x12, I e7.Style.x13, I e7.Style.x14, I e7.Style.x15, I e7.Style.x16, I e7.Style.x17, I e7.Style.x18, I e7.Style.x19, I e7.Style.x20, I e7.Style.x21])]) 18 ?_
 refine zi h (fun h => ?_) fun h => ?_
 refine za [6] ?_
 cases h
 exact aI zr
 refine aC ?_
 refine bB ?_
 refine zb ?_
 exact eZ (zv [] [1, 2, 15, 16, 17] 0) (⟨_, h, rfl⟩)
 exact aL (zv [] [] 0) (bK (hj1 _ h))
def mP  (n : Nat) (p0 : bA) (p1 : (List aU)) : Option Bool := (oF n p0).bind fun (y1 : Int) => (gd [(y1 == 0)] (bO n p0.Nodes p1 ())).bind fun (y2 : Bool) => some ((y1 == 0) && y2)
theorem Hj  (n : Nat) (p0 : bA) (p1 : (List aU)) (r : Bool) (h : mP n p0 p1 = some r) : dI E 62 0 [C8 p0, B6 p1] [] (B2 r) [] := by
 refine gT Tryz.func62 rfl ?_
 unfold mP at h
 refine za [1, 2] ?_
 refine zx fun _ => ?_
 refine zk 1 ?_
 obtain ⟨y1, he, h⟩ := aB h
 refine zc aBk (xE n _ y1 he) ?_
 clear he
 refine zk 2 ?_
 refine zE (A1 0 2) ?_
 refine zE (F7 p0.Nodes) ?_
 refine zE (B6 p1) ?_
 obtain ⟨y2, he, h⟩ := aB h
 refine Om [y1 == 0] fok99 (fun hg => fT n _ _ _ y2 (cD he hg)) ?_
 clear he
 refine zP (.bool ((y1 == 0) && y2)) ?_
 refine zk 1 ?_
 refine mC [4] (L2 := [(4, B2 ((y1 == 0) && y2))]) (G2 := [L4 0 p0]) 12 ?_
 cases h
 exact aI zr
end Go.Proofs.YtojkihhnioeggaaGreatDoor.S
