import Derived.Test.YtojkihhnioeggaaGreatDoorQEGM15
import Derived.Test.YtojkihhnioeggaaGreatDoorQECs7
import Derived.WalkLawsBesides
import Derived.Deep.QuietTactic
import Derived.BigQuiet
import Derived.BigRegion
import Derived.Lib.Hide
import Derived.Deep.RegionWith
set_option linter.unusedSimpArgs false
set_option linter.all false
set_option linter.unusedVariables false
set_option linter.unusedSectionVars false
namespace Go.Proofs.YtojkihhnioeggaaGreatDoor.S
open Go Go.Bm
def pY (t : bA) (st : List aO) : fO := ⟨kV t.Nodes, tE t.Nodes, Ve st⟩
def smB (A B : fO) (x : aU) : Bool :=
 (((iG x.ID A.nodes && ((cZ x.ID A.nodes).Kind == x.Kind)) && (bP (cZ x.ID A.class_) (cZ x.ID B.class_))) && (cZ x.ID A.states == cZ x.ID B.states)) && ((cZ x.ID A.nodes).Parent == x.Parent)
def reu (A B : fO) (R : List (Int × Bool)) (x : aU) : Bool := smB A B x && ((x.Parent == 0) || cZ x.Parent R)
def pT (A B : fO) : List aU → List (Int × Bool) → List (Int × Bool)
 | [], R => R
 | x :: l, R => pT A B l (R ++ [(x.ID, reu A B R x)])
theorem sC (A B : fO) : ∀ (l : List aU) (R : List (Int × Bool)), (pT A B l R).map Prod.fst = R.map Prod.fst ++ l.map aU.ID
 | [], R => by simp [pT]
 | x :: l, R => by rw [pT, sC A B l]; simp
theorem Ix (A B : fO) : ∀ (l : List aU) (x : aU) (R : List (Int × Bool)), pT A B (l ++ [x]) R = pT A B l R ++ [(x.ID, reu A B (pT A B l R) x)]
 | [], x, R => rfl
 | y :: l, x, R => by rw [List.cons_append, pT, Ix A B l, pT]
def Tz (R : List (Int × Bool)) : Nat := (R.filter fun p => !p.2).length
theorem nof_app (R : List (Int × Bool)) (k : Int) (b : Bool) : Tz (R ++ [(k, b)]) = Tz R + if b = true then 0 else 1 := by
 unfold Tz
 rw [List.filter_append, List.length_append]
 cases b <;> rfl
theorem nof_le (R : List (Int × Bool)) : Tz R ≤ R.length := List.length_filter_le _ _
theorem Vs {t : bA} {v : aN} (h : cR t v) {pre l : List aU} {x : aU} (ht : t.Nodes = pre ++ x :: l) : x.ID = t.Root + (pre.length : Nat) := by
 have hl := h.len
 have ab : t.Nodes.length = pre.length + (l.length + 1) := by rw [ht]; simp
 obtain ⟨y, hy, _, hyi⟩ := h.nth (q := pre.length) (by omega)
 rw [ht, List.getElem?_append_right (Nat.le_refl _), Nat.sub_self] at hy
 obtain rfl : x = y := Option.some.inj hy
 exact hyi
theorem aA4 {t : bA} {v : aN} (h : cR t v) (A : fO) (st : List aO) (j : Int → Option ((List aZ) × Int × Int)) (y1 : (List aZ) × Int) : ∀ (l pre : List aU) (n : Nat) (q : Int), t.Nodes = pre ++ l → q = pre.length → l.length < n →
  eJ (oV t.Root (eU v)) A (pY t st) j y1 n (Tz (pT A (pY t st) pre []) : Int) q (pT A (pY t st) pre []) = j (Tz (pT A (pY t st) t.Nodes []) : Int)
 | [], pre, n, q, ht, hq, hn => by
  obtain ⟨n, rfl⟩ := nS n (by omega)
  have ab : t.Nodes.length = pre.length := by rw [ht]; simp
  have hl := h.len
  rw [eJ, if_neg (by simp [jX]; omega), ht, List.append_nil]
 | x :: l, pre, n, q, ht, hq, hn => by
  obtain ⟨n, rfl⟩ := nS n (by omega)
  have ab : t.Nodes.length = pre.length + (l.length + 1) := by rw [ht]; simp
  have hl := h.len
  have ah := h.size
  have av := h.root
  simp only [List.length_cons] at hn
  have hw : w6 (q + 1) = q + 1 := wS (by omega) (by omega)
  have hx : x ∈ t.Nodes := by rw [ht]; simp
  have au := h.nodup
  have am := Vs h ht
  have hidx : idx (oV t.Root (eU v)) q = some x.ID := by
   rw [hq, am]; exact vW (tJ _ _ _ (by omega))
  have ak : cZ x.ID (pY t st).nodes = x := by unfold cZ pY; rw [lW au hx]; rfl
  have hnew : ∀ p, p ∈ pT A (pY t st) pre [] → p.1 ≠ x.ID := fun p hp e => by
   have hk : p.1 ∈ (pT A (pY t st) pre []).map Prod.fst := List.mem_map.2 ⟨p, hp, rfl⟩
   rw [sC] at hk
   rw [ht, List.map_append, List.nodup_append] at au
   exact au.2.2 p.1 (by simpa using hk) x.ID (by simp) e
  have hml : (pT A (pY t st) pre []).length = pre.length := by
   have := congrArg List.length (sC A (pY t st) pre [])
   simpa using this
  have hnof := nof_le (pT A (pY t st) pre [])
  have ih := aA4 h A st j y1 l (pre ++ [x]) n (q + 1) (by rw [ht]; simp) (by simp; omega) (by omega)
  rw [Ix, nof_app] at ih
  rw [eJ, if_pos (by simp [jX]; omega), hidx]
  unfold aS
  simp only [oB, ak, hw]
  generalize hR : pT A (pY t st) pre [] = R at *
  have hput : ∀ b, gS x.ID b R = R ++ [(x.ID, b)] := fun b => sS hnew
  have hget : ∀ b, cZ x.ID (R ++ [(x.ID, b)]) = b := fun b => by
   refine Li (Yk fun hm => ?_)
   obtain ⟨p, hp, e⟩ := List.mem_map.1 hm
   exact hnew p hp e
  have hc1 : w6 ((Tz R : Int) + 1) = ((Tz R + 1 : Nat) : Int) := by rw [wS (by omega) (by omega)]; omega
  have vF : ∀ b : Bool, b = reu A (pY t st) R x → (if (!cZ x.ID (gS x.ID b R)) = true then eJ (oV t.Root (eU v)) A (pY t st) j y1 n (w6 ((Tz R : Int) + 1)) (q + 1) (gS x.ID b R) else eJ (oV t.Root (eU v)) A (pY t st) j y1 n (Tz R : Int) (q + 1) (gS x.ID b R)) = j (Tz (pT A (pY t st) t.Nodes []) : Int) := fun b hb => by
   rw [hput, hget, hb]
   rw [hc1]
   cases hr : reu A (pY t st) R x
   ·rw [hr] at ih
    simp only [Bool.not_false, if_true]
    simpa using ih
   ·rw [hr] at ih
    simp only [Bool.not_true, fT, if_false]
    simpa using ih
  unfold reu smB at vF
  cases h1 : (iG x.ID A.nodes && ((cZ x.ID A.nodes).Kind == x.Kind))
  ·simp only [h1, gd, List.all_cons, List.all_nil, id, Bool.and_true, Bool.false_and, fT, if_false, oB] at vF ⊢
   exact vF false rfl
  ·cases h2 : bP (cZ x.ID A.class_) (cZ x.ID (pY t st).class_)
   ·simp only [h1, h2, gd, List.all_cons, List.all_nil, id, Bool.and_true, Bool.true_and, if_true, Bool.false_and, fT, if_false, oB] at vF ⊢
    exact vF false rfl
   ·cases h3 : (cZ x.ID A.states == cZ x.ID (pY t st).states)
    ·simp only [h1, h2, h3, gd, List.all_cons, List.all_nil, id, Bool.and_true, Bool.true_and, if_true, Bool.false_and, fT, if_false, oB] at vF ⊢
     exact vF false rfl
    ·cases h4 : ((cZ x.ID A.nodes).Parent == x.Parent)
     ·simp only [h1, h2, h3, h4, gd, List.all_cons, List.all_nil, id, Bool.and_true, Bool.true_and, if_true, Bool.false_and, fT, if_false, oB] at vF ⊢
      exact vF false rfl
     ·cases h5 : (x.Parent == 0)
      ·simp only [h1, h2, h3, h4, h5, gd, List.all_cons, List.all_nil, id, Bool.and_true, Bool.true_and, if_true, Bool.not_false, Bool.false_or, oB] at vF ⊢
       exact vF _ rfl
      ·simp only [h1, h2, h3, h4, h5, gd, List.all_cons, List.all_nil, id, Bool.and_true, Bool.true_and, if_true, Bool.not_true, fT, if_false, Bool.true_or, oB] at vF ⊢
       exact vF true rfl
theorem Uy (l1 : List aU) (l2 : List aZ) (am : l2.map aZ.ID = l1.map aU.ID) (hz : l1.length ≤ 1000) (j : Unit → Option Bool) : ∀ (k i n : Nat), i + k = l1.length → k < n → bG l1 l2 j n (i : Int) = j ()
 | 0, i, n, hi, hn => by
  obtain ⟨n, rfl⟩ := nS n (by omega)
  rw [bG, if_neg (by simp; omega)]
 | k + 1, i, n, hi, hn => by
  obtain ⟨n, rfl⟩ := nS n (by omega)
  have hw : w6 ((i : Int) + 1) = ((i + 1 : Nat) : Int) := by rw [wS (by omega) (by omega)]; omega
  have ae : i < l1.length := by omega
  have hl2 : l2.length = l1.length := by simpa using congrArg List.length am
  have hlt2 : i < l2.length := by omega
  have he : l2[i].ID = l1[i].ID := by
   have := congrArg (fun l => l[i]?) am
   simp only [List.getElem?_map, List.getElem?_eq_getElem ae, List.getElem?_eq_getElem hlt2, Option.map_some] at this
   exact Option.some.inj this
  rw [bG, if_pos (by simp; omega), dR ae, dR hlt2]
  unfold rG
  simp only [oB, he, beq_self_eq_true, Bool.not_true, fT, if_false, hw]
  exact Uy l1 l2 am hz j k (i + 1) n (by omega) (by omega)
theorem fits_eq {t : bA} {v : aN} (h : cR t v) (hv : VG v) (L : List aZ) (am : L.map aZ.ID = t.Nodes.map aU.ID) (n : Nat) (hn : Cq v + 5000 ≤ n) : sE n t L = some true := by
 have ah := h.size
 have hl := h.len
 have hl2 : L.length = t.Nodes.length := by simpa using congrArg List.length am
 unfold sE
 rw [Ro h hv n (by omega)]
 simp only [oB, beq_self_eq_true, nP, if_true, Bool.true_and]
 unfold cE aS
 rw [if_neg (by simp; omega)]
 have e := Uy t.Nodes L am (by omega) (fun _ => some true) t.Nodes.length 0 n (by omega) (by omega)
 show (bG t.Nodes L (fun _ => some true) n ((0 : Nat) : Int)).bind _ = _
 rw [e]
 rfl
theorem Tr {t0 : bA} {v0 : aN} (h0 : cR t0 v0) (hv0 : VG v0) (st0 : List aO) (aq : st0.length ≤ 1000) {t : bA} {v : aN} (h : cR t v) (hv : VG v) (st : List aO) (af : st.length ≤ 1000) {s : bM} (hs : jY s) {th : bS} (ht : oD th) (m : cX) (hm : mSc m = false) (L : List aZ) (am : L.map aZ.ID = t0.Nodes.map aU.ID) (n : Nat) (hn : Cq v + 5000 ≤ n) (hn0 : Cq v0 + 5000 ≤ n) :
  nQ n s th m t0 st0 L t st = some (Sf t st s th m, (Tz (pT (pY t0 st0) (pY t st) t.Nodes []) : Int), 0) := by
 have ah := h.size
 have hl := h.len
 obtain ⟨e1, _⟩ := vR h hv st af hs ht m n hn
 rw [hm] at e1
 unfold nQ aS
 rw [e1, fits_eq h0 hv0 L am n hn0]
 simp only [fT, if_false, oB, bne_self_eq_false, Bool.not_true]
 rw [Tb h0 hv0 st0 aq n (by omega), Tb h hv st af n (by omega)]
 simp only [oB]
 rw [Pn h hv n (by omega)]
 simp only [oB]
 exact aA4 h (pY t0 st0) st _ _ t.Nodes [] n 0 rfl rfl (by omega)
end Go.Proofs.YtojkihhnioeggaaGreatDoor.S
