import Derived.Test.YtojkihhnioeggaaGreatDoorQUGM15
import Derived.Test.YtojkihhnioeggaaGreatDoorQUCs7
import Derived.WalkKit
import Derived.WalkSpells
import Derived.WalkLawsBesides
import Derived.Deep.QuietTactic
import Derived.BigQuiet
import Derived.BigRegion
import Derived.Lib.Hide
import Derived.Deep.RegionWith
set_option linter.unusedSimpArgs false
set_option linter.unusedVariables false
set_option linter.unusedSimpArgs false
set_option linter.unusedVariables false
set_option linter.unusedSectionVars false
namespace Go.Proofs.YtojkihhnioeggaaGreatDoor.S
open Go Go.Bm
def wG (t : bA) (st : List aR) : eI := ⟨jZ t.Nodes, sT t.Nodes, Rp st⟩
def smB (A B : eI) (x : aP) : Bool :=
 (((gU x.ID A.nodes && ((cZ x.ID A.nodes).Kind == x.Kind)) && (bV (cZ x.ID A.class_) (cZ x.ID B.class_))) && (cZ x.ID A.states == cZ x.ID B.states)) && ((cZ x.ID A.nodes).Parent == x.Parent)
def reu (A B : eI) (R : List (Int × Bool)) (x : aP) : Bool := smB A B x && ((x.Parent == 0) || cZ x.Parent R)
def qX (A B : eI) : List aP → List (Int × Bool) → List (Int × Bool)
 | [], R => R
 | x :: l, R => qX A B l (R ++ [(x.ID, reu A B R x)])
theorem wR (A B : eI) : ∀ (l : List aP) (R : List (Int × Bool)), (qX A B l R).map Prod.fst = R.map Prod.fst ++ l.map aP.ID
 | [], R => by simp [qX]
 | x :: l, R => by rw [qX, wR A B l]; simp
theorem Fo (A B : eI) : ∀ (l : List aP) (x : aP) (R : List (Int × Bool)), qX A B (l ++ [x]) R = qX A B l R ++ [(x.ID, reu A B (qX A B l R) x)]
 | [], x, R => rfl
 | y :: l, x, R => by rw [List.cons_append, qX, Fo A B l, qX]
def Sf (R : List (Int × Bool)) : Nat := (R.filter fun p => !p.2).length
theorem aB7 (R : List (Int × Bool)) (k : Int) (b : Bool) : Sf (R ++ [(k, b)]) = Sf R + if b = true then 0 else 1 := by
 unfold Sf
 rw [List.filter_append, List.length_append]
 cases b <;> rfl
theorem nof_le (R : List (Int × Bool)) : Sf R ≤ R.length := List.length_filter_le _ _
theorem Rz {t : bA} {v : aJ} (h : cM t v) {pre l : List aP} {x : aP} (ht : t.Nodes = pre ++ x :: l) : x.ID = t.Root + (pre.length : Nat) := by
 have hl := h.len
 have hlen : t.Nodes.length = pre.length + (l.length + 1) := by rw [ht]; simp
 obtain ⟨y, hy, _, hyi⟩ := h.nth (q := pre.length) (by omega)
 rw [ht, List.getElem?_append_right (Nat.le_refl _), Nat.sub_self] at hy
 obtain rfl : x = y := Option.some.inj hy
 exact hyi
theorem Wp {t : bA} {v : aJ} (h : cM t v) (A : eI) (st : List aR) (j : Int → Option ((List aU) × Int × Int)) (y1 : (List aU) × Int) : ∀ (l pre : List aP) (n : Nat) (q : Int), t.Nodes = pre ++ l → q = pre.length → l.length < n →
  dX (nV t.Root (fW v)) A (wG t st) j y1 n (Sf (qX A (wG t st) pre []) : Int) q (qX A (wG t st) pre []) = j (Sf (qX A (wG t st) t.Nodes []) : Int)
 | [], pre, n, q, ht, hq, hn => by
  obtain ⟨n, rfl⟩ : ∃ m, n = m + 1 := ⟨n - 1, by omega⟩
  have hlen : t.Nodes.length = pre.length := by rw [ht]; simp
  have hl := h.len
  rw [dX, if_neg (by simp [kB]; omega), ht, List.append_nil]
 | x :: l, pre, n, q, ht, hq, hn => by
  obtain ⟨n, rfl⟩ : ∃ m, n = m + 1 := ⟨n - 1, by omega⟩
  have hlen : t.Nodes.length = pre.length + (l.length + 1) := by rw [ht]; simp
  have hl := h.len
  have hsz := h.size
  have hroot := h.root
  simp only [List.length_cons] at hn
  have hw : IntKind.wrap .i64 (q + 1) = q + 1 := Go.Bm.aT (by omega) (by omega)
  have hx : x ∈ t.Nodes := by rw [ht]; simp
  have hnd := h.nodup
  have hid := Rz h ht
  have hidx : idx (nV t.Root (fW v)) q = some x.ID := by
   rw [hq, hid]; exact wM (tS _ _ _ (by omega))
  have hlook : cZ x.ID (wG t st).nodes = x := by unfold cZ wG; rw [kP hnd hx]; rfl
  have hnew : ∀ p, p ∈ qX A (wG t st) pre [] → p.1 ≠ x.ID := fun p hp e => by
   have hk : p.1 ∈ (qX A (wG t st) pre []).map Prod.fst := List.mem_map.2 ⟨p, hp, rfl⟩
   rw [wR] at hk
   rw [ht, List.map_append, List.nodup_append] at hnd
   exact hnd.2.2 p.1 (by simpa using hk) x.ID (by simp) e
  have hml : (qX A (wG t st) pre []).length = pre.length := by
   have := congrArg List.length (wR A (wG t st) pre [])
   simpa using this
  have hnof := nof_le (qX A (wG t st) pre [])
  have ih := Wp h A st j y1 l (pre ++ [x]) n (q + 1) (by rw [ht]; simp) (by simp; omega) (by omega)
  rw [Fo, aB7] at ih
  rw [dX, if_pos (by simp [kB]; omega), hidx]
  unfold aS
  simp only [Option.bind_some, hlook, hw]
  generalize hR : qX A (wG t st) pre [] = R at *
  have hput : ∀ b, fY x.ID b R = R ++ [(x.ID, b)] := fun b => qO hnew
  have hget : ∀ b, cZ x.ID (R ++ [(x.ID, b)]) = b := fun b => by
   refine Hy (Us fun hm => ?_)
   obtain ⟨p, hp, e⟩ := List.mem_map.1 hm
   exact hnew p hp e
  have hc1 : IntKind.wrap .i64 ((Sf R : Int) + 1) = ((Sf R + 1 : Nat) : Int) := by rw [Go.Bm.aT (by omega) (by omega)]; omega
  have tH : ∀ b : Bool, b = reu A (wG t st) R x → (if (!cZ x.ID (fY x.ID b R)) = true then dX (nV t.Root (fW v)) A (wG t st) j y1 n (IntKind.wrap .i64 ((Sf R : Int) + 1)) (q + 1) (fY x.ID b R) else dX (nV t.Root (fW v)) A (wG t st) j y1 n (Sf R : Int) (q + 1) (fY x.ID b R)) = j (Sf (qX A (wG t st) t.Nodes []) : Int) := fun b hb => by
   rw [hput, hget, hb]
   rw [hc1]
   cases hr : reu A (wG t st) R x
   ·rw [hr] at ih
    simp only [Bool.not_false, if_true]
    simpa using ih
   ·rw [hr] at ih
    simp only [Bool.not_true, Bool.false_eq_true, if_false]
    simpa using ih
  unfold reu smB at tH
  cases h1 : (gU x.ID A.nodes && ((cZ x.ID A.nodes).Kind == x.Kind))
  ·simp only [h1, gd, List.all_cons, List.all_nil, id, Bool.and_true, Bool.false_and, Bool.false_eq_true, if_false, Option.bind_some] at tH ⊢
   exact tH false rfl
  ·cases h2 : bV (cZ x.ID A.class_) (cZ x.ID (wG t st).class_)
   ·simp only [h1, h2, gd, List.all_cons, List.all_nil, id, Bool.and_true, Bool.true_and, if_true, Bool.false_and, Bool.false_eq_true, if_false, Option.bind_some] at tH ⊢
    exact tH false rfl
   ·cases h3 : (cZ x.ID A.states == cZ x.ID (wG t st).states)
    ·simp only [h1, h2, h3, gd, List.all_cons, List.all_nil, id, Bool.and_true, Bool.true_and, if_true, Bool.false_and, Bool.false_eq_true, if_false, Option.bind_some] at tH ⊢
     exact tH false rfl
    ·cases h4 : ((cZ x.ID A.nodes).Parent == x.Parent)
     ·simp only [h1, h2, h3, h4, gd, List.all_cons, List.all_nil, id, Bool.and_true, Bool.true_and, if_true, Bool.false_and, Bool.false_eq_true, if_false, Option.bind_some] at tH ⊢
      exact tH false rfl
     ·cases h5 : (x.Parent == 0)
      ·simp only [h1, h2, h3, h4, h5, gd, List.all_cons, List.all_nil, id, Bool.and_true, Bool.true_and, if_true, Bool.not_false, Bool.false_or, Option.bind_some] at tH ⊢
       exact tH _ rfl
      ·simp only [h1, h2, h3, h4, h5, gd, List.all_cons, List.all_nil, id, Bool.and_true, Bool.true_and, if_true, Bool.not_true, Bool.false_eq_true, if_false, Bool.true_or, Option.bind_some] at tH ⊢
       exact tH true rfl
theorem Rk (l1 : List aP) (l2 : List aU) (hid : l2.map aU.ID = l1.map aP.ID) (hz : l1.length ≤ 1000) (j : Unit → Option Bool) : ∀ (k i n : Nat), i + k = l1.length → k < n → aZ l1 l2 j n (i : Int) = j ()
 | 0, i, n, hi, hn => by
  obtain ⟨n, rfl⟩ : ∃ m, n = m + 1 := ⟨n - 1, by omega⟩
  rw [aZ, if_neg (by simp; omega)]
 | k + 1, i, n, hi, hn => by
  obtain ⟨n, rfl⟩ : ∃ m, n = m + 1 := ⟨n - 1, by omega⟩
  have hw : IntKind.wrap .i64 ((i : Int) + 1) = ((i + 1 : Nat) : Int) := by rw [Go.Bm.aT (by omega) (by omega)]; omega
  have hlt : i < l1.length := by omega
  have hl2 : l2.length = l1.length := by simpa using congrArg List.length hid
  have hlt2 : i < l2.length := by omega
  have he : l2[i].ID = l1[i].ID := by
   have := congrArg (fun l => l[i]?) hid
   simp only [List.getElem?_map, List.getElem?_eq_getElem hlt, List.getElem?_eq_getElem hlt2, Option.map_some] at this
   exact Option.some.inj this
  rw [aZ, if_pos (by simp; omega), dU hlt, dU hlt2]
  unfold pM
  simp only [Option.bind_some, he, beq_self_eq_true, Bool.not_true, Bool.false_eq_true, if_false, hw]
  exact Rk l1 l2 hid hz j k (i + 1) n (by omega) (by omega)
theorem aBe {t : bA} {v : aJ} (h : cM t v) (hv : nZ 4 v) (L : List aU) (hid : L.map aU.ID = t.Nodes.map aP.ID) (n : Nat) (hn : Bn v + 5000 ≤ n) : mP n t L = some true := by
 have hsz := h.size
 have hl := h.len
 have hl2 : L.length = t.Nodes.length := by simpa using congrArg List.length hid
 unfold mP
 rw [Gr h hv n (by omega)]
 simp only [Option.bind_some, beq_self_eq_true, rS, if_true, Bool.true_and]
 unfold bO aS
 rw [if_neg (by simp; omega)]
 have e := Rk t.Nodes L hid (by omega) (fun _ => some true) t.Nodes.length 0 n (by omega) (by omega)
 show (aZ t.Nodes L (fun _ => some true) n ((0 : Nat) : Int)).bind _ = _
 rw [e]
 rfl
theorem Zt {t : bA} {v : aJ} (h : cM t v) (hv : nZ 4 v) (L : List aU) (hid : L.length ≠ t.Nodes.length) (n : Nat) (hn : Bn v + 5000 ≤ n) : mP n t L = some false := by
 unfold mP
 rw [Gr h hv n (by omega)]
 simp only [Option.bind_some, beq_self_eq_true, rS, if_true, Bool.true_and]
 unfold bO
 rw [if_pos (by simp; omega)]
 rfl
theorem Qg {t0 : bA} {v0 : aJ} (h0 : cM t0 v0) (hv0 : nZ 4 v0) (st0 : List aR) (hst0 : st0.length ≤ 1000) {t : bA} {v : aJ} (h : cM t v) (hv : nZ 4 v) (st : List aR) (hst : st.length ≤ 1000) {s : bH} (hs : iX s) {th : bS} (ht : mO th) (m : cY) (hm : mSc m = false) (L : List aU) (hid : L.map aU.ID = t0.Nodes.map aP.ID) (n : Nat) (hn : Bn v + 5000 ≤ n) (hn0 : Bn v0 + 5000 ≤ n) :
  hP n s th m t0 st0 L t st = some (Sq t st s th m, (Sf (qX (wG t0 st0) (wG t st) t.Nodes []) : Int), 0) := by
 have hsz := h.size
 have hl := h.len
 obtain ⟨e1, _⟩ := xR h hv st hst hs ht m n hn
 rw [hm] at e1
 unfold hP aS
 rw [e1, aBe h0 hv0 L hid n hn0]
 simp only [Bool.false_eq_true, if_false, Option.bind_some, bne_self_eq_false, Bool.not_true]
 rw [Pt h0 hv0 st0 hst0 n (by omega), Pt h hv st hst n (by omega)]
 simp only [Option.bind_some]
 rw [Lx h hv n (by omega)]
 simp only [Option.bind_some]
 exact Wp h (wG t0 st0) st _ _ t.Nodes [] n 0 rfl rfl (by omega)
theorem Ot {t : bA} {v : aJ} (h : cM t v) (hv : nZ 4 v) (st0 st : List aR) (hst : st.length ≤ 1000) {s : bH} (hs : iX s) {th : bS} (ht : mO th) (m : cY) (hm : mSc m = false) (L : List aU) (hid : L.length ≠ t.Nodes.length) (n : Nat) (hn : Bn v + 5000 ≤ n) :
  hP n s th m t st0 L t st = some ([], 0, 12) := by
 obtain ⟨e1, _⟩ := xR h hv st hst hs ht m n hn
 rw [hm] at e1
 unfold hP
 rw [e1, Zt h hv L hid n hn]
 rfl
end Go.Proofs.YtojkihhnioeggaaGreatDoor.S
