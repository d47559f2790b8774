import Derived.Test.YtojkihhnioeggaaGreatDoorQECs2
import Derived.WalkLawsBesides
import Derived.Deep.QuietTactic
import Derived.BigQuiet
import Derived.BigRegion
import Derived.Lib.Hide
import Derived.Deep.RegionWith
set_option linter.unusedSimpArgs false
set_option linter.all false
set_option linter.unusedVariables false
namespace Go.Proofs.YtojkihhnioeggaaGreatDoor.S
open Go Go.Bm
def efd (th : bS) (m : cX) (d : bW) : Option bW :=
 if d.Source = 1 then (if ((Sa m d.Token th.Tokens).2 && yZ d.Prop_ (Sa m d.Token th.Tokens).1) = true then some (bW.mk d.Prop_ d.Source (Sa m d.Token th.Tokens).1 d.Token) else none) else some d
def Pa (th : bS) (m : cX) (p : Int) : List bW → Option bW → Option bW
 | [], a => a
 | d :: l, a => Pa th m p l (if d.Prop_ = p then (match efd th m d with | none => a | some e => some e) else a)
theorem Sy (th : bS) (m : cX) (p : Int) : ∀ (l : List bW) (a : Option bW), Pa th m p l a = (Pa th m p l none).or a
 | [], a => by cases a <;> rfl
 | d :: l, a => by
  rw [Pa, Pa, Sy th m p l, Sy th m p l (if d.Prop_ = p then _ else none)]
  by_cases h : d.Prop_ = p
  ·rw [if_pos h, if_pos h]
   cases efd th m d with
   | none => cases Pa th m p l none <;> cases a <;> rfl
   | some e => cases Pa th m p l none <;> rfl
  ·rw [if_neg h, if_neg h]
   cases Pa th m p l none <;> cases a <;> rfl
def chd (th : bS) (m : cX) : List bW → List (Int × bW) → List (Int × bW)
 | [], M => M
 | d :: l, M => chd th m l (match efd th m d with | none => M | some e => gS d.Prop_ e M)
theorem Qo (th : bS) (m : cX) (p : Int) : ∀ (l : List bW) (M : List (Int × bW)), (chd th m l M).lookup p = Pa th m p l (M.lookup p)
 | [], M => rfl
 | d :: l, M => by
  rw [chd, Pa, Qo th m p l]
  congr 1
  cases efd th m d with
  | none => simp
  | some e =>
   show (gS d.Prop_ e M).lookup p = _
   rw [Du]
   by_cases h : d.Prop_ = p
   ·rw [if_pos h, if_pos h.symm]
   ·rw [if_neg h, if_neg fun h' => h h'.symm]
structure ThOk (th : bS) : Prop where
 len : th.Tokens.length ≤ 3
theorem ch_L1 (th : bS) (m : cX) (an : th.Tokens.length ≤ 1000) (r : cM) (C : jH) (hC : C.th = th ∧ C.m = m) (j : List (Int × bW) → Option (List (Int × bW))) (p1 v26 : Int) (hz : r.Decls.length ≤ 1000) : ∀ (l pre : List bW) (n : Nat) (q : Int) (M : List (Int × bW)), r.Decls = pre ++ l → q = pre.length → l.length + 1010 < n →
  gE r C j p1 v26 n q M = j (chd th m l M)
 | [], pre, n, q, M, ht, hq, hn => by
  obtain ⟨n, rfl⟩ := nS n (by simp at hn; omega)
  have ab : r.Decls.length = pre.length := by rw [ht]; simp
  rw [gE, if_neg (by simp; omega)]; rfl
 | d :: l, pre, n, q, M, ht, hq, hn => by
  obtain ⟨n, rfl⟩ := nS n (by simp at hn; omega)
  have ab : r.Decls.length = pre.length + (l.length + 1) := by rw [ht]; simp
  have hw : w6 (q + 1) = q + 1 := wS (by omega) (by omega)
  have ih := fun M => ch_L1 th m an r C hC j p1 v26 hz l (pre ++ [d]) n (q + 1) M (by rw [ht]; simp) (by simp; omega) (by simp at hn; omega)
  have hl := (Wf th an m d.Token n (by simp at hn; omega)).1
  rw [gE, if_pos (by simp; omega), hC.1, hC.2]
  unfold aS
  rw [kI ht hq]
  simp only [oB, hw, hl, (Jd n d.Prop_ _).1]
  rw [chd]
  unfold efd
  by_cases hs : d.Source = 1
  ·rw [if_pos (by simpa using hs), if_pos hs]
   cases hb : (Sa m d.Token th.Tokens).2 <;> cases hr : yZ d.Prop_ (Sa m d.Token th.Tokens).1
   all_goals simp [gd, ih, hr]
   all_goals rfl
  ·rw [if_neg (by simpa using hs), if_neg hs]
   exact ih _
def chs (th : bS) (m : cX) (s : bM) (mt : Int → Bool) : List Int → List (Int × bW) → List (Int × bW)
 | [], M => M
 | i :: l, M => chs th m s mt l (if mt i = true then chd th m ((idx s.Rules i).getD default).Decls M else M)
def Xe (th : bS) (m : cX) (s : bM) (mt : Int → Bool) (p : Int) (i : Int) : Option bW := if mt i = true then Pa th m p ((idx s.Rules i).getD default).Decls none else none
theorem Rr (th : bS) (m : cX) (s : bM) (mt : Int → Bool) (p : Int) : ∀ (l : List Int) (M : List (Int × bW)), (chs th m s mt l M).lookup p = l.foldl (fun a i => (Xe th m s mt p i).or a) (M.lookup p)
 | [], M => rfl
 | i :: l, M => by
  rw [chs, Rr th m s mt p l, List.foldl_cons]
  congr 1
  unfold Xe
  cases mt i
  ·simp
  ·simp only [if_true]
   rw [Qo, Sy]
theorem Qv {V : Type} (app : Int → Option V) (s : bM) : ∀ (R : List Int), R.reverse.foldl (fun a i => (app i).or a) none = (Qi app s R).1
 | [] => rfl
 | i :: l => by
  rw [List.reverse_cons, List.foldl_append, Qv app s l]
  unfold Qi
  rw [Ot]
  cases ha : app i with
  | none => simp [ha]
  | some v => simp [ha]
def Rd (t : bA) (st : List aO) (s : bM) (x : aU) (i : Int) : Bool := (kB 1100 ((idx s.Rules i).getD default) t st x.ID).getD false
theorem mtB_eq {t : bA} {v : aN} (h : cR t v) (hv : VG v) (st : List aO) (af : st.length ≤ 1000) (s : bM) (x : aU) (hx : x ∈ t.Nodes) {i : Int} {r : cM} (hr : idx s.Rules i = some r) (n : Nat) (hn : 1100 ≤ n) : lV n ⟨kV t.Nodes, tE t.Nodes, Ve st⟩ r x.ID = some (Rd t st s x i) ∧ kB n r t st x.ID = some (Rd t st s x i) := by
 obtain ⟨b, hb⟩ := Sc h hv st af r x hx
 unfold Rd
 rw [hr]
 have := (hb 1100 (Nat.le_refl _)).2
 rw [show ((some r).getD default) = r from rfl, this]
 exact hb n hn
theorem ch_L0 {t : bA} {v : aN} (h : cR t v) (hv : VG v) (st : List aO) (af : st.length ≤ 1000) {s : bM} (hs : jY s) (th : bS) (an : th.Tokens.length ≤ 1000) (m : cX) (x : aU) (hx : x ∈ t.Nodes) (ord : List Int) (ho : ∀ i, i ∈ ord → InR s i) (hz : ord.length ≤ 1000) (j : List (Int × bW) → Option (List (Int × bW))) : ∀ (l pre : List Int) (n : Nat) (q : Int) (M : List (Int × bW)), ord = pre ++ l → q = pre.length → l.length + 1200 < n →
  gB (jH.mk ⟨kV t.Nodes, tE t.Nodes, Ve st⟩ s.Rules ord th m) x.ID j n q M = j (chs th m s (Rd t st s x) l M)
 | [], pre, n, q, M, ht, hq, hn => by
  obtain ⟨n, rfl⟩ := nS n (by simp at hn; omega)
  have ab : ord.length = pre.length := by rw [ht]; simp
  rw [gB, if_neg (by simp; omega)]; rfl
 | i :: l, pre, n, q, M, ht, hq, hn => by
  obtain ⟨n, rfl⟩ := nS n (by simp at hn; omega)
  have ab : ord.length = pre.length + (l.length + 1) := by rw [ht]; simp
  have hw : w6 (q + 1) = q + 1 := wS (by omega) (by omega)
  have ih := fun M => ch_L0 h hv st af hs th an m x hx ord ho hz j l (pre ++ [i]) n (q + 1) M (by rw [ht]; simp) (by simp; omega) (by simp at hn; omega)
  have hi := ho i (by rw [ht]; simp)
  obtain ⟨r, hr, hrm⟩ := Ca s.Rules i hi.lo hi.hi
  have hm := (mtB_eq h hv st af s x hx hr n (by simp at hn; omega)).1
  rw [gB, if_pos (by simp; omega)]
  unfold aS
  show ((idx ord q).bind _) = _
  rw [kI ht hq]
  simp only [oB, hw, hr, hm]
  rw [chs]
  cases hb : Rd t st s x i
  ·simp only [Bool.not_false, if_true, fT, if_false]
   exact ih M
  ·simp only [Bool.not_true, fT, if_false, if_true]
   have hd := (hs.ok r hrm).len
   rw [ch_L1 th m an r _ ⟨rfl, rfl⟩ _ x.ID q (by omega) r.Decls [] n 0 M rfl rfl (by simp at hn; omega), hr]
   exact ih _
def inh (k : Nat) : Bool := (iI 0 (k : Int)).getD false
def Yg (k : Nat) : Int := ((idx bE (k : Int)).getD default).start
def zer : aB := aB.mk 0 0 0 0 0 0 0 0 0 0 0 0 0 0 0 0 0 0 0 0 0 0
def inA : aB := aB.mk 0 (-1 : Int) 16 0 0 1 3 0 0 0 0 1 (-1 : Int) 0 1048576 0 1048576 0 0 0 0 0
theorem Tu (k : Nat) (hk : k < 22) (n : Nat) : iI n (k : Int) = some (inh k) ∧ jQ n (k : Int) = some (inh k) ∧ (∃ e, idx bE (k : Int) = some e ∧ e.start = Yg k) ∧ idx (aB.toL inA) (k : Int) = some (Yg k) ∧ yZ (k : Int) (Yg k) = true := by
 have key : ∀ k : Nat, iI n (k : Int) = some (inh k) → jQ n (k : Int) = some (inh k) → (idx bE (k : Int)).isSome = true → idx (aB.toL inA) (k : Int) = some (Yg k) → yZ (k : Int) (Yg k) = true → iI n (k : Int) = some (inh k) ∧ jQ n (k : Int) = some (inh k) ∧ (∃ e, idx bE (k : Int) = some e ∧ e.start = Yg k) ∧ idx (aB.toL inA) (k : Int) = some (Yg k) ∧ yZ (k : Int) (Yg k) = true := by
  intro k h1 h2 h3 h4 h5
  refine ⟨h1, h2, ?_, h4, h5⟩
  unfold Yg
  cases h : idx bE (k : Int) with
  | none => rw [h] at h3; cases h3
  | some e => exact ⟨e, rfl, rfl⟩
 rcases k with _ | _ | _ | _ | _ | _ | _ | _ | _ | _ | _ | _ | _ | _ | _ | _ | _ | _ | _ | _ | _ | _ | k
 iterate 22 exact key _ (by kernel_rfl) (by kernel_rfl) (by kernel_rfl) (by kernel_rfl) (by kernel_rfl)
 omega
def gt (a : aB) (k : Nat) : Int := (aB.toL a)[k]?.getD 0
theorem Zq (a : aB) (k : Nat) (hk : k < 22) : (aB.toL a)[k]? = some (gt a k) := by
 unfold gt
 rw [List.getElem?_eq_getElem (by show k < 22; exact hk)]
 rfl
def Hy (root : Bool) (up : aB) (k : Nat) : Option bW → Int × Bool
 | none => if (inh k && !root) = true then (gt up k, true) else (Yg k, false)
 | some d => if (d.Source == 0 || d.Source == 1) = true then (d.N, false) else if (d.Source == 2 && !root) = true then (gt up k, true) else (Yg k, false)
def vF (root : Bool) (m : cX) (up : aB) (k : Nat) (o : Option bW) : Int := if (((k : Int) == 2) && !(Hy root up k o).2) = true then siz m (Hy root up k o).1 else (Hy root up k o).1
theorem inb_k {k : Nat} (hk : k < 22) : rL (k : Int) 22 = some k := by
 unfold rL; rw [if_pos ⟨by omega, by omega⟩]; simp
theorem set2 (a : aB) (x y : Int) : aB.set (aB.set a 2 x) 2 y = aB.set a 2 y := by kernel_rfl
theorem get2 (a : aB) (x : Int) : (aB.toL (aB.set a 2 x))[2]? = some x := by kernel_rfl
theorem sty_step (M : List (Int × bW)) (C : jH) (root : Bool) (up : aB) (j : aB → Option aB) (n k : Nat) (hk : k < 22) (a : aB) : eK M C root up j (n + 1) (k : Int) a = eK M C root up j n ((k + 1 : Nat) : Int) (aB.set a k (vF root C.m up k (M.lookup (k : Int)))) := by
 obtain ⟨h1, _, ⟨e, h3, h3'⟩, _⟩ := Tu k hk n
 have hw : w6 ((k : Int) + 1) = ((k + 1 : Nat) : Int) := by rw [wS (by omega) (by omega)]; omega
 rw [eK, if_pos (by simp; omega)]
 unfold aS
 simp only [oB, hw, inb_k hk, Zq up k hk, h1, h3, h3', cZ, iG]
 unfold vF
 cases ho : M.lookup (k : Int) with
 | none =>
  simp only [Option.getD_none, Option.isSome_none, Bool.false_and, Bool.not_false, Bool.true_and, gd, List.all_cons, List.all_nil, id, Bool.and_true, if_true, oB, Bool.false_or, Hy]
  by_cases hi : (inh k && !root) = true
  ·simp only [hi, if_true, Bool.not_true, Bool.and_false, fT, if_false]
  ·rw [Bool.not_eq_true] at hi
   simp only [hi, fT, if_false, Bool.not_false, Bool.and_true]
   by_cases h2 : (k : Int) = 2
   ·obtain rfl : k = 2 := by omega
    simp only [beq_self_eq_true, if_true, get2, oB, (Oh C.m _ n).1, set2, show ((2 : Nat) : Int) = 2 from rfl]
   ·have : ((k : Int) == 2) = false := by simpa using h2
    simp only [this, fT, if_false]
 | some d =>
  simp only [Option.getD_some, Option.isSome_some, Bool.true_and, Bool.not_true, Bool.false_and, Bool.or_false, Hy]
  have hg : ∀ b : Bool, (gd [b, false] (some (inh k))) = some default := fun b => by cases b <;> rfl
  simp only [hg, oB]
  by_cases hs : (d.Source == 0 || d.Source == 1) = true
  ·have hs2 : (d.Source == 2) = false := by
    simp only [Bool.or_eq_true, beq_iff_eq] at hs
    rw [beq_eq_false_iff_ne]; omega
   simp only [hs2, Bool.false_and, fT, if_false, hs, if_true, Bool.not_false, Bool.and_true]
   by_cases h2 : (k : Int) = 2
   ·obtain rfl : k = 2 := by omega
    simp only [beq_self_eq_true, if_true, get2, oB, (Oh C.m _ n).1, set2, show ((2 : Nat) : Int) = 2 from rfl]
   ·have : ((k : Int) == 2) = false := by simpa using h2
    simp only [this, fT, if_false]
  ·rw [Bool.not_eq_true] at hs
   by_cases hi : (d.Source == 2 && !root) = true
   ·simp only [hi, hs, if_true, Bool.not_true, Bool.and_false, fT, if_false]
   ·rw [Bool.not_eq_true] at hi
    simp only [hi, hs, fT, if_false, Bool.not_false, Bool.and_true]
    by_cases h2 : (k : Int) = 2
    ·obtain rfl : k = 2 := by omega
     simp only [beq_self_eq_true, if_true, get2, oB, (Oh C.m _ n).1, set2, show ((2 : Nat) : Int) = 2 from rfl]
    ·have : ((k : Int) == 2) = false := by simpa using h2
     simp only [this, fT, if_false]
def fil (f : Nat → Int) : Nat → Nat → aB → aB
 | 0, _, a => a
 | m + 1, k, a => fil f m (k + 1) (aB.set a k (f k))
theorem Pz (M : List (Int × bW)) (C : jH) (root : Bool) (up : aB) (j : aB → Option aB) : ∀ (m k n : Nat) (a : aB), k + m = 22 → m < n → eK M C root up j n (k : Int) a = j (fil (fun k => vF root C.m up k (M.lookup (k : Int))) m k a)
 | 0, k, n, a, hk, hn => by
  obtain ⟨n, rfl⟩ := nS n (by omega)
  rw [eK, if_neg (by simp; omega)]; rfl
 | m + 1, k, n, a, hk, hn => by
  obtain ⟨n, rfl⟩ := nS n (by omega)
  rw [sty_step M C root up j n k (by omega) a, Pz M C root up j m (k + 1) n _ (by omega) (by omega), fil]
def iz (k : Nat) : List Int := oV 0 k
def Be (s : bM) : List Int := uQ s [] (iz s.Rules.length)
def styF (t : bA) (st : List aO) (s : bM) (th : bS) (m : cX) (x : aU) (up : aB) (root : Bool) : aB :=
 fil (fun k => vF root m up k (Qi (Xe th m s (Rd t st s x) (k : Int)) s (Be s)).1) 22 0 zer
theorem iz_in {s : bM} {i : Int} (h : i ∈ iz s.Rules.length) : InR s i := by
 have := Bd.1 h
 exact ⟨by omega, by omega⟩
theorem ordR_in {s : bM} {i : Int} (h : i ∈ Be s) : InR s i := by
 rcases Qs h with h | h
 ·cases h
 ·exact iz_in h
theorem Qj (s : bM) : ∀ (l R : List Int), (uQ s R l).length = R.length + l.length
 | [], R => rfl
 | x :: l, R => by rw [uQ, Qj s l, Hk, List.length_cons]; omega
theorem style_eq {t : bA} {v : aN} (h : cR t v) (hv : VG v) (st : List aO) (af : st.length ≤ 1000) {s : bM} (hs : jY s) (th : bS) (an : th.Tokens.length ≤ 1000) (m : cX) (x : aU) (hx : x ∈ t.Nodes) (up : aB) (root : Bool) (n : Nat) (hn : 3000 ≤ n) :
  nY n (jH.mk ⟨kV t.Nodes, tE t.Nodes, Ve st⟩ s.Rules (Be s).reverse th m) x.ID up root = some (styF t st s th m x up root) := by
 have hl : (Be s).length ≤ 6 := by
  have h1 := Qj s (iz s.Rules.length) []
  have h2 := hs.len
  unfold Be
  rw [h1]
  unfold iz
  rw [jX]
  simp; omega
 have hc : mU n (jH.mk ⟨kV t.Nodes, tE t.Nodes, Ve st⟩ s.Rules (Be s).reverse th m) x.ID = some (chs th m s (Rd t st s x) (Be s).reverse []) := by
  unfold mU aS
  exact ch_L0 h hv st af hs th an m x hx (Be s).reverse (fun i hi => ordR_in (by simpa using hi)) (by simp; omega) _ (Be s).reverse [] n 0 [] rfl rfl (by simp; omega)
 unfold nY aS
 rw [hc]
 simp only [oB]
 refine (Pz _ _ root up _ 22 0 n zer rfl (by omega)).trans ?_
 unfold styF
 congr 2
 funext k
 rw [Rr]
 show vF root m up k (List.foldl _ none _) = _
 rw [Qv]
end Go.Proofs.YtojkihhnioeggaaGreatDoor.S
