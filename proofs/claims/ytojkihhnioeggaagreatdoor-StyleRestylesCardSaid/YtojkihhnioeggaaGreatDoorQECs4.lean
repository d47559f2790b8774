import Derived.Test.YtojkihhnioeggaaGreatDoorQECs3
import Derived.WalkLawsBesides
import Derived.Deep.QuietTactic
import Derived.BigQuiet
import Derived.BigRegion
import Derived.Lib.Hide
import Derived.Deep.RegionWith
set_option linter.unusedSimpArgs false
set_option linter.all false
set_option linter.unusedVariables false
namespace Go.Proofs.YtojkihhnioeggaaGreatDoor.S
open Go Go.Bm
def cst (root : Bool) (up : aB) (k : Nat) (o : Option bW) (w W : Int × Int) (e : Option bW) : Option bW × (Int × Int) := match e with | none => (o, w) | some d => (some d, W)
theorem cp_L2 (th : bS) (m : cX) (an : th.Tokens.length ≤ 1000) (r : cM) (root : Bool) (up : aB) (k : Nat) (hk : k < 22) (W : Int × Int) (j : Int → Bool → Int → Int → Option aB) (p4 : List aO) (p5 v173 : Int) (p0 : bM) (p3 : bA) (a : aB) (hz : r.Decls.length ≤ 1000) (o : Option bW) (w : Int × Int) : ∀ (l pre : List bW) (n : Nat) (q : Int) (e : Option bW), r.Decls = pre ++ l → q = pre.length → l.length + 1010 < n →
  fL r (k : Int) W th m root up j p4 p5 v173 p0 p3 a n (Hy root up k (cst root up k o w W e).1).1 (Hy root up k (cst root up k o w W e).1).2 (cst root up k o w W e).2.1 (cst root up k o w W e).2.2 q =
   j (Hy root up k (cst root up k o w W (Pa th m (k : Int) l e)).1).1 (Hy root up k (cst root up k o w W (Pa th m (k : Int) l e)).1).2 (cst root up k o w W (Pa th m (k : Int) l e)).2.1 (cst root up k o w W (Pa th m (k : Int) l e)).2.2
 | [], pre, n, q, e, ht, hq, hn => by
  obtain ⟨n, rfl⟩ := nS n (by simp at hn; omega)
  have ab : r.Decls.length = pre.length := by rw [ht]; simp
  rw [fL, if_neg (by simp; omega)]; rfl
 | d :: l, pre, n, q, e, ht, hq, hn => by
  obtain ⟨n, rfl⟩ := nS n (by simp at hn; omega)
  have ab : r.Decls.length = pre.length + (l.length + 1) := by rw [ht]; simp
  have hw : w6 (q + 1) = q + 1 := wS (by omega) (by omega)
  have ih := fun e => cp_L2 th m an r root up k hk W j p4 p5 v173 p0 p3 a hz o w l (pre ++ [d]) n (q + 1) e (by rw [ht]; simp) (by simp; omega) (by simp at hn; omega)
  have hl := (Wf th an m d.Token n (by simp at hn; omega)).2
  have hin := (Tu k hk n).2.2.2.1
  rw [fL, if_pos (by simp; omega), Pa]
  unfold aS
  rw [kI ht hq]
  simp only [oB, hw]
  by_cases hp : d.Prop_ = (k : Int)
  ·rw [if_neg (by simpa using hp), if_pos hp]
   unfold lY
   simp only [oB]
   rw [show aB.mk 0 (-1 : Int) 16 0 0 1 3 0 0 0 0 1 (-1 : Int) 0 1048576 0 1048576 0 0 0 0 0 = inA from rfl, hin]
   simp only [oB, hl, (Jd n _ _).2, inb_k hk, Zq up k hk]
   have hsome : ∀ d' : bW, fL r (k : Int) W th m root up j p4 p5 v173 p0 p3 a n (Hy root up k (some d')).1 (Hy root up k (some d')).2 W.1 W.2 (q + 1) = _ := fun d' => ih (some d')
   unfold efd
   by_cases h1 : d.Source = 1
   ·have h0 : (d.Source == 0) = false := by rw [beq_eq_false_iff_ne]; omega
    rw [if_pos h1, h0]
    simp only [beq_iff_eq.2 h1, fT, if_false, if_true, ← hp]
    cases hb : (Sa m d.Token th.Tokens).2 <;> cases hr : yZ d.Prop_ (Sa m d.Token th.Tokens).1
    ·simp only [Bool.not_false, Bool.not_true, nP, fT, if_false, oB, Bool.true_or, if_true, Bool.and_self]
     rw [hp]; exact ih e
    ·simp only [Bool.not_false, Bool.not_true, nP, fT, if_false, oB, Bool.true_or, if_true, Bool.false_and]
     rw [hp]; exact ih e
    ·simp only [Bool.not_false, Bool.not_true, nP, fT, if_false, oB, Bool.or_true, if_true, Bool.and_false]
     rw [hp]; exact ih e
    ·simp only [Bool.not_false, Bool.not_true, nP, fT, if_false, oB, Bool.or_self, if_true, Bool.and_self]
     rw [hp]
     have := hsome (bW.mk (k : Int) d.Source (Sa m d.Token th.Tokens).1 d.Token)
     have e1 : Hy root up k (some (bW.mk (k : Int) d.Source (Sa m d.Token th.Tokens).1 d.Token)) = ((Sa m d.Token th.Tokens).1, false) := by
      unfold Hy; simp [h1]
     rw [e1] at this
     exact this
   ·rw [if_neg h1]
    have := hsome d
    have h1' : (d.Source == 1) = false := by rw [beq_eq_false_iff_ne]; exact h1
    simp only [h1', fT, if_false]
    unfold Hy at this
    simp only [h1', Bool.or_false] at this
    by_cases h0 : (d.Source == 0) = true
    ·rw [if_pos h0]
     rw [if_pos h0] at this
     exact this
    ·rw [Bool.not_eq_true] at h0
     simp only [h0, fT, if_false] at this ⊢
     by_cases h2 : (d.Source == 2) = true
     ·simp only [h2, Bool.true_and, if_true] at this ⊢
      cases root
      ·simp only [Bool.not_false, if_true] at this ⊢
       exact this
      ·simp only [Bool.not_true, fT, if_false] at this ⊢
       exact this
     ·rw [Bool.not_eq_true] at h2
      simp only [h2, Bool.false_and, fT, if_false] at this ⊢
      exact this
  ·rw [if_pos (by simpa using hp), if_neg hp]
   exact ih e
theorem cp_L1 {t : bA} {v : aN} (h : cR t v) (hv : VG v) (st : List aO) (af : st.length ≤ 1000) {s : bM} (hs : jY s) (th : bS) (an : th.Tokens.length ≤ 1000) (m : cX) (x : aU) (hx : x ∈ t.Nodes) (root : Bool) (up : aB) (k : Nat) (hk : k < 22) (a : aB) (j : Int → Bool → Option aB) :
  ∀ (d q n : Nat), q + d = s.Rules.length → d + 1200 < n →
  dF s t st x.ID (k : Int) th m root up a j n (Hy root up k (Qi (Xe th m s (Rd t st s x) (k : Int)) s (uQ s [] (iz q))).1).1 (Hy root up k (Qi (Xe th m s (Rd t st s x) (k : Int)) s (uQ s [] (iz q))).1).2 (Qi (Xe th m s (Rd t st s x) (k : Int)) s (uQ s [] (iz q))).2.1 (Qi (Xe th m s (Rd t st s x) (k : Int)) s (uQ s [] (iz q))).2.2 (q : Int) =
   j (Hy root up k (Qi (Xe th m s (Rd t st s x) (k : Int)) s (Be s)).1).1 (Hy root up k (Qi (Xe th m s (Rd t st s x) (k : Int)) s (Be s)).1).2
 | 0, q, n, hq, hn => by
  obtain ⟨n, rfl⟩ := nS n (by omega)
  obtain rfl : q = s.Rules.length := by omega
  rw [dF, if_neg (by simp)]; rfl
 | d + 1, q, n, hq, hn => by
  obtain ⟨n, rfl⟩ := nS n (by omega)
  have hsl := hs.len
  have ae : q < s.Rules.length := by omega
  have hw : w6 ((q : Int) + 1) = ((q + 1 : Nat) : Int) := by rw [wS (by omega) (by omega)]; omega
  have ih := cp_L1 h hv st af hs th an m x hx root up k hk a j d (q + 1) n (by omega) (by omega)
  have hr : idx s.Rules (q : Int) = some s.Rules[q] := dR ae
  have hrm : s.Rules[q] ∈ s.Rules := List.getElem_mem ae
  obtain ⟨_, w2, w3⟩ := Tm s.Rules[q] (hs.ok _ hrm).st n (by omega)
  have hm := (mtB_eq h hv st af s x hx hr n (by omega)).2
  have hwof : Dv s (q : Int) = Ou s.Rules[q] := by unfold Dv; rw [hr]; rfl
  have hord : uQ s [] (iz (q + 1)) = vI s (q : Int) (uQ s [] (iz q)) := by
   unfold iz
   rw [yK]
   have : oV (0 + (q : Int)) 1 = [(q : Int)] := by simp [oV]
   rw [this, Lr]
  have hD : Qf s (uQ s [] (iz q)) := Rg s _ _ trivial
  rw [hord, bsv_ins _ (by rw [hwof]; exact w3) hD, hwof] at ih
  generalize hB : Qi (Xe th m s (Rd t st s x) (k : Int)) s (uQ s [] (iz q)) = B at ih ⊢
  rw [dF, if_pos (by simp; omega), hr]
  unfold aS
  simp only [oB, w2, hm, nP, hw]
  have hfold : ((decide ((Ou s.Rules[q]).1 < B.2.1)) || (((Ou s.Rules[q]).1 == B.2.1) && (decide ((Ou s.Rules[q]).2 < B.2.2)))) = Kg (Ou s.Rules[q]) B.2 := rfl
  rw [hfold]
  cases hl : Kg (Ou s.Rules[q]) B.2
  ·rw [hl] at ih
   simp only [Bool.not_false, if_true, oB, Bool.false_or, fT, if_false] at ih ⊢
   unfold Xe at ih
   rw [hr] at ih
   cases hb : Rd t st s x (q : Int)
   ·rw [hb] at ih
    simp only [Bool.not_false, if_true, fT, if_false] at ih ⊢
    exact ih
   ·rw [hb] at ih
    simp only [Bool.not_true, fT, if_false, if_true] at ih ⊢
    have hd := (hs.ok _ hrm).len
    have h2 := cp_L2 th m an s.Rules[q] root up k hk (Ou s.Rules[q]) (fun v218 v219 v220 v221 => dF s t st x.ID (k : Int) th m root up a j n v218 v219 v220 v221 ((q + 1 : Nat) : Int)) st x.ID (q : Int) s t a (by omega) B.1 B.2 s.Rules[q].Decls [] n 0 none rfl rfl (by omega)
    refine Eq.trans h2 ?_
    simp only [Option.getD_some] at ih
    cases he : Pa th m (k : Int) s.Rules[q].Decls none with
    | none => rw [he] at ih; exact ih
    | some e => rw [he] at ih; exact ih
  ·rw [hl] at ih
   simp only [Bool.not_true, fT, if_false, oB, Bool.true_or, if_true] at ih ⊢
   exact ih
theorem cp_step {t : bA} {v : aN} (h : cR t v) (hv : VG v) (st : List aO) (af : st.length ≤ 1000) {s : bM} (hs : jY s) (th : bS) (an : th.Tokens.length ≤ 1000) (m : cX) (x : aU) (hx : x ∈ t.Nodes) (root : Bool) (up : aB) (k : Nat) (hk : k < 22) (a : aB) (j : aB → Option aB) (n : Nat) (hn : 1300 ≤ n) :
  eI m s t st x.ID th root up j (n + 1) (k : Int) a = eI m s t st x.ID th root up j n ((k + 1 : Nat) : Int) (aB.set a k (vF root m up k (Qi (Xe th m s (Rd t st s x) (k : Int)) s (Be s)).1)) := by
 obtain ⟨_, h1, _, h4, _⟩ := Tu k hk n
 have hw : w6 ((k : Int) + 1) = ((k + 1 : Nat) : Int) := by rw [wS (by omega) (by omega)]; omega
 have hsl := hs.len
 have key : ∀ j', dF s t st x.ID (k : Int) th m root up a j' n (Hy root up k none).1 (Hy root up k none).2 (-1) (-1) 0 = _ := fun j' => cp_L1 h hv st af hs th an m x hx root up k hk a j' s.Rules.length 0 n (by omega) (by omega)
 rw [eI, if_pos (by simp; omega)]
 unfold aS lY
 simp only [oB]
 rw [show aB.mk 0 (-1 : Int) 16 0 0 1 3 0 0 0 0 1 (-1 : Int) 0 1048576 0 1048576 0 0 0 0 0 = inA from rfl, h4]
 simp only [oB, h1, inb_k hk, Zq up k hk, hw]
 have e1 : ∀ j', (if (inh k && !root) = true then dF s t st x.ID (k : Int) th m root up a j' n (gt up k) true (-1) (-1) 0 else dF s t st x.ID (k : Int) th m root up a j' n (Yg k) false (-1) (-1) 0) = dF s t st x.ID (k : Int) th m root up a j' n (Hy root up k none).1 (Hy root up k none).2 (-1) (-1) 0 := fun j' => by
  unfold Hy
  by_cases hc : (inh k && !root) = true
  ·rw [if_pos hc, if_pos hc]
  ·rw [if_neg hc, if_neg hc]
 rw [e1, key]
 unfold vF
 split
 ·rename_i hc
  rw [(Oh m _ n).2]
  rfl
 ·rfl
theorem Vz {t : bA} {v : aN} (h : cR t v) (hv : VG v) (st : List aO) (af : st.length ≤ 1000) {s : bM} (hs : jY s) (th : bS) (an : th.Tokens.length ≤ 1000) (m : cX) (x : aU) (hx : x ∈ t.Nodes) (root : Bool) (up : aB) (j : aB → Option aB) : ∀ (d k n : Nat) (a : aB), k + d = 22 → d + 1300 < n →
  eI m s t st x.ID th root up j n (k : Int) a = j (fil (fun k => vF root m up k (Qi (Xe th m s (Rd t st s x) (k : Int)) s (Be s)).1) d k a)
 | 0, k, n, a, hk, hn => by
  obtain ⟨n, rfl⟩ := nS n (by omega)
  rw [eI, if_neg (by simp; omega)]; rfl
 | d + 1, k, n, a, hk, hn => by
  obtain ⟨n, rfl⟩ := nS n (by omega)
  rw [cp_step h hv st af hs th an m x hx root up k (by omega) a j n (by omega), Vz h hv st af hs th an m x hx root up j d (k + 1) n _ (by omega) (by omega), fil]
theorem Sh {t : bA} {v : aN} (h : cR t v) (hv : VG v) (st : List aO) (af : st.length ≤ 1000) {s : bM} (hs : jY s) (th : bS) (an : th.Tokens.length ≤ 1000) (m : cX) (x : aU) (hx : x ∈ t.Nodes) (up : aB) (root : Bool) (n : Nat) (hn : 3000 ≤ n) :
  nT n s th m t st x.ID up root = some (styF t st s th m x up root) := by
 unfold nT aS
 exact (Vz h hv st af hs th an m x hx root up _ 22 0 n zer rfl (by omega)).trans rfl
end Go.Proofs.YtojkihhnioeggaaGreatDoor.S
