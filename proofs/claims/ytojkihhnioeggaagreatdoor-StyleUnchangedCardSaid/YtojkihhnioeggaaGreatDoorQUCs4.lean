import Derived.Test.YtojkihhnioeggaaGreatDoorQUCs3
import Derived.WalkKit
import Derived.WalkSpells
import Derived.WalkLawsBesides
import Derived.Deep.QuietTactic
import Derived.BigQuiet
import Derived.BigRegion
import Derived.Lib.Hide
import Derived.Deep.RegionWith
set_option linter.unusedSimpArgs false
set_option linter.unusedVariables false
set_option linter.unusedSimpArgs false
set_option linter.unusedVariables false
namespace Go.Proofs.YtojkihhnioeggaaGreatDoor.S
open Go Go.Bm
def cst (root : Bool) (up : aA) (k : Nat) (o : Option bM) (w W : Int × Int) (e : Option bM) : Option bM × (Int × Int) := match e with | none => (o, w) | some d => (some d, W)
theorem aBq (th : bS) (m : cY) (hth : th.Tokens.length ≤ 1000) (r : bY) (root : Bool) (up : aA) (k : Nat) (hk : k < 22) (W : Int × Int) (j : Int → Bool → Int → Int → Option aA) (p4 : List aR) (p5 v173 : Int) (p0 : bH) (p3 : bA) (a : aA) (hz : r.Decls.length ≤ 1000) (o : Option bM) (w : Int × Int) : ∀ (l pre : List bM) (n : Nat) (q : Int) (e : Option bM), r.Decls = pre ++ l → q = pre.length → l.length + 1010 < n →
  iC r (k : Int) W th m root up j p4 p5 v173 p0 p3 a n (Es root up k (cst root up k o w W e).1).1 (Es root up k (cst root up k o w W e).1).2 (cst root up k o w W e).2.1 (cst root up k o w W e).2.2 q =
   j (Es root up k (cst root up k o w W (Lk th m (k : Int) l e)).1).1 (Es root up k (cst root up k o w W (Lk th m (k : Int) l e)).1).2 (cst root up k o w W (Lk th m (k : Int) l e)).2.1 (cst root up k o w W (Lk th m (k : Int) l e)).2.2
 | [], pre, n, q, e, ht, hq, hn => by
  obtain ⟨n, rfl⟩ : ∃ m, n = m + 1 := ⟨n - 1, by simp at hn; omega⟩
  have hlen : r.Decls.length = pre.length := by rw [ht]; simp
  rw [iC, if_neg (by simp; omega)]; rfl
 | d :: l, pre, n, q, e, ht, hq, hn => by
  obtain ⟨n, rfl⟩ : ∃ m, n = m + 1 := ⟨n - 1, by simp at hn; omega⟩
  have hlen : r.Decls.length = pre.length + (l.length + 1) := by rw [ht]; simp
  have hw : IntKind.wrap .i64 (q + 1) = q + 1 := Go.Bm.aT (by omega) (by omega)
  have ih := fun e => aBq th m hth r root up k hk W j p4 p5 v173 p0 p3 a hz o w l (pre ++ [d]) n (q + 1) e (by rw [ht]; simp) (by simp; omega) (by simp at hn; omega)
  have hl := (Sl th hth m d.Token n (by simp at hn; omega)).2
  have hin := (Qj k hk n).2.2.2.1
  rw [iC, if_pos (by simp; omega), Lk]
  unfold aS
  rw [jX ht hq]
  simp only [Option.bind_some, hw]
  by_cases hp : d.Prop_ = (k : Int)
  ·rw [if_neg (by simpa using hp), if_pos hp]
   unfold oO
   simp only [Option.bind_some]
   rw [show aA.mk 0 (-1 : Int) 16 0 0 1 3 0 0 0 0 1 (-1 : Int) 0 1048576 0 1048576 0 0 0 0 0 = inA from rfl, hin]
   simp only [Option.bind_some, hl, (Fw n _ _).2, Wt hk, Wa up k hk]
   have hsome : ∀ d' : bM, iC r (k : Int) W th m root up j p4 p5 v173 p0 p3 a n (Es root up k (some d')).1 (Es root up k (some d')).2 W.1 W.2 (q + 1) = _ := fun d' => ih (some d')
   unfold efd
   by_cases h1 : d.Source = 1
   ·have h0 : (d.Source == 0) = false := by rw [beq_eq_false_iff_ne]; omega
    rw [if_pos h1, h0]
    simp only [beq_iff_eq.2 h1, Bool.false_eq_true, if_false, if_true, ← hp]
    cases hb : (On m d.Token th.Tokens).2 <;> cases hr : wX d.Prop_ (On m d.Token th.Tokens).1
    ·simp only [Bool.not_false, Bool.not_true, rS, Bool.false_eq_true, if_false, Option.bind_some, Bool.true_or, if_true, Bool.and_self]
     rw [hp]; exact ih e
    ·simp only [Bool.not_false, Bool.not_true, rS, Bool.false_eq_true, if_false, Option.bind_some, Bool.true_or, if_true, Bool.false_and]
     rw [hp]; exact ih e
    ·simp only [Bool.not_false, Bool.not_true, rS, Bool.false_eq_true, if_false, Option.bind_some, Bool.or_true, if_true, Bool.and_false]
     rw [hp]; exact ih e
    ·simp only [Bool.not_false, Bool.not_true, rS, Bool.false_eq_true, if_false, Option.bind_some, Bool.or_self, if_true, Bool.and_self]
     rw [hp]
     have := hsome (bM.mk (k : Int) d.Source (On m d.Token th.Tokens).1 d.Token)
     have e1 : Es root up k (some (bM.mk (k : Int) d.Source (On m d.Token th.Tokens).1 d.Token)) = ((On m d.Token th.Tokens).1, false) := by
      unfold Es; simp [h1]
     rw [e1] at this
     exact this
   ·rw [if_neg h1]
    have := hsome d
    have h1' : (d.Source == 1) = false := by rw [beq_eq_false_iff_ne]; exact h1
    simp only [h1', Bool.false_eq_true, if_false]
    unfold Es at this
    simp only [h1', Bool.or_false] at this
    by_cases h0 : (d.Source == 0) = true
    ·rw [if_pos h0]
     rw [if_pos h0] at this
     exact this
    ·rw [Bool.not_eq_true] at h0
     simp only [h0, Bool.false_eq_true, if_false] at this ⊢
     by_cases h2 : (d.Source == 2) = true
     ·simp only [h2, Bool.true_and, if_true] at this ⊢
      cases root
      ·simp only [Bool.not_false, if_true] at this ⊢
       exact this
      ·simp only [Bool.not_true, Bool.false_eq_true, if_false] at this ⊢
       exact this
     ·rw [Bool.not_eq_true] at h2
      simp only [h2, Bool.false_and, Bool.false_eq_true, if_false] at this ⊢
      exact this
  ·rw [if_pos (by simpa using hp), if_neg hp]
   exact ih e
theorem aBm {t : bA} {v : aJ} (h : cM t v) (hv : nZ 4 v) (st : List aR) (hst : st.length ≤ 1000) {s : bH} (hs : iX s) (th : bS) (hth : th.Tokens.length ≤ 1000) (m : cY) (x : aP) (hx : x ∈ t.Nodes) (root : Bool) (up : aA) (k : Nat) (hk : k < 22) (a : aA) (j : Int → Bool → Option aA) :
  ∀ (d q n : Nat), q + d = s.Rules.length → d + 1200 < n →
  dJ s t st x.ID (k : Int) th m root up a j n (Es root up k (Mv (Tk th m s (Nq t st s x) (k : Int)) s (sQ s [] (iz q))).1).1 (Es root up k (Mv (Tk th m s (Nq t st s x) (k : Int)) s (sQ s [] (iz q))).1).2 (Mv (Tk th m s (Nq t st s x) (k : Int)) s (sQ s [] (iz q))).2.1 (Mv (Tk th m s (Nq t st s x) (k : Int)) s (sQ s [] (iz q))).2.2 (q : Int) =
   j (Es root up k (Mv (Tk th m s (Nq t st s x) (k : Int)) s (yS s)).1).1 (Es root up k (Mv (Tk th m s (Nq t st s x) (k : Int)) s (yS s)).1).2
 | 0, q, n, hq, hn => by
  obtain ⟨n, rfl⟩ : ∃ m, n = m + 1 := ⟨n - 1, by omega⟩
  obtain rfl : q = s.Rules.length := by omega
  rw [dJ, if_neg (by simp)]; rfl
 | d + 1, q, n, hq, hn => by
  obtain ⟨n, rfl⟩ : ∃ m, n = m + 1 := ⟨n - 1, by omega⟩
  have hsl := hs.len
  have hlt : q < s.Rules.length := by omega
  have hw : IntKind.wrap .i64 ((q : Int) + 1) = ((q + 1 : Nat) : Int) := by rw [Go.Bm.aT (by omega) (by omega)]; omega
  have ih := aBm h hv st hst hs th hth m x hx root up k hk a j d (q + 1) n (by omega) (by omega)
  have hr : idx s.Rules (q : Int) = some s.Rules[q] := dU hlt
  have hrm : s.Rules[q] ∈ s.Rules := List.getElem_mem hlt
  obtain ⟨_, w2, w3⟩ := Qc s.Rules[q] (hs.ok _ hrm).st n (by omega)
  have hm := (Yw h hv st hst s x hx hr n (by omega)).2
  have hwof : Ax s (q : Int) = Lf s.Rules[q] := by unfold Ax; rw [hr]; rfl
  have hord : sQ s [] (iz (q + 1)) = tK s (q : Int) (sQ s [] (iz q)) := by
   unfold iz
   rw [wH]
   have : nV (0 + (q : Int)) 1 = [(q : Int)] := by simp [nV]
   rw [this, Ik]
  have hD : Mr s (sQ s [] (iz q)) := Nt s _ _ trivial
  rw [hord, aA2 _ (by rw [hwof]; exact w3) hD, hwof] at ih
  generalize hB : Mv (Tk th m s (Nq t st s x) (k : Int)) s (sQ s [] (iz q)) = B at ih ⊢
  rw [dJ, if_pos (by simp; omega), hr]
  unfold aS
  simp only [Option.bind_some, w2, hm, rS, hw]
  have hfold : ((decide ((Lf s.Rules[q]).1 < B.2.1)) || (((Lf s.Rules[q]).1 == B.2.1) && (decide ((Lf s.Rules[q]).2 < B.2.2)))) = Hc (Lf s.Rules[q]) B.2 := rfl
  rw [hfold]
  cases hl : Hc (Lf s.Rules[q]) B.2
  ·rw [hl] at ih
   simp only [Bool.not_false, if_true, Option.bind_some, Bool.false_or, Bool.false_eq_true, if_false] at ih ⊢
   unfold Tk at ih
   rw [hr] at ih
   cases hb : Nq t st s x (q : Int)
   ·rw [hb] at ih
    simp only [Bool.not_false, if_true, Bool.false_eq_true, if_false] at ih ⊢
    exact ih
   ·rw [hb] at ih
    simp only [Bool.not_true, Bool.false_eq_true, if_false, if_true] at ih ⊢
    have hd := (hs.ok _ hrm).len
    have h2 := aBq th m hth s.Rules[q] root up k hk (Lf s.Rules[q]) (fun v218 v219 v220 v221 => dJ s t st x.ID (k : Int) th m root up a j n v218 v219 v220 v221 ((q + 1 : Nat) : Int)) st x.ID (q : Int) s t a (by omega) B.1 B.2 s.Rules[q].Decls [] n 0 none rfl rfl (by omega)
    refine Eq.trans h2 ?_
    simp only [Option.getD_some] at ih
    cases he : Lk th m (k : Int) s.Rules[q].Decls none with
    | none => rw [he] at ih; exact ih
    | some e => rw [he] at ih; exact ih
  ·rw [hl] at ih
   simp only [Bool.not_true, Bool.false_eq_true, if_false, Option.bind_some, Bool.true_or, if_true] at ih ⊢
   exact ih
theorem aAc {t : bA} {v : aJ} (h : cM t v) (hv : nZ 4 v) (st : List aR) (hst : st.length ≤ 1000) {s : bH} (hs : iX s) (th : bS) (hth : th.Tokens.length ≤ 1000) (m : cY) (x : aP) (hx : x ∈ t.Nodes) (root : Bool) (up : aA) (k : Nat) (hk : k < 22) (a : aA) (j : aA → Option aA) (n : Nat) (hn : 1300 ≤ n) :
  fV m s t st x.ID th root up j (n + 1) (k : Int) a = fV m s t st x.ID th root up j n ((k + 1 : Nat) : Int) (aA.set a k (tH root m up k (Mv (Tk th m s (Nq t st s x) (k : Int)) s (yS s)).1)) := by
 obtain ⟨_, h1, _, h4, _⟩ := Qj k hk n
 have hw : IntKind.wrap .i64 ((k : Int) + 1) = ((k + 1 : Nat) : Int) := by rw [Go.Bm.aT (by omega) (by omega)]; omega
 have hsl := hs.len
 have key : ∀ j', dJ s t st x.ID (k : Int) th m root up a j' n (Es root up k none).1 (Es root up k none).2 (-1) (-1) 0 = _ := fun j' => aBm h hv st hst hs th hth m x hx root up k hk a j' s.Rules.length 0 n (by omega) (by omega)
 rw [fV, if_pos (by simp; omega)]
 unfold aS oO
 simp only [Option.bind_some]
 rw [show aA.mk 0 (-1 : Int) 16 0 0 1 3 0 0 0 0 1 (-1 : Int) 0 1048576 0 1048576 0 0 0 0 0 = inA from rfl, h4]
 simp only [Option.bind_some, h1, Wt hk, Wa up k hk, hw]
 have e1 : ∀ j', (if (Xa k && !root) = true then dJ s t st x.ID (k : Int) th m root up a j' n (gt up k) true (-1) (-1) 0 else dJ s t st x.ID (k : Int) th m root up a j' n (Un k) false (-1) (-1) 0) = dJ s t st x.ID (k : Int) th m root up a j' n (Es root up k none).1 (Es root up k none).2 (-1) (-1) 0 := fun j' => by
  unfold Es
  by_cases hc : (Xa k && !root) = true
  ·rw [if_pos hc, if_pos hc]
  ·rw [if_neg hc, if_neg hc]
 rw [e1, key]
 unfold tH
 split
 ·rename_i hc
  rw [(Ku m _ n).2]
  rfl
 ·rfl
theorem Sg {t : bA} {v : aJ} (h : cM t v) (hv : nZ 4 v) (st : List aR) (hst : st.length ≤ 1000) {s : bH} (hs : iX s) (th : bS) (hth : th.Tokens.length ≤ 1000) (m : cY) (x : aP) (hx : x ∈ t.Nodes) (root : Bool) (up : aA) (j : aA → Option aA) : ∀ (d k n : Nat) (a : aA), k + d = 22 → d + 1300 < n →
  fV m s t st x.ID th root up j n (k : Int) a = j (fil (fun k => tH root m up k (Mv (Tk th m s (Nq t st s x) (k : Int)) s (yS s)).1) d k a)
 | 0, k, n, a, hk, hn => by
  obtain ⟨n, rfl⟩ : ∃ m, n = m + 1 := ⟨n - 1, by omega⟩
  rw [fV, if_neg (by simp; omega)]; rfl
 | d + 1, k, n, a, hk, hn => by
  obtain ⟨n, rfl⟩ : ∃ m, n = m + 1 := ⟨n - 1, by omega⟩
  rw [aAc h hv st hst hs th hth m x hx root up k (by omega) a j n (by omega), Sg h hv st hst hs th hth m x hx root up j d (k + 1) n _ (by omega) (by omega), fil]
theorem Ox {t : bA} {v : aJ} (h : cM t v) (hv : nZ 4 v) (st : List aR) (hst : st.length ≤ 1000) {s : bH} (hs : iX s) (th : bS) (hth : th.Tokens.length ≤ 1000) (m : cY) (x : aP) (hx : x ∈ t.Nodes) (up : aA) (root : Bool) (n : Nat) (hn : 3000 ≤ n) :
  rR n s th m t st x.ID up root = some (Ya t st s th m x up root) := by
 unfold rR aS
 exact (Sg h hv st hst hs th hth m x hx root up _ 22 0 n zer rfl (by omega)).trans rfl
end Go.Proofs.YtojkihhnioeggaaGreatDoor.S
