import Derived.Test.YtojkihhnioeggaaGreatDoorQRCs3
import Derived.WalkKit
import Derived.WalkSpells
import Derived.WalkLawsBesides
import Derived.Deep.QuietTactic
import Derived.BigQuiet
import Derived.BigRegion
import Derived.Lib.Hide
import Derived.Deep.RegionWith
set_option linter.unusedSimpArgs false
set_option linter.unusedVariables false
set_option linter.unusedSimpArgs false
set_option linter.unusedVariables false
namespace Go.Proofs.YtojkihhnioeggaaGreatDoor.S
open Go Go.Bm
def cst (root : Bool) (up : aA) (k : Nat) (o : Option bJ) (w W : Int × Int) (e : Option bJ) : Option bJ × (Int × Int) := match e with | none => (o, w) | some d => (some d, W)
theorem aAo (th : bM) (m : cQ) (hth : th.Tokens.length ≤ 1000) (r : bT) (root : Bool) (up : aA) (k : Nat) (hk : k < 22) (W : Int × Int) (j : Int → Bool → Int → Int → Option aA) (p4 : List aT) (p5 v173 : Int) (p0 : bE) (p3 : bA) (a : aA) (hz : r.Decls.length ≤ 1000) (o : Option bJ) (w : Int × Int) : ∀ (l pre : List bJ) (n : Nat) (q : Int) (e : Option bJ), r.Decls = pre ++ l → q = pre.length → l.length + 1010 < n →
  gZ r (k : Int) W th m root up j p4 p5 v173 p0 p3 a n (Bu root up k (cst root up k o w W e).1).1 (Bu root up k (cst root up k o w W e).1).2 (cst root up k o w W e).2.1 (cst root up k o w W e).2.2 q =
   j (Bu root up k (cst root up k o w W (Kk th m (k : Int) l e)).1).1 (Bu root up k (cst root up k o w W (Kk th m (k : Int) l e)).1).2 (cst root up k o w W (Kk th m (k : Int) l e)).2.1 (cst root up k o w W (Kk th m (k : Int) l e)).2.2
 | [], pre, n, q, e, ht, hq, hn => by
  obtain ⟨n, rfl⟩ : ∃ m, n = m + 1 := ⟨n - 1, by simp at hn; omega⟩
  have hlen : r.Decls.length = pre.length := by rw [ht]; simp
  rw [gZ, if_neg (by simp; omega)]; rfl
 | d :: l, pre, n, q, e, ht, hq, hn => by
  obtain ⟨n, rfl⟩ : ∃ m, n = m + 1 := ⟨n - 1, by simp at hn; omega⟩
  have hlen : r.Decls.length = pre.length + (l.length + 1) := by rw [ht]; simp
  have hw : IntKind.wrap .i64 (q + 1) = q + 1 := Go.Bm.aS (by omega) (by omega)
  have ih := fun e => aAo th m hth r root up k hk W j p4 p5 v173 p0 p3 a hz o w l (pre ++ [d]) n (q + 1) e (by rw [ht]; simp) (by simp; omega) (by simp at hn; omega)
  have hl := (Ri th hth m d.Token n (by simp at hn; omega)).2
  have hin := (Jv k hk n).2.2.2.1
  rw [gZ, if_pos (by simp; omega), Kk]
  unfold aR
  rw [jQ ht hq]
  simp only [Option.bind_some, hw]
  by_cases hp : d.Prop_ = (k : Int)
  ·rw [if_neg (by simpa using hp), if_pos hp]
   unfold oE
   simp only [Option.bind_some]
   rw [show aA.mk 0 (-1 : Int) 16 0 0 1 3 0 0 0 0 1 (-1 : Int) 0 1048576 0 1048576 0 0 0 0 0 = inA from rfl, hin]
   simp only [Option.bind_some, hl, (Ac n _ _).2, Vs hk, Qq up k hk]
   have hsome : ∀ d' : bJ, gZ r (k : Int) W th m root up j p4 p5 v173 p0 p3 a n (Bu root up k (some d')).1 (Bu root up k (some d')).2 W.1 W.2 (q + 1) = _ := fun d' => ih (some d')
   unfold Yf
   by_cases h1 : d.Source = 1
   ·have h0 : (d.Source == 0) = false := by rw [beq_eq_false_iff_ne]; omega
    rw [if_pos h1, h0]
    simp only [beq_iff_eq.2 h1, Bool.false_eq_true, if_false, if_true, ← hp]
    cases hb : (Nr m d.Token th.Tokens).2 <;> cases hr : oW d.Prop_ (Nr m d.Token th.Tokens).1
    ·simp only [Bool.not_false, Bool.not_true, uQ, Bool.false_eq_true, if_false, Option.bind_some, Bool.true_or, if_true, Bool.and_self]
     rw [hp]; exact ih e
    ·simp only [Bool.not_false, Bool.not_true, uQ, Bool.false_eq_true, if_false, Option.bind_some, Bool.true_or, if_true, Bool.false_and]
     rw [hp]; exact ih e
    ·simp only [Bool.not_false, Bool.not_true, uQ, Bool.false_eq_true, if_false, Option.bind_some, Bool.or_true, if_true, Bool.and_false]
     rw [hp]; exact ih e
    ·simp only [Bool.not_false, Bool.not_true, uQ, Bool.false_eq_true, if_false, Option.bind_some, Bool.or_self, if_true, Bool.and_self]
     rw [hp]
     have := hsome (bJ.mk (k : Int) d.Source (Nr m d.Token th.Tokens).1 d.Token)
     have e1 : Bu root up k (some (bJ.mk (k : Int) d.Source (Nr m d.Token th.Tokens).1 d.Token)) = ((Nr m d.Token th.Tokens).1, false) := by
      unfold Bu; simp [h1]
     rw [e1] at this
     exact this
   ·rw [if_neg h1]
    have := hsome d
    have h1' : (d.Source == 1) = false := by rw [beq_eq_false_iff_ne]; exact h1
    simp only [h1', Bool.false_eq_true, if_false]
    unfold Bu at this
    simp only [h1', Bool.or_false] at this
    by_cases h0 : (d.Source == 0) = true
    ·rw [if_pos h0]
     rw [if_pos h0] at this
     exact this
    ·rw [Bool.not_eq_true] at h0
     simp only [h0, Bool.false_eq_true, if_false] at this ⊢
     by_cases h2 : (d.Source == 2) = true
     ·simp only [h2, Bool.true_and, if_true] at this ⊢
      cases root
      ·simp only [Bool.not_false, if_true] at this ⊢
       exact this
      ·simp only [Bool.not_true, Bool.false_eq_true, if_false] at this ⊢
       exact this
     ·rw [Bool.not_eq_true] at h2
      simp only [h2, Bool.false_and, Bool.false_eq_true, if_false] at this ⊢
      exact this
  ·rw [if_pos (by simpa using hp), if_neg hp]
   exact ih e
theorem aAk {t : bA} {v : aG} (h : cT t v) (hv : oT 4 v) (st : List aT) (hst : st.length ≤ 1000) {s : bE} (hs : iE s) (th : bM) (hth : th.Tokens.length ≤ 1000) (m : cQ) (x : aP) (hx : x ∈ t.Nodes) (root : Bool) (up : aA) (k : Nat) (hk : k < 22) (a : aA) (j : Int → Bool → Option aA) :
  ∀ (d q n : Nat), q + d = s.Rules.length → d + 1200 < n →
  dE s t st x.ID (k : Int) th m root up a j n (Bu root up k (Jf (Lw th m s (Kl t st s x) (k : Int)) s (sH s [] (iz q))).1).1 (Bu root up k (Jf (Lw th m s (Kl t st s x) (k : Int)) s (sH s [] (iz q))).1).2 (Jf (Lw th m s (Kl t st s x) (k : Int)) s (sH s [] (iz q))).2.1 (Jf (Lw th m s (Kl t st s x) (k : Int)) s (sH s [] (iz q))).2.2 (q : Int) =
   j (Bu root up k (Jf (Lw th m s (Kl t st s x) (k : Int)) s (wY s)).1).1 (Bu root up k (Jf (Lw th m s (Kl t st s x) (k : Int)) s (wY s)).1).2
 | 0, q, n, hq, hn => by
  obtain ⟨n, rfl⟩ : ∃ m, n = m + 1 := ⟨n - 1, by omega⟩
  obtain rfl : q = s.Rules.length := by omega
  rw [dE, if_neg (by simp)]; rfl
 | d + 1, q, n, hq, hn => by
  obtain ⟨n, rfl⟩ : ∃ m, n = m + 1 := ⟨n - 1, by omega⟩
  have hsl := hs.len
  have hlt : q < s.Rules.length := by omega
  have hw : IntKind.wrap .i64 ((q : Int) + 1) = ((q + 1 : Nat) : Int) := by rw [Go.Bm.aS (by omega) (by omega)]; omega
  have ih := aAk h hv st hst hs th hth m x hx root up k hk a j d (q + 1) n (by omega) (by omega)
  have hr : idx s.Rules (q : Int) = some s.Rules[q] := dS hlt
  have hrm : s.Rules[q] ∈ s.Rules := List.getElem_mem hlt
  obtain ⟨_, w2, w3⟩ := Pe s.Rules[q] (hs.ok _ hrm).st n (by omega)
  have hm := (Xw h hv st hst s x hx hr n (by omega)).2
  have hwof : Ae s (q : Int) = Km s.Rules[q] := by unfold Ae; rw [hr]; rfl
  have hord : sH s [] (iz (q + 1)) = sX s (q : Int) (sH s [] (iz q)) := by
   unfold iz
   rw [vU]
   have : oC (0 + (q : Int)) 1 = [(q : Int)] := by simp [oC]
   rw [this, Hl]
  have hD : Ma s (sH s [] (iz q)) := Mx s _ _ trivial
  rw [hord, Yz _ (by rw [hwof]; exact w3) hD, hwof] at ih
  generalize hB : Jf (Lw th m s (Kl t st s x) (k : Int)) s (sH s [] (iz q)) = B at ih ⊢
  rw [dE, if_pos (by simp; omega), hr]
  unfold aR
  simp only [Option.bind_some, w2, hm, uQ, hw]
  have hfold : ((decide ((Km s.Rules[q]).1 < B.2.1)) || (((Km s.Rules[q]).1 == B.2.1) && (decide ((Km s.Rules[q]).2 < B.2.2)))) = Gi (Km s.Rules[q]) B.2 := rfl
  rw [hfold]
  cases hl : Gi (Km s.Rules[q]) B.2
  ·rw [hl] at ih
   simp only [Bool.not_false, if_true, Option.bind_some, Bool.false_or, Bool.false_eq_true, if_false] at ih ⊢
   unfold Lw at ih
   rw [hr] at ih
   cases hb : Kl t st s x (q : Int)
   ·rw [hb] at ih
    simp only [Bool.not_false, if_true, Bool.false_eq_true, if_false] at ih ⊢
    exact ih
   ·rw [hb] at ih
    simp only [Bool.not_true, Bool.false_eq_true, if_false, if_true] at ih ⊢
    have hd := (hs.ok _ hrm).len
    have h2 := aAo th m hth s.Rules[q] root up k hk (Km s.Rules[q]) (fun v218 v219 v220 v221 => dE s t st x.ID (k : Int) th m root up a j n v218 v219 v220 v221 ((q + 1 : Nat) : Int)) st x.ID (q : Int) s t a (by omega) B.1 B.2 s.Rules[q].Decls [] n 0 none rfl rfl (by omega)
    refine Eq.trans h2 ?_
    simp only [Option.getD_some] at ih
    cases he : Kk th m (k : Int) s.Rules[q].Decls none with
    | none => rw [he] at ih; exact ih
    | some e => rw [he] at ih; exact ih
  ·rw [hl] at ih
   simp only [Bool.not_true, Bool.false_eq_true, if_false, Option.bind_some, Bool.true_or, if_true] at ih ⊢
   exact ih
theorem Zh {t : bA} {v : aG} (h : cT t v) (hv : oT 4 v) (st : List aT) (hst : st.length ≤ 1000) {s : bE} (hs : iE s) (th : bM) (hth : th.Tokens.length ≤ 1000) (m : cQ) (x : aP) (hx : x ∈ t.Nodes) (root : Bool) (up : aA) (k : Nat) (hk : k < 22) (a : aA) (j : aA → Option aA) (n : Nat) (hn : 1300 ≤ n) :
  fQ m s t st x.ID th root up j (n + 1) (k : Int) a = fQ m s t st x.ID th root up j n ((k + 1 : Nat) : Int) (aA.set a k (yZ root m up k (Jf (Lw th m s (Kl t st s x) (k : Int)) s (wY s)).1)) := by
 obtain ⟨_, h1, _, h4, _⟩ := Jv k hk n
 have hw : IntKind.wrap .i64 ((k : Int) + 1) = ((k + 1 : Nat) : Int) := by rw [Go.Bm.aS (by omega) (by omega)]; omega
 have hsl := hs.len
 have key : ∀ j', dE s t st x.ID (k : Int) th m root up a j' n (Bu root up k none).1 (Bu root up k none).2 (-1) (-1) 0 = _ := fun j' => aAk h hv st hst hs th hth m x hx root up k hk a j' s.Rules.length 0 n (by omega) (by omega)
 rw [fQ, if_pos (by simp; omega)]
 unfold aR oE
 simp only [Option.bind_some]
 rw [show aA.mk 0 (-1 : Int) 16 0 0 1 3 0 0 0 0 1 (-1 : Int) 0 1048576 0 1048576 0 0 0 0 0 = inA from rfl, h4]
 simp only [Option.bind_some, h1, Vs hk, Qq up k hk, hw]
 have e1 : ∀ j', (if (Vz k && !root) = true then dE s t st x.ID (k : Int) th m root up a j' n (gt up k) true (-1) (-1) 0 else dE s t st x.ID (k : Int) th m root up a j' n (Tl k) false (-1) (-1) 0) = dE s t st x.ID (k : Int) th m root up a j' n (Bu root up k none).1 (Bu root up k none).2 (-1) (-1) 0 := fun j' => by
  unfold Bu
  by_cases hc : (Vz k && !root) = true
  ·rw [if_pos hc, if_pos hc]
  ·rw [if_neg hc, if_neg hc]
 rw [e1, key]
 unfold yZ
 split
 ·rename_i hc
  rw [(Kc m _ n).2]
  rfl
 ·rfl
theorem Rd {t : bA} {v : aG} (h : cT t v) (hv : oT 4 v) (st : List aT) (hst : st.length ≤ 1000) {s : bE} (hs : iE s) (th : bM) (hth : th.Tokens.length ≤ 1000) (m : cQ) (x : aP) (hx : x ∈ t.Nodes) (root : Bool) (up : aA) (j : aA → Option aA) : ∀ (d k n : Nat) (a : aA), k + d = 22 → d + 1300 < n →
  fQ m s t st x.ID th root up j n (k : Int) a = j (fil (fun k => yZ root m up k (Jf (Lw th m s (Kl t st s x) (k : Int)) s (wY s)).1) d k a)
 | 0, k, n, a, hk, hn => by
  obtain ⟨n, rfl⟩ : ∃ m, n = m + 1 := ⟨n - 1, by omega⟩
  rw [fQ, if_neg (by simp; omega)]; rfl
 | d + 1, k, n, a, hk, hn => by
  obtain ⟨n, rfl⟩ : ∃ m, n = m + 1 := ⟨n - 1, by omega⟩
  rw [Zh h hv st hst hs th hth m x hx root up k (by omega) a j n (by omega), Rd h hv st hst hs th hth m x hx root up j d (k + 1) n _ (by omega) (by omega), fil]
theorem Nx {t : bA} {v : aG} (h : cT t v) (hv : oT 4 v) (st : List aT) (hst : st.length ≤ 1000) {s : bE} (hs : iE s) (th : bM) (hth : th.Tokens.length ≤ 1000) (m : cQ) (x : aP) (hx : x ∈ t.Nodes) (up : aA) (root : Bool) (n : Nat) (hn : 3000 ≤ n) :
  rK n s th m t st x.ID up root = some (Po t st s th m x up root) := by
 unfold rK aR
 exact (Rd h hv st hst hs th hth m x hx root up _ 22 0 n zer rfl (by omega)).trans rfl
def Ar (a : aA) : Prop := ∀ k : Nat, k < 22 → oW (k : Int) (gt a k) = true
theorem Xu {th : bM} {m : cQ} {d e : bJ} {sts : Int} (h : Yg sts d) (he : Yf th m d = some e) : e.Prop_ = d.Prop_ ∧ ((e.Source == 0 || e.Source == 1) = true → oW e.Prop_ e.N = true) := by
 unfold Yf at he
 split at he
 ·rename_i h1
  split at he
  ·rename_i hc
   obtain rfl := Option.some.inj he
   simp only [Bool.and_eq_true] at hc
   exact ⟨rfl, fun _ => hc.2⟩
  ·cases he
 ·rename_i h1
  obtain rfl := Option.some.inj he
  refine ⟨rfl, fun hc => h.rng ?_⟩
  simp only [Bool.or_eq_true, beq_iff_eq] at hc
  omega
theorem Wn {th : bM} {m : cQ} {p sts : Int} {P : bJ → Prop} (hP : ∀ d e, Yg sts d → Yf th m d = some e → d.Prop_ = p → P e) : ∀ (l : List bJ) (a : Option bJ), (∀ d, d ∈ l → Yg sts d) → (∀ e, a = some e → P e) → ∀ e, Kk th m p l a = some e → P e
 | [], a, _, ha, e, he => ha e he
 | d :: l, a, hl, ha, e, he => by
  refine Wn hP l _ (fun d hd => hl d (by simp [hd])) (fun e' he' => ?_) e he
  by_cases hp : d.Prop_ = p
  ·rw [if_pos hp] at he'
   cases hf : Yf th m d with
   | none => rw [hf] at he'; exact ha e' he'
   | some f =>
    rw [hf] at he'
    obtain rfl := Option.some.inj he'
    exact hP d f (hl d (by simp)) hf hp
  ·rw [if_neg hp] at he'; exact ha e' he'
theorem bsv_ok {s : bE} (hs : iE s) (th : bM) (m : cQ) (mt : Int → Bool) (k : Nat) (R : List Int) (hR : ∀ i, i ∈ R → Vp s i) (e : bJ) (he : (Jf (Lw th m s mt (k : Int)) s R).1 = some e) : (e.Source == 0 || e.Source == 1) = true → oW (k : Int) e.N = true := by
 unfold Jf at he
 cases hb : Je (Lw th m s mt (k : Int)) R with
 | none => rw [hb] at he; cases he
 | some i =>
  rw [hb] at he
  have hi := hR i (Iq _ hb).1
  obtain ⟨r, hr, hrm⟩ := vE s.Rules i hi.lo hi.hi
  have he : Lw th m s mt (k : Int) i = some e := he
  unfold Lw at he
  split at he
  ·rw [hr] at he
   exact Wn (sts := r.States) (P := fun e => (e.Source == 0 || e.Source == 1) = true → oW (k : Int) e.N = true) (fun d f hd hf hp hc => by
    have := (Xu hd hf).2 hc
    rw [(Xu hd hf).1, hp] at this
    exact this) r.Decls none (hs.ok r hrm).dec (fun _ h => nomatch h) e he
  ·cases he
theorem Vy (z : Int) (h : 1 ≤ z ∧ z ≤ 1000) : oW 2 z = true := by
 have c1 : decide (z ≥ 1) = true := by simp; omega
 have c2 : decide (z ≤ 1000) = true := by simp; omega
 have e : cW 0 2 z = (gd [(decide (z ≥ 1))] (some (⟨true, 1, 1000, 16⟩ : bR))).bind fun e3 => some ((decide (z ≥ 1)) && (decide (z ≤ e3.high))) := by kernel_rfl
 unfold oW
 rw [e, c1]
 simp [gd]
 omega
theorem Zf {root : Bool} {m : cQ} {up : aA} (hup : root = false → Ar up) {k : Nat} (hk : k < 22) {o : Option bJ} (ho : ∀ e, o = some e → (e.Source == 0 || e.Source == 1) = true → oW (k : Int) e.N = true) : oW (k : Int) (yZ root m up k o) = true := by
 have hv : oW (k : Int) (Bu root up k o).1 = true := by
  have hini := (Jv k hk 0).2.2.2.2
  unfold Bu
  cases o with
  | none =>
   simp only
   split
   ·rename_i hc
    simp only [Bool.and_eq_true, Bool.not_eq_true'] at hc
    exact hup hc.2 k hk
   ·exact hini
  | some e =>
   simp only
   split
   ·rename_i hc; exact ho e rfl hc
   ·split
    ·rename_i hc
     simp only [Bool.and_eq_true, Bool.not_eq_true'] at hc
     exact hup hc.2 k hk
    ·exact hini
 unfold yZ
 split
 ·rename_i hc
  simp only [Bool.and_eq_true, beq_iff_eq] at hc
  rw [hc.1]
  exact Vy _ (Zg m _)
 ·exact hv
theorem Zk (f : Nat → Int) (a : aA) (k : Nat) (hk : k < 22) : gt (fil f 22 0 a) k = f k := by
 rcases k with _ | _ | _ | _ | _ | _ | _ | _ | _ | _ | _ | _ | _ | _ | _ | _ | _ | _ | _ | _ | _ | _ | k
 iterate 22 kernel_rfl
 omega
theorem Xe {t : bA} (st : List aT) {s : bE} (hs : iE s) (th : bM) (m : cQ) (x : aP) (up : aA) (root : Bool) (hup : root = false → Ar up) : Ar (Po t st s th m x up root) := by
 intro k hk
 unfold Po
 rw [Zk _ _ k hk]
 exact Zf hup hk fun e he => bsv_ok hs th m (Kl t st s x) k (wY s) (fun i hi => Ra hi) e he
end Go.Proofs.YtojkihhnioeggaaGreatDoor.S
