import Derived.Test.YtojkihhnioeggaaGreatDoorQRCs2
import Derived.WalkKit
import Derived.WalkSpells
import Derived.WalkLawsBesides
import Derived.Deep.QuietTactic
import Derived.BigQuiet
import Derived.BigRegion
import Derived.Lib.Hide
import Derived.Deep.RegionWith
set_option linter.unusedSimpArgs false
set_option linter.unusedVariables false
set_option linter.unusedSimpArgs false
set_option linter.unusedVariables false
namespace Go.Proofs.YtojkihhnioeggaaGreatDoor.S
open Go Go.Bm
def Yf (th : bM) (m : cQ) (d : bJ) : Option bJ :=
 if d.Source = 1 then (if ((Nr m d.Token th.Tokens).2 && oW d.Prop_ (Nr m d.Token th.Tokens).1) = true then some (bJ.mk d.Prop_ d.Source (Nr m d.Token th.Tokens).1 d.Token) else none) else some d
def Kk (th : bM) (m : cQ) (p : Int) : List bJ → Option bJ → Option bJ
 | [], a => a
 | d :: l, a => Kk th m p l (if d.Prop_ = p then (match Yf th m d with | none => a | some e => some e) else a)
theorem Oq (th : bM) (m : cQ) (p : Int) : ∀ (l : List bJ) (a : Option bJ), Kk th m p l a = (Kk th m p l none).or a
 | [], a => by cases a <;> rfl
 | d :: l, a => by
  rw [Kk, Kk, Oq th m p l, Oq th m p l (if d.Prop_ = p then _ else none)]
  by_cases h : d.Prop_ = p
  ·rw [if_pos h, if_pos h]
   cases Yf th m d with
   | none => cases Kk th m p l none <;> cases a <;> rfl
   | some e => cases Kk th m p l none <;> rfl
  ·rw [if_neg h, if_neg h]
   cases Kk th m p l none <;> cases a <;> rfl
def chd (th : bM) (m : cQ) : List bJ → List (Int × bJ) → List (Int × bJ)
 | [], M => M
 | d :: l, M => chd th m l (match Yf th m d with | none => M | some e => iF d.Prop_ e M)
theorem Mg (th : bM) (m : cQ) (p : Int) : ∀ (l : List bJ) (M : List (Int × bJ)), (chd th m l M).lookup p = Kk th m p l (M.lookup p)
 | [], M => rfl
 | d :: l, M => by
  rw [chd, Kk, Mg th m p l]
  congr 1
  cases Yf th m d with
  | none => simp
  | some e =>
   show (iF d.Prop_ e M).lookup p = _
   rw [Ad]
   by_cases h : d.Prop_ = p
   ·rw [if_pos h, if_pos h.symm]
   ·rw [if_neg h, if_neg fun h' => h h'.symm]
structure ThOk (th : bM) : Prop where
 len : th.Tokens.length ≤ 3
theorem ch_L1 (th : bM) (m : cQ) (hth : th.Tokens.length ≤ 1000) (r : bT) (C : hZ) (hC : C.th = th ∧ C.m = m) (j : List (Int × bJ) → Option (List (Int × bJ))) (p1 v26 : Int) (hz : r.Decls.length ≤ 1000) : ∀ (l pre : List bJ) (n : Nat) (q : Int) (M : List (Int × bJ)), r.Decls = pre ++ l → q = pre.length → l.length + 1010 < n →
  fK r C j p1 v26 n q M = j (chd th m l M)
 | [], pre, n, q, M, ht, hq, hn => by
  obtain ⟨n, rfl⟩ : ∃ m, n = m + 1 := ⟨n - 1, by simp at hn; omega⟩
  have hlen : r.Decls.length = pre.length := by rw [ht]; simp
  rw [fK, if_neg (by simp; omega)]; rfl
 | d :: l, pre, n, q, M, ht, hq, hn => by
  obtain ⟨n, rfl⟩ : ∃ m, n = m + 1 := ⟨n - 1, by simp at hn; omega⟩
  have hlen : r.Decls.length = pre.length + (l.length + 1) := by rw [ht]; simp
  have hw : IntKind.wrap .i64 (q + 1) = q + 1 := Go.Bm.aS (by omega) (by omega)
  have ih := fun M => ch_L1 th m hth r C hC j p1 v26 hz l (pre ++ [d]) n (q + 1) M (by rw [ht]; simp) (by simp; omega) (by simp at hn; omega)
  have hl := (Ri th hth m d.Token n (by simp at hn; omega)).1
  rw [fK, if_pos (by simp; omega), hC.1, hC.2]
  unfold aR
  rw [jQ ht hq]
  simp only [Option.bind_some, hw, hl, (Ac n d.Prop_ _).1]
  rw [chd]
  unfold Yf
  by_cases hs : d.Source = 1
  ·rw [if_pos (by simpa using hs), if_pos hs]
   cases hb : (Nr m d.Token th.Tokens).2 <;> cases hr : oW d.Prop_ (Nr m d.Token th.Tokens).1
   all_goals simp [gd, ih, hr]
   all_goals rfl
  ·rw [if_neg (by simpa using hs), if_neg hs]
   exact ih _
def chs (th : bM) (m : cQ) (s : bE) (mt : Int → Bool) : List Int → List (Int × bJ) → List (Int × bJ)
 | [], M => M
 | i :: l, M => chs th m s mt l (if mt i = true then chd th m ((idx s.Rules i).getD default).Decls M else M)
def Lw (th : bM) (m : cQ) (s : bE) (mt : Int → Bool) (p : Int) (i : Int) : Option bJ := if mt i = true then Kk th m p ((idx s.Rules i).getD default).Decls none else none
theorem Nl (th : bM) (m : cQ) (s : bE) (mt : Int → Bool) (p : Int) : ∀ (l : List Int) (M : List (Int × bJ)), (chs th m s mt l M).lookup p = l.foldl (fun a i => (Lw th m s mt p i).or a) (M.lookup p)
 | [], M => rfl
 | i :: l, M => by
  rw [chs, Nl th m s mt p l, List.foldl_cons]
  congr 1
  unfold Lw
  cases mt i
  ·simp
  ·simp only [if_true]
   rw [Mg, Oq]
theorem Mn {V : Type} (app : Int → Option V) (s : bE) : ∀ (R : List Int), R.reverse.foldl (fun a i => (app i).or a) none = (Jf app s R).1
 | [] => rfl
 | i :: l => by
  rw [List.reverse_cons, List.foldl_append, Mn app s l]
  unfold Jf
  rw [Je]
  cases ha : app i with
  | none => simp [ha]
  | some v => simp [ha]
def Kl (t : bA) (st : List aT) (s : bE) (x : aP) (i : Int) : Bool := (lX 1100 ((idx s.Rules i).getD default) t st x.ID).getD false
theorem Xw {t : bA} {v : aG} (h : cT t v) (hv : oT 4 v) (st : List aT) (hst : st.length ≤ 1000) (s : bE) (x : aP) (hx : x ∈ t.Nodes) {i : Int} {r : bT} (hr : idx s.Rules i = some r) (n : Nat) (hn : 1100 ≤ n) : kH n ⟨kE t.Nodes, tO t.Nodes, Sf st⟩ r x.ID = some (Kl t st s x i) ∧ lX n r t st x.ID = some (Kl t st s x i) := by
 obtain ⟨b, hb⟩ := Nu h hv st hst r x hx
 unfold Kl
 rw [hr]
 have := (hb 1100 (Nat.le_refl _)).2
 rw [show ((some r).getD default) = r from rfl, this]
 exact hb n hn
theorem aAn {t : bA} {v : aG} (h : cT t v) (hv : oT 4 v) (st : List aT) (hst : st.length ≤ 1000) {s : bE} (hs : iE s) (th : bM) (hth : th.Tokens.length ≤ 1000) (m : cQ) (x : aP) (hx : x ∈ t.Nodes) (ord : List Int) (ho : ∀ i, i ∈ ord → Vp s i) (hz : ord.length ≤ 1000) (j : List (Int × bJ) → Option (List (Int × bJ))) : ∀ (l pre : List Int) (n : Nat) (q : Int) (M : List (Int × bJ)), ord = pre ++ l → q = pre.length → l.length + 1200 < n →
  fH (hZ.mk ⟨kE t.Nodes, tO t.Nodes, Sf st⟩ s.Rules ord th m) x.ID j n q M = j (chs th m s (Kl t st s x) l M)
 | [], pre, n, q, M, ht, hq, hn => by
  obtain ⟨n, rfl⟩ : ∃ m, n = m + 1 := ⟨n - 1, by simp at hn; omega⟩
  have hlen : ord.length = pre.length := by rw [ht]; simp
  rw [fH, if_neg (by simp; omega)]; rfl
 | i :: l, pre, n, q, M, ht, hq, hn => by
  obtain ⟨n, rfl⟩ : ∃ m, n = m + 1 := ⟨n - 1, by simp at hn; omega⟩
  have hlen : ord.length = pre.length + (l.length + 1) := by rw [ht]; simp
  have hw : IntKind.wrap .i64 (q + 1) = q + 1 := Go.Bm.aS (by omega) (by omega)
  have ih := fun M => aAn h hv st hst hs th hth m x hx ord ho hz j l (pre ++ [i]) n (q + 1) M (by rw [ht]; simp) (by simp; omega) (by simp at hn; omega)
  have hi := ho i (by rw [ht]; simp)
  obtain ⟨r, hr, hrm⟩ := vE s.Rules i hi.lo hi.hi
  have hm := (Xw h hv st hst s x hx hr n (by simp at hn; omega)).1
  rw [fH, if_pos (by simp; omega)]
  unfold aR
  show ((idx ord q).bind _) = _
  rw [jQ ht hq]
  simp only [Option.bind_some, hw, hr, hm]
  rw [chs]
  cases hb : Kl t st s x i
  ·simp only [Bool.not_false, if_true, Bool.false_eq_true, if_false]
   exact ih M
  ·simp only [Bool.not_true, Bool.false_eq_true, if_false, if_true]
   have hd := (hs.ok r hrm).len
   rw [ch_L1 th m hth r _ ⟨rfl, rfl⟩ _ x.ID q (by omega) r.Decls [] n 0 M rfl rfl (by simp at hn; omega), hr]
   exact ih _
def Vz (k : Nat) : Bool := (gJ 0 (k : Int)).getD false
def Tl (k : Nat) : Int := ((idx aW (k : Int)).getD default).start
def zer : aA := aA.mk 0 0 0 0 0 0 0 0 0 0 0 0 0 0 0 0 0 0 0 0 0 0
def inA : aA := aA.mk 0 (-1 : Int) 16 0 0 1 3 0 0 0 0 1 (-1 : Int) 0 1048576 0 1048576 0 0 0 0 0
theorem Jv (k : Nat) (hk : k < 22) (n : Nat) : gJ n (k : Int) = some (Vz k) ∧ mJ n (k : Int) = some (Vz k) ∧ (∃ e, idx aW (k : Int) = some e ∧ e.start = Tl k) ∧ idx (aA.toL inA) (k : Int) = some (Tl k) ∧ oW (k : Int) (Tl k) = true := by
 have key : ∀ k : Nat, gJ n (k : Int) = some (Vz k) → mJ n (k : Int) = some (Vz k) → (idx aW (k : Int)).isSome = true → idx (aA.toL inA) (k : Int) = some (Tl k) → oW (k : Int) (Tl k) = true → gJ n (k : Int) = some (Vz k) ∧ mJ n (k : Int) = some (Vz k) ∧ (∃ e, idx aW (k : Int) = some e ∧ e.start = Tl k) ∧ idx (aA.toL inA) (k : Int) = some (Tl k) ∧ oW (k : Int) (Tl k) = true := by
  intro k h1 h2 h3 h4 h5
  refine ⟨h1, h2, ?_, h4, h5⟩
  unfold Tl
  cases h : idx aW (k : Int) with
  | none => rw [h] at h3; cases h3
  | some e => exact ⟨e, rfl, rfl⟩
 rcases k with _ | _ | _ | _ | _ | _ | _ | _ | _ | _ | _ | _ | _ | _ | _ | _ | _ | _ | _ | _ | _ | _ | k
 iterate 22 exact key _ (by kernel_rfl) (by kernel_rfl) (by kernel_rfl) (by kernel_rfl) (by kernel_rfl)
 omega
def gt (a : aA) (k : Nat) : Int := (aA.toL a)[k]?.getD 0
theorem Qq (a : aA) (k : Nat) (hk : k < 22) : (aA.toL a)[k]? = some (gt a k) := by
 unfold gt
 rw [List.getElem?_eq_getElem (by show k < 22; exact hk)]
 rfl
def Bu (root : Bool) (up : aA) (k : Nat) : Option bJ → Int × Bool
 | none => if (Vz k && !root) = true then (gt up k, true) else (Tl k, false)
 | some d => if (d.Source == 0 || d.Source == 1) = true then (d.N, false) else if (d.Source == 2 && !root) = true then (gt up k, true) else (Tl k, false)
def yZ (root : Bool) (m : cQ) (up : aA) (k : Nat) (o : Option bJ) : Int := if (((k : Int) == 2) && !(Bu root up k o).2) = true then siz m (Bu root up k o).1 else (Bu root up k o).1
theorem Vs {k : Nat} (hk : k < 22) : uC (k : Int) 22 = some k := by
 unfold uC; rw [if_pos ⟨by omega, by omega⟩]; simp
theorem set2 (a : aA) (x y : Int) : aA.set (aA.set a 2 x) 2 y = aA.set a 2 y := by kernel_rfl
theorem get2 (a : aA) (x : Int) : (aA.toL (aA.set a 2 x))[2]? = some x := by kernel_rfl
theorem Xi (M : List (Int × bJ)) (C : hZ) (root : Bool) (up : aA) (j : aA → Option aA) (n k : Nat) (hk : k < 22) (a : aA) : dV M C root up j (n + 1) (k : Int) a = dV M C root up j n ((k + 1 : Nat) : Int) (aA.set a k (yZ root C.m up k (M.lookup (k : Int)))) := by
 obtain ⟨h1, _, ⟨e, h3, h3'⟩, _⟩ := Jv k hk n
 have hw : IntKind.wrap .i64 ((k : Int) + 1) = ((k + 1 : Nat) : Int) := by rw [Go.Bm.aS (by omega) (by omega)]; omega
 rw [dV, if_pos (by simp; omega)]
 unfold aR
 simp only [Option.bind_some, hw, Vs hk, Qq up k hk, h1, h3, h3', eN, jZ]
 unfold yZ
 cases ho : M.lookup (k : Int) with
 | none =>
  simp only [Option.getD_none, Option.isSome_none, Bool.false_and, Bool.not_false, Bool.true_and, gd, List.all_cons, List.all_nil, id, Bool.and_true, if_true, Option.bind_some, Bool.false_or, Bu]
  by_cases hi : (Vz k && !root) = true
  ·simp only [hi, if_true, Bool.not_true, Bool.and_false, Bool.false_eq_true, if_false]
  ·rw [Bool.not_eq_true] at hi
   simp only [hi, Bool.false_eq_true, if_false, Bool.not_false, Bool.and_true]
   by_cases h2 : (k : Int) = 2
   ·obtain rfl : k = 2 := by omega
    simp only [beq_self_eq_true, if_true, get2, Option.bind_some, (Kc C.m _ n).1, set2, show ((2 : Nat) : Int) = 2 from rfl]
   ·have : ((k : Int) == 2) = false := by simpa using h2
    simp only [this, Bool.false_eq_true, if_false]
 | some d =>
  simp only [Option.getD_some, Option.isSome_some, Bool.true_and, Bool.not_true, Bool.false_and, Bool.or_false, Bu]
  have hg : ∀ b : Bool, (gd [b, false] (some (Vz k))) = some default := fun b => by cases b <;> rfl
  simp only [hg, Option.bind_some]
  by_cases hs : (d.Source == 0 || d.Source == 1) = true
  ·have hs2 : (d.Source == 2) = false := by
    simp only [Bool.or_eq_true, beq_iff_eq] at hs
    rw [beq_eq_false_iff_ne]; omega
   simp only [hs2, Bool.false_and, Bool.false_eq_true, if_false, hs, if_true, Bool.not_false, Bool.and_true]
   by_cases h2 : (k : Int) = 2
   ·obtain rfl : k = 2 := by omega
    simp only [beq_self_eq_true, if_true, get2, Option.bind_some, (Kc C.m _ n).1, set2, show ((2 : Nat) : Int) = 2 from rfl]
   ·have : ((k : Int) == 2) = false := by simpa using h2
    simp only [this, Bool.false_eq_true, if_false]
  ·rw [Bool.not_eq_true] at hs
   by_cases hi : (d.Source == 2 && !root) = true
   ·simp only [hi, hs, if_true, Bool.not_true, Bool.and_false, Bool.false_eq_true, if_false]
   ·rw [Bool.not_eq_true] at hi
    simp only [hi, hs, Bool.false_eq_true, if_false, Bool.not_false, Bool.and_true]
    by_cases h2 : (k : Int) = 2
    ·obtain rfl : k = 2 := by omega
     simp only [beq_self_eq_true, if_true, get2, Option.bind_some, (Kc C.m _ n).1, set2, show ((2 : Nat) : Int) = 2 from rfl]
    ·have : ((k : Int) == 2) = false := by simpa using h2
     simp only [this, Bool.false_eq_true, if_false]
def fil (f : Nat → Int) : Nat → Nat → aA → aA
 | 0, _, a => a
 | m + 1, k, a => fil f m (k + 1) (aA.set a k (f k))
theorem Lp (M : List (Int × bJ)) (C : hZ) (root : Bool) (up : aA) (j : aA → Option aA) : ∀ (m k n : Nat) (a : aA), k + m = 22 → m < n → dV M C root up j n (k : Int) a = j (fil (fun k => yZ root C.m up k (M.lookup (k : Int))) m k a)
 | 0, k, n, a, hk, hn => by
  obtain ⟨n, rfl⟩ : ∃ m, n = m + 1 := ⟨n - 1, by omega⟩
  rw [dV, if_neg (by simp; omega)]; rfl
 | m + 1, k, n, a, hk, hn => by
  obtain ⟨n, rfl⟩ : ∃ m, n = m + 1 := ⟨n - 1, by omega⟩
  rw [Xi M C root up j n k (by omega) a, Lp M C root up j m (k + 1) n _ (by omega) (by omega), fil]
def iz (k : Nat) : List Int := oC 0 k
def wY (s : bE) : List Int := sH s [] (iz s.Rules.length)
def Po (t : bA) (st : List aT) (s : bE) (th : bM) (m : cQ) (x : aP) (up : aA) (root : Bool) : aA :=
 fil (fun k => yZ root m up k (Jf (Lw th m s (Kl t st s x) (k : Int)) s (wY s)).1) 22 0 zer
theorem iz_in {s : bE} {i : Int} (h : i ∈ iz s.Rules.length) : Vp s i := by
 have := xZ.1 h
 exact ⟨by omega, by omega⟩
theorem Ra {s : bE} {i : Int} (h : i ∈ wY s) : Vp s i := by
 rcases Mk h with h | h
 ·cases h
 ·exact iz_in h
theorem Md (s : bE) : ∀ (l R : List Int), (sH s R l).length = R.length + l.length
 | [], R => rfl
 | x :: l, R => by rw [sH, Md s l, Dm, List.length_cons]; omega
theorem Wh {t : bA} {v : aG} (h : cT t v) (hv : oT 4 v) (st : List aT) (hst : st.length ≤ 1000) {s : bE} (hs : iE s) (th : bM) (hth : th.Tokens.length ≤ 1000) (m : cQ) (x : aP) (hx : x ∈ t.Nodes) (up : aA) (root : Bool) (n : Nat) (hn : 3000 ≤ n) :
  mH n (hZ.mk ⟨kE t.Nodes, tO t.Nodes, Sf st⟩ s.Rules (wY s).reverse th m) x.ID up root = some (Po t st s th m x up root) := by
 have hl : (wY s).length ≤ 6 := by
  have h1 := Md s (iz s.Rules.length) []
  have h2 := hs.len
  unfold wY
  rw [h1]
  unfold iz
  rw [lR]
  simp; omega
 have hc : lC n (hZ.mk ⟨kE t.Nodes, tO t.Nodes, Sf st⟩ s.Rules (wY s).reverse th m) x.ID = some (chs th m s (Kl t st s x) (wY s).reverse []) := by
  unfold lC aR
  exact aAn h hv st hst hs th hth m x hx (wY s).reverse (fun i hi => Ra (by simpa using hi)) (by simp; omega) _ (wY s).reverse [] n 0 [] rfl rfl (by simp; omega)
 unfold mH aR
 rw [hc]
 simp only [Option.bind_some]
 refine (Lp _ _ root up _ 22 0 n zer rfl (by omega)).trans ?_
 unfold Po
 congr 2
 funext k
 rw [Nl]
 show yZ root m up k (List.foldl _ none _) = _
 rw [Mn]
end Go.Proofs.YtojkihhnioeggaaGreatDoor.S
