import Derived.Test.YtojkihhnioeggaaGreatDoorQUCs2
import Derived.WalkKit
import Derived.WalkSpells
import Derived.WalkLawsBesides
import Derived.Deep.QuietTactic
import Derived.BigQuiet
import Derived.BigRegion
import Derived.Lib.Hide
import Derived.Deep.RegionWith
set_option linter.unusedSimpArgs false
set_option linter.unusedVariables false
set_option linter.unusedSimpArgs false
set_option linter.unusedVariables false
namespace Go.Proofs.YtojkihhnioeggaaGreatDoor.S
open Go Go.Bm
def efd (th : bS) (m : cY) (d : bM) : Option bM :=
 if d.Source = 1 then (if ((On m d.Token th.Tokens).2 && wX d.Prop_ (On m d.Token th.Tokens).1) = true then some (bM.mk d.Prop_ d.Source (On m d.Token th.Tokens).1 d.Token) else none) else some d
def Lk (th : bS) (m : cY) (p : Int) : List bM → Option bM → Option bM
 | [], a => a
 | d :: l, a => Lk th m p l (if d.Prop_ = p then (match efd th m d with | none => a | some e => some e) else a)
theorem Pq (th : bS) (m : cY) (p : Int) : ∀ (l : List bM) (a : Option bM), Lk th m p l a = (Lk th m p l none).or a
 | [], a => by cases a <;> rfl
 | d :: l, a => by
  rw [Lk, Lk, Pq th m p l, Pq th m p l (if d.Prop_ = p then _ else none)]
  by_cases h : d.Prop_ = p
  ·rw [if_pos h, if_pos h]
   cases efd th m d with
   | none => cases Lk th m p l none <;> cases a <;> rfl
   | some e => cases Lk th m p l none <;> rfl
  ·rw [if_neg h, if_neg h]
   cases Lk th m p l none <;> cases a <;> rfl
def chd (th : bS) (m : cY) : List bM → List (Int × bM) → List (Int × bM)
 | [], M => M
 | d :: l, M => chd th m l (match efd th m d with | none => M | some e => fY d.Prop_ e M)
theorem Mz (th : bS) (m : cY) (p : Int) : ∀ (l : List bM) (M : List (Int × bM)), (chd th m l M).lookup p = Lk th m p l (M.lookup p)
 | [], M => rfl
 | d :: l, M => by
  rw [chd, Lk, Mz th m p l]
  congr 1
  cases efd th m d with
  | none => simp
  | some e =>
   show (fY d.Prop_ e M).lookup p = _
   rw [Aw]
   by_cases h : d.Prop_ = p
   ·rw [if_pos h, if_pos h.symm]
   ·rw [if_neg h, if_neg fun h' => h h'.symm]
structure ThOk (th : bS) : Prop where
 len : th.Tokens.length ≤ 3
theorem ch_L1 (th : bS) (m : cY) (hth : th.Tokens.length ≤ 1000) (r : bY) (C : iF) (hC : C.th = th ∧ C.m = m) (j : List (Int × bM) → Option (List (Int × bM))) (p1 v26 : Int) (hz : r.Decls.length ≤ 1000) : ∀ (l pre : List bM) (n : Nat) (q : Int) (M : List (Int × bM)), r.Decls = pre ++ l → q = pre.length → l.length + 1010 < n →
  fO r C j p1 v26 n q M = j (chd th m l M)
 | [], pre, n, q, M, ht, hq, hn => by
  obtain ⟨n, rfl⟩ : ∃ m, n = m + 1 := ⟨n - 1, by simp at hn; omega⟩
  have hlen : r.Decls.length = pre.length := by rw [ht]; simp
  rw [fO, if_neg (by simp; omega)]; rfl
 | d :: l, pre, n, q, M, ht, hq, hn => by
  obtain ⟨n, rfl⟩ : ∃ m, n = m + 1 := ⟨n - 1, by simp at hn; omega⟩
  have hlen : r.Decls.length = pre.length + (l.length + 1) := by rw [ht]; simp
  have hw : IntKind.wrap .i64 (q + 1) = q + 1 := Go.Bm.aT (by omega) (by omega)
  have ih := fun M => ch_L1 th m hth r C hC j p1 v26 hz l (pre ++ [d]) n (q + 1) M (by rw [ht]; simp) (by simp; omega) (by simp at hn; omega)
  have hl := (Sl th hth m d.Token n (by simp at hn; omega)).1
  rw [fO, if_pos (by simp; omega), hC.1, hC.2]
  unfold aS
  rw [jX ht hq]
  simp only [Option.bind_some, hw, hl, (Fw n d.Prop_ _).1]
  rw [chd]
  unfold efd
  by_cases hs : d.Source = 1
  ·rw [if_pos (by simpa using hs), if_pos hs]
   cases hb : (On m d.Token th.Tokens).2 <;> cases hr : wX d.Prop_ (On m d.Token th.Tokens).1
   all_goals simp [gd, ih, hr]
   all_goals rfl
  ·rw [if_neg (by simpa using hs), if_neg hs]
   exact ih _
def chs (th : bS) (m : cY) (s : bH) (mt : Int → Bool) : List Int → List (Int × bM) → List (Int × bM)
 | [], M => M
 | i :: l, M => chs th m s mt l (if mt i = true then chd th m ((idx s.Rules i).getD default).Decls M else M)
def Tk (th : bS) (m : cY) (s : bH) (mt : Int → Bool) (p : Int) (i : Int) : Option bM := if mt i = true then Lk th m p ((idx s.Rules i).getD default).Decls none else none
theorem Oh (th : bS) (m : cY) (s : bH) (mt : Int → Bool) (p : Int) : ∀ (l : List Int) (M : List (Int × bM)), (chs th m s mt l M).lookup p = l.foldl (fun a i => (Tk th m s mt p i).or a) (M.lookup p)
 | [], M => rfl
 | i :: l, M => by
  rw [chs, Oh th m s mt p l, List.foldl_cons]
  congr 1
  unfold Tk
  cases mt i
  ·simp
  ·simp only [if_true]
   rw [Mz, Pq]
theorem Nh {V : Type} (app : Int → Option V) (s : bH) : ∀ (R : List Int), R.reverse.foldl (fun a i => (app i).or a) none = (Mv app s R).1
 | [] => rfl
 | i :: l => by
  rw [List.reverse_cons, List.foldl_append, Nh app s l]
  unfold Mv
  rw [Ld]
  cases ha : app i with
  | none => simp [ha]
  | some v => simp [ha]
def Nq (t : bA) (st : List aR) (s : bH) (x : aP) (i : Int) : Bool := (mD 1100 ((idx s.Rules i).getD default) t st x.ID).getD false
theorem Yw {t : bA} {v : aJ} (h : cM t v) (hv : nZ 4 v) (st : List aR) (hst : st.length ≤ 1000) (s : bH) (x : aP) (hx : x ∈ t.Nodes) {i : Int} {r : bY} (hr : idx s.Rules i = some r) (n : Nat) (hn : 1100 ≤ n) : kO n ⟨jZ t.Nodes, sT t.Nodes, Rp st⟩ r x.ID = some (Nq t st s x i) ∧ mD n r t st x.ID = some (Nq t st s x i) := by
 obtain ⟨b, hb⟩ := Ou h hv st hst r x hx
 unfold Nq
 rw [hr]
 have := (hb 1100 (Nat.le_refl _)).2
 rw [show ((some r).getD default) = r from rfl, this]
 exact hb n hn
theorem aBp {t : bA} {v : aJ} (h : cM t v) (hv : nZ 4 v) (st : List aR) (hst : st.length ≤ 1000) {s : bH} (hs : iX s) (th : bS) (hth : th.Tokens.length ≤ 1000) (m : cY) (x : aP) (hx : x ∈ t.Nodes) (ord : List Int) (ho : ∀ i, i ∈ ord → Ze s i) (hz : ord.length ≤ 1000) (j : List (Int × bM) → Option (List (Int × bM))) : ∀ (l pre : List Int) (n : Nat) (q : Int) (M : List (Int × bM)), ord = pre ++ l → q = pre.length → l.length + 1200 < n →
  fL (iF.mk ⟨jZ t.Nodes, sT t.Nodes, Rp st⟩ s.Rules ord th m) x.ID j n q M = j (chs th m s (Nq t st s x) l M)
 | [], pre, n, q, M, ht, hq, hn => by
  obtain ⟨n, rfl⟩ : ∃ m, n = m + 1 := ⟨n - 1, by simp at hn; omega⟩
  have hlen : ord.length = pre.length := by rw [ht]; simp
  rw [fL, if_neg (by simp; omega)]; rfl
 | i :: l, pre, n, q, M, ht, hq, hn => by
  obtain ⟨n, rfl⟩ : ∃ m, n = m + 1 := ⟨n - 1, by simp at hn; omega⟩
  have hlen : ord.length = pre.length + (l.length + 1) := by rw [ht]; simp
  have hw : IntKind.wrap .i64 (q + 1) = q + 1 := Go.Bm.aT (by omega) (by omega)
  have ih := fun M => aBp h hv st hst hs th hth m x hx ord ho hz j l (pre ++ [i]) n (q + 1) M (by rw [ht]; simp) (by simp; omega) (by simp at hn; omega)
  have hi := ho i (by rw [ht]; simp)
  obtain ⟨r, hr, hrm⟩ := zI s.Rules i hi.lo hi.hi
  have hm := (Yw h hv st hst s x hx hr n (by simp at hn; omega)).1
  rw [fL, if_pos (by simp; omega)]
  unfold aS
  show ((idx ord q).bind _) = _
  rw [jX ht hq]
  simp only [Option.bind_some, hw, hr, hm]
  rw [chs]
  cases hb : Nq t st s x i
  ·simp only [Bool.not_false, if_true, Bool.false_eq_true, if_false]
   exact ih M
  ·simp only [Bool.not_true, Bool.false_eq_true, if_false, if_true]
   have hd := (hs.ok r hrm).len
   rw [ch_L1 th m hth r _ ⟨rfl, rfl⟩ _ x.ID q (by omega) r.Decls [] n 0 M rfl rfl (by simp at hn; omega), hr]
   exact ih _
def Xa (k : Nat) : Bool := (gP 0 (k : Int)).getD false
def Un (k : Nat) : Int := ((idx aY (k : Int)).getD default).start
def zer : aA := aA.mk 0 0 0 0 0 0 0 0 0 0 0 0 0 0 0 0 0 0 0 0 0 0
def inA : aA := aA.mk 0 (-1 : Int) 16 0 0 1 3 0 0 0 0 1 (-1 : Int) 0 1048576 0 1048576 0 0 0 0 0
theorem Qj (k : Nat) (hk : k < 22) (n : Nat) : gP n (k : Int) = some (Xa k) ∧ mN n (k : Int) = some (Xa k) ∧ (∃ e, idx aY (k : Int) = some e ∧ e.start = Un k) ∧ idx (aA.toL inA) (k : Int) = some (Un k) ∧ wX (k : Int) (Un k) = true := by
 have key : ∀ k : Nat, gP n (k : Int) = some (Xa k) → mN n (k : Int) = some (Xa k) → (idx aY (k : Int)).isSome = true → idx (aA.toL inA) (k : Int) = some (Un k) → wX (k : Int) (Un k) = true → gP n (k : Int) = some (Xa k) ∧ mN n (k : Int) = some (Xa k) ∧ (∃ e, idx aY (k : Int) = some e ∧ e.start = Un k) ∧ idx (aA.toL inA) (k : Int) = some (Un k) ∧ wX (k : Int) (Un k) = true := by
  intro k h1 h2 h3 h4 h5
  refine ⟨h1, h2, ?_, h4, h5⟩
  unfold Un
  cases h : idx aY (k : Int) with
  | none => rw [h] at h3; cases h3
  | some e => exact ⟨e, rfl, rfl⟩
 rcases k with _ | _ | _ | _ | _ | _ | _ | _ | _ | _ | _ | _ | _ | _ | _ | _ | _ | _ | _ | _ | _ | _ | k
 iterate 22 exact key _ (by kernel_rfl) (by kernel_rfl) (by kernel_rfl) (by kernel_rfl) (by kernel_rfl)
 omega
def gt (a : aA) (k : Nat) : Int := (aA.toL a)[k]?.getD 0
theorem Wa (a : aA) (k : Nat) (hk : k < 22) : (aA.toL a)[k]? = some (gt a k) := by
 unfold gt
 rw [List.getElem?_eq_getElem (by show k < 22; exact hk)]
 rfl
def Es (root : Bool) (up : aA) (k : Nat) : Option bM → Int × Bool
 | none => if (Xa k && !root) = true then (gt up k, true) else (Un k, false)
 | some d => if (d.Source == 0 || d.Source == 1) = true then (d.N, false) else if (d.Source == 2 && !root) = true then (gt up k, true) else (Un k, false)
def tH (root : Bool) (m : cY) (up : aA) (k : Nat) (o : Option bM) : Int := if (((k : Int) == 2) && !(Es root up k o).2) = true then siz m (Es root up k o).1 else (Es root up k o).1
theorem Wt {k : Nat} (hk : k < 22) : uQ (k : Int) 22 = some k := by
 unfold uQ; rw [if_pos ⟨by omega, by omega⟩]; simp
theorem set2 (a : aA) (x y : Int) : aA.set (aA.set a 2 x) 2 y = aA.set a 2 y := by kernel_rfl
theorem get2 (a : aA) (x : Int) : (aA.toL (aA.set a 2 x))[2]? = some x := by kernel_rfl
theorem Yk (M : List (Int × bM)) (C : iF) (root : Bool) (up : aA) (j : aA → Option aA) (n k : Nat) (hk : k < 22) (a : aA) : dY M C root up j (n + 1) (k : Int) a = dY M C root up j n ((k + 1 : Nat) : Int) (aA.set a k (tH root C.m up k (M.lookup (k : Int)))) := by
 obtain ⟨h1, _, ⟨e, h3, h3'⟩, _⟩ := Qj k hk n
 have hw : IntKind.wrap .i64 ((k : Int) + 1) = ((k + 1 : Nat) : Int) := by rw [Go.Bm.aT (by omega) (by omega)]; omega
 rw [dY, if_pos (by simp; omega)]
 unfold aS
 simp only [Option.bind_some, hw, Wt hk, Wa up k hk, h1, h3, h3', cZ, gU]
 unfold tH
 cases ho : M.lookup (k : Int) with
 | none =>
  simp only [Option.getD_none, Option.isSome_none, Bool.false_and, Bool.not_false, Bool.true_and, gd, List.all_cons, List.all_nil, id, Bool.and_true, if_true, Option.bind_some, Bool.false_or, Es]
  by_cases hi : (Xa k && !root) = true
  ·simp only [hi, if_true, Bool.not_true, Bool.and_false, Bool.false_eq_true, if_false]
  ·rw [Bool.not_eq_true] at hi
   simp only [hi, Bool.false_eq_true, if_false, Bool.not_false, Bool.and_true]
   by_cases h2 : (k : Int) = 2
   ·obtain rfl : k = 2 := by omega
    simp only [beq_self_eq_true, if_true, get2, Option.bind_some, (Ku C.m _ n).1, set2, show ((2 : Nat) : Int) = 2 from rfl]
   ·have : ((k : Int) == 2) = false := by simpa using h2
    simp only [this, Bool.false_eq_true, if_false]
 | some d =>
  simp only [Option.getD_some, Option.isSome_some, Bool.true_and, Bool.not_true, Bool.false_and, Bool.or_false, Es]
  have hg : ∀ b : Bool, (gd [b, false] (some (Xa k))) = some default := fun b => by cases b <;> rfl
  simp only [hg, Option.bind_some]
  by_cases hs : (d.Source == 0 || d.Source == 1) = true
  ·have hs2 : (d.Source == 2) = false := by
    simp only [Bool.or_eq_true, beq_iff_eq] at hs
    rw [beq_eq_false_iff_ne]; omega
   simp only [hs2, Bool.false_and, Bool.false_eq_true, if_false, hs, if_true, Bool.not_false, Bool.and_true]
   by_cases h2 : (k : Int) = 2
   ·obtain rfl : k = 2 := by omega
    simp only [beq_self_eq_true, if_true, get2, Option.bind_some, (Ku C.m _ n).1, set2, show ((2 : Nat) : Int) = 2 from rfl]
   ·have : ((k : Int) == 2) = false := by simpa using h2
    simp only [this, Bool.false_eq_true, if_false]
  ·rw [Bool.not_eq_true] at hs
   by_cases hi : (d.Source == 2 && !root) = true
   ·simp only [hi, hs, if_true, Bool.not_true, Bool.and_false, Bool.false_eq_true, if_false]
   ·rw [Bool.not_eq_true] at hi
    simp only [hi, hs, Bool.false_eq_true, if_false, Bool.not_false, Bool.and_true]
    by_cases h2 : (k : Int) = 2
    ·obtain rfl : k = 2 := by omega
     simp only [beq_self_eq_true, if_true, get2, Option.bind_some, (Ku C.m _ n).1, set2, show ((2 : Nat) : Int) = 2 from rfl]
    ·have : ((k : Int) == 2) = false := by simpa using h2
     simp only [this, Bool.false_eq_true, if_false]
def fil (f : Nat → Int) : Nat → Nat → aA → aA
 | 0, _, a => a
 | m + 1, k, a => fil f m (k + 1) (aA.set a k (f k))
theorem Mi (M : List (Int × bM)) (C : iF) (root : Bool) (up : aA) (j : aA → Option aA) : ∀ (m k n : Nat) (a : aA), k + m = 22 → m < n → dY M C root up j n (k : Int) a = j (fil (fun k => tH root C.m up k (M.lookup (k : Int))) m k a)
 | 0, k, n, a, hk, hn => by
  obtain ⟨n, rfl⟩ : ∃ m, n = m + 1 := ⟨n - 1, by omega⟩
  rw [dY, if_neg (by simp; omega)]; rfl
 | m + 1, k, n, a, hk, hn => by
  obtain ⟨n, rfl⟩ : ∃ m, n = m + 1 := ⟨n - 1, by omega⟩
  rw [Yk M C root up j n k (by omega) a, Mi M C root up j m (k + 1) n _ (by omega) (by omega), fil]
def iz (k : Nat) : List Int := nV 0 k
def yS (s : bH) : List Int := sQ s [] (iz s.Rules.length)
def Ya (t : bA) (st : List aR) (s : bH) (th : bS) (m : cY) (x : aP) (up : aA) (root : Bool) : aA :=
 fil (fun k => tH root m up k (Mv (Tk th m s (Nq t st s x) (k : Int)) s (yS s)).1) 22 0 zer
theorem iz_in {s : bH} {i : Int} (h : i ∈ iz s.Rules.length) : Ze s i := by
 have := yR.1 h
 exact ⟨by omega, by omega⟩
theorem aAo {s : bH} {i : Int} (h : i ∈ yS s) : Ze s i := by
 rcases Nd h with h | h
 ·cases h
 ·exact iz_in h
theorem Mw (s : bH) : ∀ (l R : List Int), (sQ s R l).length = R.length + l.length
 | [], R => rfl
 | x :: l, R => by rw [sQ, Mw s l, Ee, List.length_cons]; omega
theorem Xj {t : bA} {v : aJ} (h : cM t v) (hv : nZ 4 v) (st : List aR) (hst : st.length ≤ 1000) {s : bH} (hs : iX s) (th : bS) (hth : th.Tokens.length ≤ 1000) (m : cY) (x : aP) (hx : x ∈ t.Nodes) (up : aA) (root : Bool) (n : Nat) (hn : 3000 ≤ n) :
  mK n (iF.mk ⟨jZ t.Nodes, sT t.Nodes, Rp st⟩ s.Rules (yS s).reverse th m) x.ID up root = some (Ya t st s th m x up root) := by
 have hl : (yS s).length ≤ 6 := by
  have h1 := Mw s (iz s.Rules.length) []
  have h2 := hs.len
  unfold yS
  rw [h1]
  unfold iz
  rw [kB]
  simp; omega
 have hc : lF n (iF.mk ⟨jZ t.Nodes, sT t.Nodes, Rp st⟩ s.Rules (yS s).reverse th m) x.ID = some (chs th m s (Nq t st s x) (yS s).reverse []) := by
  unfold lF aS
  exact aBp h hv st hst hs th hth m x hx (yS s).reverse (fun i hi => aAo (by simpa using hi)) (by simp; omega) _ (yS s).reverse [] n 0 [] rfl rfl (by simp; omega)
 unfold mK aS
 rw [hc]
 simp only [Option.bind_some]
 refine (Mi _ _ root up _ 22 0 n zer rfl (by omega)).trans ?_
 unfold Ya
 congr 2
 funext k
 rw [Oh]
 show tH root m up k (List.foldl _ none _) = _
 rw [Nh]
end Go.Proofs.YtojkihhnioeggaaGreatDoor.S
