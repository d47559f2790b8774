import Derived.Test.YtojkihhnioeggaaGreatDoorQCCs2
import Derived.WalkKit
import Derived.WalkSpells
import Derived.WalkLawsBesides
import Derived.Deep.QuietTactic
import Derived.BigQuiet
import Derived.BigRegion
import Derived.Lib.Hide
import Derived.Deep.RegionWith
set_option linter.unusedSimpArgs false
set_option linter.unusedVariables false
set_option linter.unusedSimpArgs false
set_option linter.unusedVariables false
namespace Go.Proofs.YtojkihhnioeggaaGreatDoor.S
open Go Go.Bm
def efd (th : bS) (m : cQ) (d : bN) : Option bN :=
 if d.Source = 1 then (if ((Pi m d.Token th.Tokens).2 && xE d.Prop_ (Pi m d.Token th.Tokens).1) = true then some (bN.mk d.Prop_ d.Source (Pi m d.Token th.Tokens).1 d.Token) else none) else some d
def Me (th : bS) (m : cQ) (p : Int) : List bN → Option bN → Option bN
 | [], a => a
 | d :: l, a => Me th m p l (if d.Prop_ = p then (match efd th m d with | none => a | some e => some e) else a)
theorem Qf (th : bS) (m : cQ) (p : Int) : ∀ (l : List bN) (a : Option bN), Me th m p l a = (Me th m p l none).or a
 | [], a => by cases a <;> rfl
 | d :: l, a => by
  rw [Me, Me, Qf th m p l, Qf th m p l (if d.Prop_ = p then _ else none)]
  by_cases h : d.Prop_ = p
  ·rw [if_pos h, if_pos h]
   cases efd th m d with
   | none => cases Me th m p l none <;> cases a <;> rfl
   | some e => cases Me th m p l none <;> rfl
  ·rw [if_neg h, if_neg h]
   cases Me th m p l none <;> cases a <;> rfl
def chd (th : bS) (m : cQ) : List bN → List (Int × bN) → List (Int × bN)
 | [], M => M
 | d :: l, M => chd th m l (match efd th m d with | none => M | some e => iU d.Prop_ e M)
theorem Nt (th : bS) (m : cQ) (p : Int) : ∀ (l : List bN) (M : List (Int × bN)), (chd th m l M).lookup p = Me th m p l (M.lookup p)
 | [], M => rfl
 | d :: l, M => by
  rw [chd, Me, Nt th m p l]
  congr 1
  cases efd th m d with
  | none => simp
  | some e =>
   show (iU d.Prop_ e M).lookup p = _
   rw [Bj]
   by_cases h : d.Prop_ = p
   ·rw [if_pos h, if_pos h.symm]
   ·rw [if_neg h, if_neg fun h' => h h'.symm]
structure ThOk (th : bS) : Prop where
 len : th.Tokens.length ≤ 3
theorem ch_L1 (th : bS) (m : cQ) (hth : th.Tokens.length ≤ 1000) (r : bZ) (C : iP) (hC : C.th = th ∧ C.m = m) (j : List (Int × bN) → Option (List (Int × bN))) (p1 v26 : Int) (hz : r.Decls.length ≤ 1000) : ∀ (l pre : List bN) (n : Nat) (q : Int) (M : List (Int × bN)), r.Decls = pre ++ l → q = pre.length → l.length + 1010 < n →
  fS r C j p1 v26 n q M = j (chd th m l M)
 | [], pre, n, q, M, ht, hq, hn => by
  obtain ⟨n, rfl⟩ : ∃ m, n = m + 1 := ⟨n - 1, by simp at hn; omega⟩
  have hlen : r.Decls.length = pre.length := by rw [ht]; simp
  rw [fS, if_neg (by simp; omega)]; rfl
 | d :: l, pre, n, q, M, ht, hq, hn => by
  obtain ⟨n, rfl⟩ : ∃ m, n = m + 1 := ⟨n - 1, by simp at hn; omega⟩
  have hlen : r.Decls.length = pre.length + (l.length + 1) := by rw [ht]; simp
  have hw : IntKind.wrap .i64 (q + 1) = q + 1 := Go.Bm.aU (by omega) (by omega)
  have ih := fun M => ch_L1 th m hth r C hC j p1 v26 hz l (pre ++ [d]) n (q + 1) M (by rw [ht]; simp) (by simp; omega) (by simp at hn; omega)
  have hl := (Sw th hth m d.Token n (by simp at hn; omega)).1
  rw [fS, if_pos (by simp; omega), hC.1, hC.2]
  unfold aS
  rw [kK ht hq]
  simp only [Option.bind_some, hw, hl, (Gm n d.Prop_ _).1]
  rw [chd]
  unfold efd
  by_cases hs : d.Source = 1
  ·rw [if_pos (by simpa using hs), if_pos hs]
   cases hb : (Pi m d.Token th.Tokens).2 <;> cases hr : xE d.Prop_ (Pi m d.Token th.Tokens).1
   all_goals simp [gd, ih, hr]
   all_goals rfl
  ·rw [if_neg (by simpa using hs), if_neg hs]
   exact ih _
def chs (th : bS) (m : cQ) (s : bK) (mt : Int → Bool) : List Int → List (Int × bN) → List (Int × bN)
 | [], M => M
 | i :: l, M => chs th m s mt l (if mt i = true then chd th m ((idx s.Rules i).getD default).Decls M else M)
def Tw (th : bS) (m : cQ) (s : bK) (mt : Int → Bool) (p : Int) (i : Int) : Option bN := if mt i = true then Me th m p ((idx s.Rules i).getD default).Decls none else none
theorem Pd (th : bS) (m : cQ) (s : bK) (mt : Int → Bool) (p : Int) : ∀ (l : List Int) (M : List (Int × bN)), (chs th m s mt l M).lookup p = l.foldl (fun a i => (Tw th m s mt p i).or a) (M.lookup p)
 | [], M => rfl
 | i :: l, M => by
  rw [chs, Pd th m s mt p l, List.foldl_cons]
  congr 1
  unfold Tw
  cases mt i
  ·simp
  ·simp only [if_true]
   rw [Nt, Qf]
theorem Oa {V : Type} (app : Int → Option V) (s : bK) : ∀ (R : List Int), R.reverse.foldl (fun a i => (app i).or a) none = (Np app s R).1
 | [] => rfl
 | i :: l => by
  rw [List.reverse_cons, List.foldl_append, Oa app s l]
  unfold Np
  rw [Lx]
  cases ha : app i with
  | none => simp [ha]
  | some v => simp [ha]
def Oj (t : bB) (st : List aT) (s : bK) (x : aR) (i : Int) : Bool := (jH 1100 ((idx s.Rules i).getD default) t st x.ID).getD false
theorem Zi {t : bB} {v : aL} (h : cV t v) (hv : pQ 4 v) (st : List aT) (hst : st.length ≤ 1000) (s : bK) (x : aR) (hx : x ∈ t.Nodes) {i : Int} {r : bZ} (hr : idx s.Rules i = some r) (n : Nat) (hn : 1100 ≤ n) : lA n ⟨kX t.Nodes, uD t.Nodes, Tt st⟩ r x.ID = some (Oj t st s x i) ∧ jH n r t st x.ID = some (Oj t st s x i) := by
 obtain ⟨b, hb⟩ := Pk h hv st hst r x hx
 unfold Oj
 rw [hr]
 have := (hb 1100 (Nat.le_refl _)).2
 rw [show ((some r).getD default) = r from rfl, this]
 exact hb n hn
theorem ch_L0 {t : bB} {v : aL} (h : cV t v) (hv : pQ 4 v) (st : List aT) (hst : st.length ≤ 1000) {s : bK} (hs : kO s) (th : bS) (hth : th.Tokens.length ≤ 1000) (m : cQ) (x : aR) (hx : x ∈ t.Nodes) (ord : List Int) (ho : ∀ i, i ∈ ord → Zp s i) (hz : ord.length ≤ 1000) (j : List (Int × bN) → Option (List (Int × bN))) : ∀ (l pre : List Int) (n : Nat) (q : Int) (M : List (Int × bN)), ord = pre ++ l → q = pre.length → l.length + 1200 < n →
  fO (iP.mk ⟨kX t.Nodes, uD t.Nodes, Tt st⟩ s.Rules ord th m) x.ID j n q M = j (chs th m s (Oj t st s x) l M)
 | [], pre, n, q, M, ht, hq, hn => by
  obtain ⟨n, rfl⟩ : ∃ m, n = m + 1 := ⟨n - 1, by simp at hn; omega⟩
  have hlen : ord.length = pre.length := by rw [ht]; simp
  rw [fO, if_neg (by simp; omega)]; rfl
 | i :: l, pre, n, q, M, ht, hq, hn => by
  obtain ⟨n, rfl⟩ : ∃ m, n = m + 1 := ⟨n - 1, by simp at hn; omega⟩
  have hlen : ord.length = pre.length + (l.length + 1) := by rw [ht]; simp
  have hw : IntKind.wrap .i64 (q + 1) = q + 1 := Go.Bm.aU (by omega) (by omega)
  have ih := fun M => ch_L0 h hv st hst hs th hth m x hx ord ho hz j l (pre ++ [i]) n (q + 1) M (by rw [ht]; simp) (by simp; omega) (by simp at hn; omega)
  have hi := ho i (by rw [ht]; simp)
  obtain ⟨r, hr, hrm⟩ := zO s.Rules i hi.lo hi.hi
  have hm := (Zi h hv st hst s x hx hr n (by simp at hn; omega)).1
  rw [fO, if_pos (by simp; omega)]
  unfold aS
  show ((idx ord q).bind _) = _
  rw [kK ht hq]
  simp only [Option.bind_some, hw, hr, hm]
  rw [chs]
  cases hb : Oj t st s x i
  ·simp only [Bool.not_false, if_true, Bool.false_eq_true, if_false]
   exact ih M
  ·simp only [Bool.not_true, Bool.false_eq_true, if_false, if_true]
   have hd := (hs.ok r hrm).len
   rw [ch_L1 th m hth r _ ⟨rfl, rfl⟩ _ x.ID q (by omega) r.Decls [] n 0 M rfl rfl (by simp at hn; omega), hr]
   exact ih _
def Xl (k : Nat) : Bool := (gW 0 (k : Int)).getD false
def Uz (k : Nat) : Int := ((idx aZ (k : Int)).getD default).start
def zer : aA := aA.mk 0 0 0 0 0 0 0 0 0 0 0 0 0 0 0 0 0 0 0 0 0 0
def inA : aA := aA.mk 0 (-1 : Int) 16 0 0 1 3 0 0 0 0 1 (-1 : Int) 0 1048576 0 1048576 0 0 0 0 0
theorem Qy (k : Nat) (hk : k < 22) (n : Nat) : gW n (k : Int) = some (Xl k) ∧ iZ n (k : Int) = some (Xl k) ∧ (∃ e, idx aZ (k : Int) = some e ∧ e.start = Uz k) ∧ idx (aA.toL inA) (k : Int) = some (Uz k) ∧ xE (k : Int) (Uz k) = true := by
 have key : ∀ k : Nat, gW n (k : Int) = some (Xl k) → iZ n (k : Int) = some (Xl k) → (idx aZ (k : Int)).isSome = true → idx (aA.toL inA) (k : Int) = some (Uz k) → xE (k : Int) (Uz k) = true → gW n (k : Int) = some (Xl k) ∧ iZ n (k : Int) = some (Xl k) ∧ (∃ e, idx aZ (k : Int) = some e ∧ e.start = Uz k) ∧ idx (aA.toL inA) (k : Int) = some (Uz k) ∧ xE (k : Int) (Uz k) = true := by
  intro k h1 h2 h3 h4 h5
  refine ⟨h1, h2, ?_, h4, h5⟩
  unfold Uz
  cases h : idx aZ (k : Int) with
  | none => rw [h] at h3; cases h3
  | some e => exact ⟨e, rfl, rfl⟩
 rcases k with _ | _ | _ | _ | _ | _ | _ | _ | _ | _ | _ | _ | _ | _ | _ | _ | _ | _ | _ | _ | _ | _ | k
 iterate 22 exact key _ (by kernel_rfl) (by kernel_rfl) (by kernel_rfl) (by kernel_rfl) (by kernel_rfl)
 omega
def gt (a : aA) (k : Nat) : Int := (aA.toL a)[k]?.getD 0
theorem Wm (a : aA) (k : Nat) (hk : k < 22) : (aA.toL a)[k]? = some (gt a k) := by
 unfold gt
 rw [List.getElem?_eq_getElem (by show k < 22; exact hk)]
 rfl
def Ff (root : Bool) (up : aA) (k : Nat) : Option bN → Int × Bool
 | none => if (Xl k && !root) = true then (gt up k, true) else (Uz k, false)
 | some d => if (d.Source == 0 || d.Source == 1) = true then (d.N, false) else if (d.Source == 2 && !root) = true then (gt up k, true) else (Uz k, false)
def Cj (root : Bool) (m : cQ) (up : aA) (k : Nat) (o : Option bN) : Int := if (((k : Int) == 2) && !(Ff root up k o).2) = true then siz m (Ff root up k o).1 else (Ff root up k o).1
theorem Xe {k : Nat} (hk : k < 22) : uU (k : Int) 22 = some k := by
 unfold uU; rw [if_pos ⟨by omega, by omega⟩]; simp
theorem set2 (a : aA) (x y : Int) : aA.set (aA.set a 2 x) 2 y = aA.set a 2 y := by kernel_rfl
theorem get2 (a : aA) (x : Int) : (aA.toL (aA.set a 2 x))[2]? = some x := by kernel_rfl
theorem Yu (M : List (Int × bN)) (C : iP) (root : Bool) (up : aA) (j : aA → Option aA) (n k : Nat) (hk : k < 22) (a : aA) : dX M C root up j (n + 1) (k : Int) a = dX M C root up j n ((k + 1 : Nat) : Int) (aA.set a k (Cj root C.m up k (M.lookup (k : Int)))) := by
 obtain ⟨h1, _, ⟨e, h3, h3'⟩, _⟩ := Qy k hk n
 have hw : IntKind.wrap .i64 ((k : Int) + 1) = ((k + 1 : Nat) : Int) := by rw [Go.Bm.aU (by omega) (by omega)]; omega
 rw [dX, if_pos (by simp; omega)]
 unfold aS
 simp only [Option.bind_some, hw, Xe hk, Wm up k hk, h1, h3, h3', eO, kU]
 unfold Cj
 cases ho : M.lookup (k : Int) with
 | none =>
  simp only [Option.getD_none, Option.isSome_none, Bool.false_and, Bool.not_false, Bool.true_and, gd, List.all_cons, List.all_nil, id, Bool.and_true, if_true, Option.bind_some, Bool.false_or, Ff]
  by_cases hi : (Xl k && !root) = true
  ·simp only [hi, if_true, Bool.not_true, Bool.and_false, Bool.false_eq_true, if_false]
  ·rw [Bool.not_eq_true] at hi
   simp only [hi, Bool.false_eq_true, if_false, Bool.not_false, Bool.and_true]
   by_cases h2 : (k : Int) = 2
   ·obtain rfl : k = 2 := by omega
    simp only [beq_self_eq_true, if_true, get2, Option.bind_some, (Lo C.m _ n).1, set2, show ((2 : Nat) : Int) = 2 from rfl]
   ·have : ((k : Int) == 2) = false := by simpa using h2
    simp only [this, Bool.false_eq_true, if_false]
 | some d =>
  simp only [Option.getD_some, Option.isSome_some, Bool.true_and, Bool.not_true, Bool.false_and, Bool.or_false, Ff]
  have hg : ∀ b : Bool, (gd [b, false] (some (Xl k))) = some default := fun b => by cases b <;> rfl
  simp only [hg, Option.bind_some]
  by_cases hs : (d.Source == 0 || d.Source == 1) = true
  ·have hs2 : (d.Source == 2) = false := by
    simp only [Bool.or_eq_true, beq_iff_eq] at hs
    rw [beq_eq_false_iff_ne]; omega
   simp only [hs2, Bool.false_and, Bool.false_eq_true, if_false, hs, if_true, Bool.not_false, Bool.and_true]
   by_cases h2 : (k : Int) = 2
   ·obtain rfl : k = 2 := by omega
    simp only [beq_self_eq_true, if_true, get2, Option.bind_some, (Lo C.m _ n).1, set2, show ((2 : Nat) : Int) = 2 from rfl]
   ·have : ((k : Int) == 2) = false := by simpa using h2
    simp only [this, Bool.false_eq_true, if_false]
  ·rw [Bool.not_eq_true] at hs
   by_cases hi : (d.Source == 2 && !root) = true
   ·simp only [hi, hs, if_true, Bool.not_true, Bool.and_false, Bool.false_eq_true, if_false]
   ·rw [Bool.not_eq_true] at hi
    simp only [hi, hs, Bool.false_eq_true, if_false, Bool.not_false, Bool.and_true]
    by_cases h2 : (k : Int) = 2
    ·obtain rfl : k = 2 := by omega
     simp only [beq_self_eq_true, if_true, get2, Option.bind_some, (Lo C.m _ n).1, set2, show ((2 : Nat) : Int) = 2 from rfl]
    ·have : ((k : Int) == 2) = false := by simpa using h2
     simp only [this, Bool.false_eq_true, if_false]
def fil (f : Nat → Int) : Nat → Nat → aA → aA
 | 0, _, a => a
 | m + 1, k, a => fil f m (k + 1) (aA.set a k (f k))
theorem Nb (M : List (Int × bN)) (C : iP) (root : Bool) (up : aA) (j : aA → Option aA) : ∀ (m k n : Nat) (a : aA), k + m = 22 → m < n → dX M C root up j n (k : Int) a = j (fil (fun k => Cj root C.m up k (M.lookup (k : Int))) m k a)
 | 0, k, n, a, hk, hn => by
  obtain ⟨n, rfl⟩ : ∃ m, n = m + 1 := ⟨n - 1, by omega⟩
  rw [dX, if_neg (by simp; omega)]; rfl
 | m + 1, k, n, a, hk, hn => by
  obtain ⟨n, rfl⟩ : ∃ m, n = m + 1 := ⟨n - 1, by omega⟩
  rw [Yu M C root up j n k (by omega) a, Nb M C root up j m (k + 1) n _ (by omega) (by omega), fil]
def iz (k : Nat) : List Int := oV 0 k
def yX (s : bK) : List Int := sT s [] (iz s.Rules.length)
def Yk (t : bB) (st : List aT) (s : bK) (th : bS) (m : cQ) (x : aR) (up : aA) (root : Bool) : aA :=
 fil (fun k => Cj root m up k (Np (Tw th m s (Oj t st s x) (k : Int)) s (yX s)).1) 22 0 zer
theorem iz_in {s : bK} {i : Int} (h : i ∈ iz s.Rules.length) : Zp s i := by
 have := yW.1 h
 exact ⟨by omega, by omega⟩
theorem ordR_in {s : bK} {i : Int} (h : i ∈ yX s) : Zp s i := by
 rcases Nx h with h | h
 ·cases h
 ·exact iz_in h
theorem Nq (s : bK) : ∀ (l R : List Int), (sT s R l).length = R.length + l.length
 | [], R => rfl
 | x :: l, R => by rw [sT, Nq s l, Es, List.length_cons]; omega
theorem Xu {t : bB} {v : aL} (h : cV t v) (hv : pQ 4 v) (st : List aT) (hst : st.length ≤ 1000) {s : bK} (hs : kO s) (th : bS) (hth : th.Tokens.length ≤ 1000) (m : cQ) (x : aR) (hx : x ∈ t.Nodes) (up : aA) (root : Bool) (n : Nat) (hn : 3000 ≤ n) :
  nA n (iP.mk ⟨kX t.Nodes, uD t.Nodes, Tt st⟩ s.Rules (yX s).reverse th m) x.ID up root = some (Yk t st s th m x up root) := by
 have hl : (yX s).length ≤ 6 := by
  have h1 := Nq s (iz s.Rules.length) []
  have h2 := hs.len
  unfold yX
  rw [h1]
  unfold iz
  rw [mJ]
  simp; omega
 have hc : lR n (iP.mk ⟨kX t.Nodes, uD t.Nodes, Tt st⟩ s.Rules (yX s).reverse th m) x.ID = some (chs th m s (Oj t st s x) (yX s).reverse []) := by
  unfold lR aS
  exact ch_L0 h hv st hst hs th hth m x hx (yX s).reverse (fun i hi => ordR_in (by simpa using hi)) (by simp; omega) _ (yX s).reverse [] n 0 [] rfl rfl (by simp; omega)
 unfold nA aS
 rw [hc]
 simp only [Option.bind_some]
 refine (Nb _ _ root up _ 22 0 n zer rfl (by omega)).trans ?_
 unfold Yk
 congr 2
 funext k
 rw [Pd]
 show Cj root m up k (List.foldl _ none _) = _
 rw [Oa]
end Go.Proofs.YtojkihhnioeggaaGreatDoor.S
