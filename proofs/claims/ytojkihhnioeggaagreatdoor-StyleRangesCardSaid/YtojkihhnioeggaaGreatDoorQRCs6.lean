import Derived.Test.YtojkihhnioeggaaGreatDoorQRCs5
import Derived.WalkKit
import Derived.WalkSpells
import Derived.WalkLawsBesides
import Derived.Deep.QuietTactic
import Derived.BigQuiet
import Derived.BigRegion
import Derived.Lib.Hide
import Derived.Deep.RegionWith
set_option linter.unusedSimpArgs false
set_option linter.unusedVariables false
set_option linter.unusedSimpArgs false
set_option linter.unusedVariables false
set_option linter.unusedSectionVars false
namespace Go.Proofs.YtojkihhnioeggaaGreatDoor.S
open Go Go.Bm
theorem Hc {β : Type} [Inhabited β] {M : List (Int × β)} {k : Int} {s : β} (h : M.lookup k = some s) : eN k M = s := by
 unfold eN; rw [h]; rfl
section
variable (F : aP → aA → aA)
def mE : List aP → List (Int × aA) → List (Int × aA)
 | [], M => M
 | x :: l, M => mE l (M ++ [(x.ID, F x (eN x.Parent M))])
theorem nV : ∀ (l : List aP) (M : List (Int × aA)), (mE F l M).map Prod.fst = M.map Prod.fst ++ l.map aP.ID
 | [], M => by simp [mE]
 | x :: l, M => by rw [mE, nV l]; simp
theorem yV : ∀ (l : List aP) (x : aP) (M : List (Int × aA)), mE F (l ++ [x]) M = mE F l M ++ [(x.ID, F x (eN x.Parent (mE F l M)))]
 | [], x, M => rfl
 | y :: l, x, M => by rw [List.cons_append, mE, yV l, mE]
end
def Bw (M : List (Int × aA)) : List bC := M.map fun p => ⟨p.1, p.2⟩
theorem Hq (q : Int) (j : Unit → Option aA) (hj : j () = some (default : aA)) (M : List (Int × aA)) (hz : M.length ≤ 1000) : ∀ (l pre : List (Int × aA)) (n : Nat) (i : Int), M = pre ++ l → i = pre.length → l.length < n → mG (Bw M) q j n i = some ((l.lookup q).getD default)
 | [], pre, n, i, ht, hq, hn => by
  obtain ⟨n, rfl⟩ : ∃ m, n = m + 1 := ⟨n - 1, by simp at hn; omega⟩
  have hlen : M.length = pre.length := by rw [ht]; simp
  rw [mG, if_neg (by simp [Bw]; omega), hj]; rfl
 | x :: l, pre, n, i, ht, hq, hn => by
  obtain ⟨n, rfl⟩ : ∃ m, n = m + 1 := ⟨n - 1, by simp at hn; omega⟩
  have hlen : M.length = pre.length + (l.length + 1) := by rw [ht]; simp
  have hw : IntKind.wrap .i64 (i + 1) = i + 1 := Go.Bm.aS (by omega) (by omega)
  have hix : idx (Bw M) i = some (bC.mk x.1 x.2) := jQ (pre := Bw pre) (l := Bw l) (by rw [ht]; simp [Bw]) (by simpa [Bw] using hq)
  rw [mG, if_pos (by simp [Bw]; omega), hix]
  simp only [Option.bind_some, hw]
  rw [List.lookup_cons]
  by_cases e : x.1 = q
  ·rw [if_pos (by simpa using e), beq_iff_eq.2 e.symm]; rfl
  ·rw [if_neg (by simpa using e), beq_eq_false_iff_ne.2 fun h => e h.symm]
   exact Hq q j hj M hz l (pre ++ [x]) n (i + 1) (by rw [ht]; simp) (by simp; omega) (by simp at hn; omega)
theorem Zc (M : List (Int × aA)) (hz : M.length ≤ 1000) (q : Int) (n : Nat) (hn : 1010 ≤ n) : wV n (Bw M) q = some (eN q M) := by
 unfold wV aR
 exact Hq q _ rfl M hz M [] n 0 rfl rfl (by omega)
theorem Wv (s : bE) (hz : s.Rules.length ≤ 100) (j : List Int → Option ((List bC) × Int)) (t : bA) (S : iY) (th : bM) (m : cQ) : ∀ (k i n : Nat), i + k = s.Rules.length → k < n → fV s j t S th m n (i : Int) (iz i) = j (iz s.Rules.length)
 | 0, i, n, hi, hn => by
  obtain ⟨n, rfl⟩ : ∃ m, n = m + 1 := ⟨n - 1, by omega⟩
  obtain rfl : i = s.Rules.length := by omega
  rw [fV, if_neg (by simp)]
 | k + 1, i, n, hi, hn => by
  obtain ⟨n, rfl⟩ : ∃ m, n = m + 1 := ⟨n - 1, by omega⟩
  have hw : IntKind.wrap .i64 ((i : Int) + 1) = ((i + 1 : Nat) : Int) := by rw [Go.Bm.aS (by omega) (by omega)]; omega
  rw [fV, if_pos (by simp; omega), wX (by unfold iz; rw [lR]; simp; omega) (by decide)]
  simp only [Option.bind_some, hw]
  have : iz i ++ [(i : Int)] = iz (i + 1) := by unfold iz; rw [vU]; simp [oC]
  rw [this]
  exact Wv s hz j t S th m k (i + 1) n (by omega) (by omega)
section
variable {t : bA} {v : aG} (h : cT t v) (hv : oT 4 v) (st : List aT) (hst : st.length ≤ 1000) {s : bE} (hs : iE s) (th : bM) (hth : th.Tokens.length ≤ 1000) (m : cQ)
def sF (t : bA) (st : List aT) (s : bE) (th : bM) (m : cQ) (x : aP) (up : aA) : aA := Po t st s th m x up (x.Parent == 0)
include h hv hst hs hth
theorem Tz (j : List (Int × aA) → Option ((List bC) × Int)) : ∀ (l pre : List aP) (n : Nat) (q : Int), t.Nodes = pre ++ l → q = pre.length → l.length + 3100 < n →
  fR (oC t.Root (gD v)) ⟨kE t.Nodes, tO t.Nodes, Sf st⟩ s (wY s).reverse th m t j n q (mE (sF t st s th m) pre []) = j (mE (sF t st s th m) t.Nodes [])
 | [], pre, n, q, ht, hq, hn => by
  obtain ⟨n, rfl⟩ : ∃ m, n = m + 1 := ⟨n - 1, by omega⟩
  have hlen : t.Nodes.length = pre.length := by rw [ht]; simp
  have hl := h.len
  rw [fR, if_neg (by simp [lR]; omega), ht, List.append_nil]
 | x :: l, pre, n, q, ht, hq, hn => by
  obtain ⟨n, rfl⟩ : ∃ m, n = m + 1 := ⟨n - 1, by omega⟩
  have hlen : t.Nodes.length = pre.length + (l.length + 1) := by rw [ht]; simp
  have hl := h.len
  have hsz := h.size
  have hroot := h.root
  simp only [List.length_cons] at hn
  have hw : IntKind.wrap .i64 (q + 1) = q + 1 := Go.Bm.aS (by omega) (by omega)
  have hx : x ∈ t.Nodes := by rw [ht]; simp
  have hnd := h.nodup
  have hid : x.ID = t.Root + (pre.length : Nat) := by
   obtain ⟨y, hy, _, hyi⟩ := h.nth (q := pre.length) (by omega)
   rw [ht, List.getElem?_append_right (Nat.le_refl _), Nat.sub_self] at hy
   obtain rfl : x = y := Option.some.inj hy
   exact hyi
  have hidx : idx (oC t.Root (gD v)) q = some x.ID := by
   rw [hq, hid]; exact yN (vQ _ _ _ (by omega))
  have hlook : eN x.ID (kE t.Nodes) = x := by unfold eN; rw [mQ hnd hx]; rfl
  have hpar : (x.ID == t.Root) = (x.Parent == 0) := by
   rcases h.prt hx with ⟨e1, e2⟩ | ⟨e1, e2, e3⟩
   ·rw [beq_iff_eq.2 e1, beq_iff_eq.2 e2]
   ·have a : (x.ID == t.Root) = false := by rw [beq_eq_false_iff_ne]; omega
    have b : (x.Parent == 0) = false := by rw [beq_eq_false_iff_ne]; omega
    rw [a, b]
  have hnew : ∀ p, p ∈ mE (sF t st s th m) pre [] → p.1 ≠ x.ID := fun p hp e => by
   have hk : p.1 ∈ (mE (sF t st s th m) pre []).map Prod.fst := List.mem_map.2 ⟨p, hp, rfl⟩
   rw [nV] at hk
   rw [ht, List.map_append, List.nodup_append] at hnd
   exact hnd.2.2 p.1 (by simpa using hk) x.ID (by simp) e
  have hsty := Wh h hv st hst hs th hth m x hx (eN x.Parent (mE (sF t st s th m) pre [])) (x.ID == t.Root) n (by omega)
  rw [fR, if_pos (by simp [lR]; omega), hidx]
  simp only [Option.bind_some, hw]
  rw [hlook, hsty]
  simp only [Option.bind_some]
  rw [sI hnew]
  have := Tz j l (pre ++ [x]) n (q + 1) (by rw [ht]; simp) (by simp; omega) (by omega)
  rw [yV] at this
  unfold sF at this ⊢
  rw [hpar]
  exact this
theorem Qd (j : List bC → Option ((List bC) × Int)) : ∀ (l pre : List aP) (n : Nat) (q : Int), t.Nodes = pre ++ l → q = pre.length → l.length + 3100 < n →
  jI (oC t.Root (gD v)) t s th m st j n (Bw (mE (sF t st s th m) pre [])) q = j (Bw (mE (sF t st s th m) t.Nodes []))
 | [], pre, n, q, ht, hq, hn => by
  obtain ⟨n, rfl⟩ : ∃ m, n = m + 1 := ⟨n - 1, by omega⟩
  have hlen : t.Nodes.length = pre.length := by rw [ht]; simp
  have hl := h.len
  rw [jI, if_neg (by simp [lR]; omega), ht, List.append_nil]
 | x :: l, pre, n, q, ht, hq, hn => by
  obtain ⟨n, rfl⟩ : ∃ m, n = m + 1 := ⟨n - 1, by omega⟩
  have hlen : t.Nodes.length = pre.length + (l.length + 1) := by rw [ht]; simp
  have hl := h.len
  have hsz := h.size
  have hroot := h.root
  simp only [List.length_cons] at hn
  have hw : IntKind.wrap .i64 (q + 1) = q + 1 := Go.Bm.aS (by omega) (by omega)
  have hx : x ∈ t.Nodes := by rw [ht]; simp
  have hid : x.ID = t.Root + (pre.length : Nat) := by
   obtain ⟨y, hy, _, hyi⟩ := h.nth (q := pre.length) (by omega)
   rw [ht, List.getElem?_append_right (Nat.le_refl _), Nat.sub_self] at hy
   obtain rfl : x = y := Option.some.inj hy
   exact hyi
  have hidx : idx (oC t.Root (gD v)) q = some x.ID := by
   rw [hq, hid]; exact yN (vQ _ _ _ (by omega))
  have hml : (mE (sF t st s th m) pre []).length = pre.length := by
   have := congrArg List.length (nV (sF t st s th m) pre [])
   simpa using this
  have hsty := Nx h hv st hst hs th hth m x hx (eN x.Parent (mE (sF t st s th m) pre [])) (x.Parent == 0) n (by omega)
  rw [jI, if_pos (by simp [lR]; omega), hidx]
  simp only [Option.bind_some, hw]
  rw [yX h n (by omega) hx]
  simp only [Option.bind_some]
  rw [Zc _ (by omega) _ n (by omega)]
  simp only [Option.bind_some]
  rw [hsty]
  simp only [Option.bind_some]
  rw [wX (by simp [Bw]; omega) (by decide)]
  simp only [Option.bind_some]
  have := Qd j l (pre ++ [x]) n (q + 1) (by rw [ht]; simp) (by simp; omega) (by omega)
  rw [yV] at this
  have e : Bw (mE (sF t st s th m) pre []) ++ [bC.mk x.ID (Po t st s th m x (eN x.Parent (mE (sF t st s th m) pre [])) (x.Parent == 0))] = Bw (mE (sF t st s th m) pre [] ++ [(x.ID, sF t st s th m x (eN x.Parent (mE (sF t st s th m) pre [])))]) := by
   simp [Bw, sF]
  rw [e]
  exact this
theorem Kw : ∀ (l pre : List aP), t.Nodes = pre ++ l → (∀ p, p ∈ mE (sF t st s th m) pre [] → Ar p.2) → ∀ p, p ∈ mE (sF t st s th m) t.Nodes [] → Ar p.2
 | [], pre, ht, hp => by rw [ht, List.append_nil]; exact hp
 | x :: l, pre, ht, hp => by
  refine Kw l (pre ++ [x]) (by rw [ht]; simp) fun p hpp => ?_
  rw [yV] at hpp
  rcases List.mem_append.1 hpp with hpp | hpp
  ·exact hp p hpp
  ·simp only [List.mem_singleton] at hpp
   subst hpp
   have hx : x ∈ t.Nodes := by rw [ht]; simp
   refine Xe st hs th m x _ _ fun hroot => ?_
   have hr0 : x.Parent ≠ 0 := by simpa using hroot
   rcases h.prt hx with ⟨e1, e2⟩ | ⟨e1, e2, e3⟩
   ·exact absurd e2 hr0
   ·have hsz := h.size
    have hl := h.len
    have hlen : t.Nodes.length = pre.length + (l.length + 1) := by rw [ht]; simp
    have hid : x.ID = t.Root + (pre.length : Nat) := by
     obtain ⟨y, hy, _, hyi⟩ := h.nth (q := pre.length) (by omega)
     rw [ht, List.getElem?_append_right (Nat.le_refl _), Nat.sub_self] at hy
     obtain rfl : x = y := Option.some.inj hy
     exact hyi
    have hpk : x.Parent ∈ (mE (sF t st s th m) pre []).map Prod.fst := by
     rw [nV]
     obtain ⟨y, hy, _, hyi⟩ := h.nth (q := (x.Parent - t.Root).toNat) (by omega)
     rw [ht, List.getElem?_append_left (by omega)] at hy
     have : y ∈ pre := List.mem_of_getElem? hy
     simp only [List.map_nil, List.nil_append]
     exact List.mem_map.2 ⟨y, this, by omega⟩
    obtain ⟨p, hpm, hpe⟩ := List.mem_map.1 hpk
    have hnd : ((mE (sF t st s th m) pre []).map Prod.fst).Nodup := by
     rw [nV]
     have := h.nodup
     rw [ht, List.map_append, List.nodup_append] at this
     simpa using this.1
    have hlk : (mE (sF t st s th m) pre []).lookup x.Parent = some p.2 := by
     rw [← hpe]
     have key : ∀ M : List (Int × aA), (M.map Prod.fst).Nodup → p ∈ M → M.lookup p.1 = some p.2 := by
      intro M
      induction M with
      | nil => intro _ hm; cases hm
      | cons y M ih =>
       intro hn hm
       rw [List.map_cons, List.nodup_cons] at hn
       rw [List.lookup_cons]
       rcases List.mem_cons.1 hm with rfl | hm
       ·simp
       ·have : (p.1 == y.1) = false := by
         rw [beq_eq_false_iff_ne]
         intro e
         exact hn.1 (e ▸ List.mem_map.2 ⟨p, hm, rfl⟩)
        rw [this]; exact ih hn.2 hm
     exact key _ hnd hpm
    rw [Hc hlk]
    exact hp p hpm
end
def Kg (M : List (Int × aA)) (l : List aP) : List bC := l.map fun x => ⟨x.ID, eN x.ID M⟩
theorem Tv (t : bA) (M : List (Int × aA)) (j : List bC → Option ((List bC) × Int)) (hz : t.Nodes.length ≤ 1000) : ∀ (l pre : List aP) (n : Nat) (q : Int), t.Nodes = pre ++ l → q = pre.length → l.length < n → fT t M j n (Kg M pre) q = j (Kg M t.Nodes)
 | [], pre, n, q, ht, hq, hn => by
  obtain ⟨n, rfl⟩ : ∃ m, n = m + 1 := ⟨n - 1, by simp at hn; omega⟩
  have hlen : t.Nodes.length = pre.length := by rw [ht]; simp
  rw [fT, if_neg (by simp; omega), ht, List.append_nil]
 | x :: l, pre, n, q, ht, hq, hn => by
  obtain ⟨n, rfl⟩ : ∃ m, n = m + 1 := ⟨n - 1, by simp at hn; omega⟩
  have hlen : t.Nodes.length = pre.length + (l.length + 1) := by rw [ht]; simp
  have hw : IntKind.wrap .i64 (q + 1) = q + 1 := Go.Bm.aS (by omega) (by omega)
  rw [fT, if_pos (by simp; omega), jQ ht hq]
  simp only [Option.bind_some, hw]
  rw [wX (by simp [Kg]; omega) (by decide)]
  simp only [Option.bind_some]
  rw [show Kg M pre ++ [bC.mk x.ID (eN x.ID M)] = Kg M (pre ++ [x]) from by simp [Kg]]
  exact Tv t M j hz l (pre ++ [x]) n (q + 1) (by rw [ht]; simp) (by simp; omega) (by simp at hn; omega)
theorem Wt : ∀ (M : List (Int × aA)) (l : List aP), M.map Prod.fst = l.map aP.ID → (l.map aP.ID).Nodup → Kg M l = Bw M := by
 intro M l hk hn
 have key : ∀ (M' : List (Int × aA)) (l : List aP), M'.map Prod.fst = l.map aP.ID → (∀ p, p ∈ M' → M.lookup p.1 = some p.2) → Kg M l = Bw M' := by
  intro M'
  induction M' with
  | nil =>
   intro l hk _
   cases l with
   | nil => rfl
   | cons x l => cases hk
  | cons p M' ih =>
   intro l hk hl
   cases l with
   | nil => cases hk
   | cons x l =>
    rw [List.map_cons, List.map_cons] at hk
    injection hk with h1 h2
    have := ih l h2 fun p hp => hl p (by simp [hp])
    unfold Kg Bw at this ⊢
    rw [List.map_cons, List.map_cons, this, ← h1, Hc (hl p (by simp))]
 refine key M l hk fun p hp => ?_
 rw [← hk] at hn
 have key2 : ∀ M : List (Int × aA), (M.map Prod.fst).Nodup → p ∈ M → M.lookup p.1 = some p.2 := by
  intro M
  induction M with
  | nil => intro _ hm; cases hm
  | cons y M ih =>
   intro hn hm
   rw [List.map_cons, List.nodup_cons] at hn
   rw [List.lookup_cons]
   rcases List.mem_cons.1 hm with rfl | hm
   ·simp
   ·have : (p.1 == y.1) = false := by
     rw [beq_eq_false_iff_ne]
     intro e
     exact hn.1 (e ▸ List.mem_map.2 ⟨p, hm, rfl⟩)
    rw [this]; exact ih hn.2 hm
 exact key2 M hn hp
theorem Kt (L : List bC) (hz : L.length ≤ 1000) (ha : ∀ (i : Nat) a b, L[i]? = some a → L[i + 1]? = some b → a.ID ≤ b.ID) (j : Unit → Option (List bC)) : ∀ (k i n : Nat), i + k = L.length → k + 1 < n → iD L j n (i : Int) = j ()
 | 0, i, n, hi, hn => by
  obtain ⟨n, rfl⟩ : ∃ m, n = m + 1 := ⟨n - 1, by omega⟩
  rw [iD, if_neg (by simp; omega)]
 | k + 1, i, n, hi, hn => by
  obtain ⟨n, rfl⟩ : ∃ m, n = m + 1 := ⟨n - 1, by omega⟩
  have hw : IntKind.wrap .i64 ((i : Int) + 1) = ((i + 1 : Nat) : Int) := by rw [Go.Bm.aS (by omega) (by omega)]; omega
  rw [iD, if_pos (by simp; omega)]
  unfold aR
  simp only [hw]
  obtain ⟨n, rfl⟩ : ∃ m, n = m + 1 := ⟨n - 1, by omega⟩
  have ih := Kt L hz ha j k (i + 1) (n + 1) (by omega) (by omega)
  have e : ∀ j' : Unit → Option (List bC), mK (i : Int) L j' (n + 1) () = j' () := fun j' => by
   rw [mK]
   cases i with
   | zero => simp [gd]
   | succ i =>
    have hd : decide (((i + 1 : Nat) : Int) > 0) = true := by rw [decide_eq_true_eq]; omega
    have hw2 : IntKind.wrap .i64 (((i + 1 : Nat) : Int) - 1) = (i : Int) := by rw [Go.Bm.aS (by omega) (by omega)]; omega
    have h1 : i < L.length := by omega
    have h2 : i + 1 < L.length := by omega
    rw [hd, hw2, dS h1, dS h2]
    have := ha i L[i] L[i + 1] (List.getElem?_eq_getElem h1) (List.getElem?_eq_getElem h2)
    have hc : decide (L[i].ID > L[i + 1].ID) = false := by simp; omega
    simp only [uQ, if_true, Option.bind_some, hc, Bool.and_false, Bool.false_eq_true, if_false]
  exact (e _).trans ih
theorem Is (L : List bC) (hz : L.length ≤ 1000) (ha : ∀ (i : Nat) a b, L[i]? = some a → L[i + 1]? = some b → a.ID ≤ b.ID) (n : Nat) (hn : 1010 ≤ n) : oX n L = some L := by
 unfold oX aR
 exact Kt L hz ha _ L.length 0 n (by omega) (by omega)
theorem Om {t : bA} {v : aG} (h : cT t v) (hv : oT 4 v) (n : Nat) (hn : Fy v + 3000 ≤ n) : uP n t = some (oC t.Root (gD v)) := by
 have hsz := h.size
 unfold uP
 rw [Hi h hv n hn]
 simp only [Option.bind_some, bne_self_eq_false, Bool.false_eq_true, if_false]
 rw [Hx h v n t.Root 0 [] (fun x hx => by rw [h.nodes]; exact hx) (by omega) (by omega) (by simp; omega)]
 rfl
def mSc (m : cQ) : Bool := (decide (m.Scale < 50)) || (decide (m.Scale > 400))
def Ft (t : bA) (st : List aT) (s : bE) (th : bM) (m : cQ) : List bC := Bw (mE (sF t st s th m) t.Nodes [])
theorem Fi (t : bA) (st : List aT) (s : bE) (th : bM) (m : cQ) : (Ft t st s th m).map bC.ID = t.Nodes.map aP.ID := by
 have := nV (sF t st s th m) t.Nodes []
 unfold Ft Bw
 rw [List.map_map]
 show (mE (sF t st s th m) t.Nodes []).map Prod.fst = _
 simpa using this
theorem Xo (t : bA) (st : List aT) (s : bE) (th : bM) (m : cQ) : (Ft t st s th m).length = t.Nodes.length := by
 have := congrArg List.length (Fi t st s th m)
 simpa using this
theorem Pb {t : bA} {v : aG} (h : cT t v) (hv : oT 4 v) (st : List aT) (hst : st.length ≤ 1000) {s : bE} (hs : iE s) {th : bM} (ht : nL th) (m : cQ) (n : Nat) (hn : Fy v + 5000 ≤ n) :
  kK n s th m t st = some (if mSc m = true then ([], 1) else (Ft t st s th m, 0)) ∧ wO n s th m t st = some (if mSc m = true then ([], 1) else (Ft t st s th m, 0)) := by
 have hsl := hs.len
 have htl := ht.len
 have hl := h.len
 have hsz := h.size
 obtain ⟨s1, s2⟩ := Us hs n (by omega)
 obtain ⟨t1, t2⟩ := Tx ht n (by omega)
 have hkeys := nV (sF t st s th m) t.Nodes []
 have hml : (mE (sF t st s th m) t.Nodes []).length = t.Nodes.length := by
  have := congrArg List.length hkeys
  simpa using this
 constructor
 ·unfold kK
  rw [s1, t1]
  simp only [Option.bind_some, bne_self_eq_false, Bool.false_eq_true, if_false]
  cases hm : mSc m
  ·have hm' : ((decide (m.Scale < 50)) || (decide (m.Scale > 400))) = false := hm
   rw [hm', Xp h hv n (by omega), see_eq h hv st hst n (by omega)]
   simp only [Option.bind_some, bne_self_eq_false, Bool.false_eq_true, if_false]
   unfold aR
   refine (Wv s (by omega) _ t _ th m s.Rules.length 0 n (by omega) (by omega)).trans ?_
   rw [Zv hs (iz s.Rules.length) (fun y hy => iz_in hy) (by unfold iz; rw [lR]; omega) n (by omega)]
   simp only [Option.bind_some]
   rw [Ue h hv n (by omega)]
   simp only [Option.bind_some]
   refine (Tz h hv st hst hs th (by omega) m _ t.Nodes [] n 0 rfl rfl (by omega)).trans ?_
   refine (Tv t _ _ (by omega) t.Nodes [] n 0 rfl rfl (by omega)).trans ?_
   rw [Wt _ _ (by simpa using hkeys) h.nodup]
   rfl
  ·have hm' : ((decide (m.Scale < 50)) || (decide (m.Scale > 400))) = true := hm
   rw [hm']
   rfl
 ·unfold wO wK
  rw [s2, t2]
  simp only [Option.bind_some, bne_self_eq_false, Bool.false_eq_true, if_false]
  cases hm : mSc m
  ·have hm' : ((decide (m.Scale < 50)) || (decide (m.Scale > 400))) = false := hm
   rw [hm', Hi h hv n (by omega)]
   simp only [Option.bind_some, bne_self_eq_false, Bool.false_eq_true, if_false]
   rw [Om h hv n (by omega)]
   unfold aR
   simp only [Option.bind_some]
   refine (Qd h hv st hst hs th (by omega) m _ t.Nodes [] n 0 rfl rfl (by omega)).trans ?_
   rw [Is _ (by simp [Bw]; omega) (fun i a b ha hb => ?_) n (by omega)]
   ·rfl
   ·have hids : (Bw (mE (sF t st s th m) t.Nodes [])).map bC.ID = oC t.Root (gD v) := by rw [← h.ids']; exact Fi t st s th m
    have hi1 : i + 1 < gD v := by
     have : i + 1 < (Bw (mE (sF t st s th m) t.Nodes [])).length := (List.getElem?_eq_some_iff.1 hb).1
     simp only [Bw, List.length_map] at this
     omega
    have e1 := congrArg (fun l => l[i]?) hids
    have e2 := congrArg (fun l => l[i + 1]?) hids
    simp only [List.getElem?_map, ha, hb, Option.map_some] at e1 e2
    rw [vQ _ _ _ (by omega)] at e1
    rw [vQ _ _ _ hi1] at e2
    have e1 := Option.some.inj e1
    have e2 := Option.some.inj e2
    omega
  ·have hm' : ((decide (m.Scale < 50)) || (decide (m.Scale > 400))) = true := hm
   rw [hm']
   rfl
theorem Ul {t : bA} {v : aG} (h : cT t v) (hv : oT 4 v) (st : List aT) (hst : st.length ≤ 1000) {s : bE} (hs : iE s) {th : bM} (ht : nL th) (m : cQ) : ∀ x, x ∈ Ft t st s th m → Ar x.Style := by
 intro x hx
 have htl := ht.len
 unfold Ft Bw at hx
 obtain ⟨p, hp, rfl⟩ := List.mem_map.1 hx
 exact Kw h hv st hst hs th (by omega) m t.Nodes [] rfl (fun p hp => nomatch hp) p hp
end Go.Proofs.YtojkihhnioeggaaGreatDoor.S
