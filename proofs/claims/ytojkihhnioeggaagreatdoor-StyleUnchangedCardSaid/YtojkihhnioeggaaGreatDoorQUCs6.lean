import Derived.Test.YtojkihhnioeggaaGreatDoorQUCs5
import Derived.WalkKit
import Derived.WalkSpells
import Derived.WalkLawsBesides
import Derived.Deep.QuietTactic
import Derived.BigQuiet
import Derived.BigRegion
import Derived.Lib.Hide
import Derived.Deep.RegionWith
set_option linter.unusedSimpArgs false
set_option linter.unusedVariables false
set_option linter.unusedSimpArgs false
set_option linter.unusedVariables false
set_option linter.unusedSectionVars false
namespace Go.Proofs.YtojkihhnioeggaaGreatDoor.S
open Go Go.Bm
theorem Us {β : Type} {M : List (Int × β)} {k : Int} {s : β} (h : k ∉ M.map Prod.fst) : (M ++ [(k, s)]).lookup k = some s := by
 rw [List.lookup_append, wQ fun p hp e => h (List.mem_map.2 ⟨p, hp, e⟩), List.lookup_cons, beq_self_eq_true]
 rfl
theorem Hy {β : Type} [Inhabited β] {M : List (Int × β)} {k : Int} {s : β} (h : M.lookup k = some s) : cZ k M = s := by
 unfold cZ; rw [h]; rfl
section
variable (F : aP → aA → aA)
def oI : List aP → List (Int × aA) → List (Int × aA)
 | [], M => M
 | x :: l, M => oI l (M ++ [(x.ID, F x (cZ x.Parent M))])
theorem sG : ∀ (l : List aP) (M : List (Int × aA)), (oI F l M).map Prod.fst = M.map Prod.fst ++ l.map aP.ID
 | [], M => by simp [oI]
 | x :: l, M => by rw [oI, sG l]; simp
theorem Gk : ∀ (l : List aP) (x : aP) (M : List (Int × aA)), oI F (l ++ [x]) M = oI F l M ++ [(x.ID, F x (cZ x.Parent (oI F l M)))]
 | [], x, M => rfl
 | y :: l, x, M => by rw [List.cons_append, oI, Gk l, oI]
end
def Cu (M : List (Int × aA)) : List aU := M.map fun p => ⟨p.1, p.2⟩
theorem Iq (q : Int) (j : Unit → Option aA) (hj : j () = some (default : aA)) (M : List (Int × aA)) (hz : M.length ≤ 1000) : ∀ (l pre : List (Int × aA)) (n : Nat) (i : Int), M = pre ++ l → i = pre.length → l.length < n → mJ (Cu M) q j n i = some ((l.lookup q).getD default)
 | [], pre, n, i, ht, hq, hn => by
  obtain ⟨n, rfl⟩ : ∃ m, n = m + 1 := ⟨n - 1, by simp at hn; omega⟩
  have hlen : M.length = pre.length := by rw [ht]; simp
  rw [mJ, if_neg (by simp [Cu]; omega), hj]; rfl
 | x :: l, pre, n, i, ht, hq, hn => by
  obtain ⟨n, rfl⟩ : ∃ m, n = m + 1 := ⟨n - 1, by simp at hn; omega⟩
  have hlen : M.length = pre.length + (l.length + 1) := by rw [ht]; simp
  have hw : IntKind.wrap .i64 (i + 1) = i + 1 := Go.Bm.aT (by omega) (by omega)
  have hix : idx (Cu M) i = some (aU.mk x.1 x.2) := jX (pre := Cu pre) (l := Cu l) (by rw [ht]; simp [Cu]) (by simpa [Cu] using hq)
  rw [mJ, if_pos (by simp [Cu]; omega), hix]
  simp only [Option.bind_some, hw]
  rw [List.lookup_cons]
  by_cases e : x.1 = q
  ·rw [if_pos (by simpa using e), beq_iff_eq.2 e.symm]; rfl
  ·rw [if_neg (by simpa using e), beq_eq_false_iff_ne.2 fun h => e h.symm]
   exact Iq q j hj M hz l (pre ++ [x]) n (i + 1) (by rw [ht]; simp) (by simp; omega) (by simp at hn; omega)
theorem aA5 (M : List (Int × aA)) (hz : M.length ≤ 1000) (q : Int) (n : Nat) (hn : 1010 ≤ n) : xO n (Cu M) q = some (cZ q M) := by
 unfold xO aS
 exact Iq q _ rfl M hz M [] n 0 rfl rfl (by omega)
theorem Xx (s : bH) (hz : s.Rules.length ≤ 100) (j : List Int → Option ((List aU) × Int)) (t : bA) (S : eI) (th : bS) (m : cY) : ∀ (k i n : Nat), i + k = s.Rules.length → k < n → gC s j t S th m n (i : Int) (iz i) = j (iz s.Rules.length)
 | 0, i, n, hi, hn => by
  obtain ⟨n, rfl⟩ : ∃ m, n = m + 1 := ⟨n - 1, by omega⟩
  obtain rfl : i = s.Rules.length := by omega
  rw [gC, if_neg (by simp)]
 | k + 1, i, n, hi, hn => by
  obtain ⟨n, rfl⟩ : ∃ m, n = m + 1 := ⟨n - 1, by omega⟩
  have hw : IntKind.wrap .i64 ((i : Int) + 1) = ((i + 1 : Nat) : Int) := by rw [Go.Bm.aT (by omega) (by omega)]; omega
  rw [gC, if_pos (by simp; omega), tV (by unfold iz; rw [kB]; simp; omega) (by decide)]
  simp only [Option.bind_some, hw]
  have : iz i ++ [(i : Int)] = iz (i + 1) := by unfold iz; rw [wH]; simp [nV]
  rw [this]
  exact Xx s hz j t S th m k (i + 1) n (by omega) (by omega)
section
variable {t : bA} {v : aJ} (h : cM t v) (hv : nZ 4 v) (st : List aR) (hst : st.length ≤ 1000) {s : bH} (hs : iX s) (th : bS) (hth : th.Tokens.length ≤ 1000) (m : cY)
def sF (t : bA) (st : List aR) (s : bH) (th : bS) (m : cY) (x : aP) (up : aA) : aA := Ya t st s th m x up (x.Parent == 0)
include h hv hst hs hth
theorem Va (j : List (Int × aA) → Option ((List aU) × Int)) : ∀ (l pre : List aP) (n : Nat) (q : Int), t.Nodes = pre ++ l → q = pre.length → l.length + 3100 < n →
  fX (nV t.Root (fW v)) ⟨jZ t.Nodes, sT t.Nodes, Rp st⟩ s (yS s).reverse th m t j n q (oI (sF t st s th m) pre []) = j (oI (sF t st s th m) t.Nodes [])
 | [], pre, n, q, ht, hq, hn => by
  obtain ⟨n, rfl⟩ : ∃ m, n = m + 1 := ⟨n - 1, by omega⟩
  have hlen : t.Nodes.length = pre.length := by rw [ht]; simp
  have hl := h.len
  rw [fX, if_neg (by simp [kB]; omega), ht, List.append_nil]
 | x :: l, pre, n, q, ht, hq, hn => by
  obtain ⟨n, rfl⟩ : ∃ m, n = m + 1 := ⟨n - 1, by omega⟩
  have hlen : t.Nodes.length = pre.length + (l.length + 1) := by rw [ht]; simp
  have hl := h.len
  have hsz := h.size
  have hroot := h.root
  simp only [List.length_cons] at hn
  have hw : IntKind.wrap .i64 (q + 1) = q + 1 := Go.Bm.aT (by omega) (by omega)
  have hx : x ∈ t.Nodes := by rw [ht]; simp
  have hnd := h.nodup
  have hid : x.ID = t.Root + (pre.length : Nat) := by
   obtain ⟨y, hy, _, hyi⟩ := h.nth (q := pre.length) (by omega)
   rw [ht, List.getElem?_append_right (Nat.le_refl _), Nat.sub_self] at hy
   obtain rfl : x = y := Option.some.inj hy
   exact hyi
  have hidx : idx (nV t.Root (fW v)) q = some x.ID := by
   rw [hq, hid]; exact wM (tS _ _ _ (by omega))
  have hlook : cZ x.ID (jZ t.Nodes) = x := by unfold cZ; rw [kP hnd hx]; rfl
  have hpar : (x.ID == t.Root) = (x.Parent == 0) := by
   rcases h.prt hx with ⟨e1, e2⟩ | ⟨e1, e2, e3⟩
   ·rw [beq_iff_eq.2 e1, beq_iff_eq.2 e2]
   ·have a : (x.ID == t.Root) = false := by rw [beq_eq_false_iff_ne]; omega
    have b : (x.Parent == 0) = false := by rw [beq_eq_false_iff_ne]; omega
    rw [a, b]
  have hnew : ∀ p, p ∈ oI (sF t st s th m) pre [] → p.1 ≠ x.ID := fun p hp e => by
   have hk : p.1 ∈ (oI (sF t st s th m) pre []).map Prod.fst := List.mem_map.2 ⟨p, hp, rfl⟩
   rw [sG] at hk
   rw [ht, List.map_append, List.nodup_append] at hnd
   exact hnd.2.2 p.1 (by simpa using hk) x.ID (by simp) e
  have hsty := Xj h hv st hst hs th hth m x hx (cZ x.Parent (oI (sF t st s th m) pre [])) (x.ID == t.Root) n (by omega)
  rw [fX, if_pos (by simp [kB]; omega), hidx]
  simp only [Option.bind_some, hw]
  rw [hlook, hsty]
  simp only [Option.bind_some]
  rw [qO hnew]
  have := Va j l (pre ++ [x]) n (q + 1) (by rw [ht]; simp) (by simp; omega) (by omega)
  rw [Gk] at this
  unfold sF at this ⊢
  rw [hpar]
  exact this
theorem Rd (j : List aU → Option ((List aU) × Int)) : ∀ (l pre : List aP) (n : Nat) (q : Int), t.Nodes = pre ++ l → q = pre.length → l.length + 3100 < n →
  jO (nV t.Root (fW v)) t s th m st j n (Cu (oI (sF t st s th m) pre [])) q = j (Cu (oI (sF t st s th m) t.Nodes []))
 | [], pre, n, q, ht, hq, hn => by
  obtain ⟨n, rfl⟩ : ∃ m, n = m + 1 := ⟨n - 1, by omega⟩
  have hlen : t.Nodes.length = pre.length := by rw [ht]; simp
  have hl := h.len
  rw [jO, if_neg (by simp [kB]; omega), ht, List.append_nil]
 | x :: l, pre, n, q, ht, hq, hn => by
  obtain ⟨n, rfl⟩ : ∃ m, n = m + 1 := ⟨n - 1, by omega⟩
  have hlen : t.Nodes.length = pre.length + (l.length + 1) := by rw [ht]; simp
  have hl := h.len
  have hsz := h.size
  have hroot := h.root
  simp only [List.length_cons] at hn
  have hw : IntKind.wrap .i64 (q + 1) = q + 1 := Go.Bm.aT (by omega) (by omega)
  have hx : x ∈ t.Nodes := by rw [ht]; simp
  have hid : x.ID = t.Root + (pre.length : Nat) := by
   obtain ⟨y, hy, _, hyi⟩ := h.nth (q := pre.length) (by omega)
   rw [ht, List.getElem?_append_right (Nat.le_refl _), Nat.sub_self] at hy
   obtain rfl : x = y := Option.some.inj hy
   exact hyi
  have hidx : idx (nV t.Root (fW v)) q = some x.ID := by
   rw [hq, hid]; exact wM (tS _ _ _ (by omega))
  have hml : (oI (sF t st s th m) pre []).length = pre.length := by
   have := congrArg List.length (sG (sF t st s th m) pre [])
   simpa using this
  have hsty := Ox h hv st hst hs th hth m x hx (cZ x.Parent (oI (sF t st s th m) pre [])) (x.Parent == 0) n (by omega)
  rw [jO, if_pos (by simp [kB]; omega), hidx]
  simp only [Option.bind_some, hw]
  rw [zT h n (by omega) hx]
  simp only [Option.bind_some]
  rw [aA5 _ (by omega) _ n (by omega)]
  simp only [Option.bind_some]
  rw [hsty]
  simp only [Option.bind_some]
  rw [tV (by simp [Cu]; omega) (by decide)]
  simp only [Option.bind_some]
  have := Rd j l (pre ++ [x]) n (q + 1) (by rw [ht]; simp) (by simp; omega) (by omega)
  rw [Gk] at this
  have e : Cu (oI (sF t st s th m) pre []) ++ [aU.mk x.ID (Ya t st s th m x (cZ x.Parent (oI (sF t st s th m) pre [])) (x.Parent == 0))] = Cu (oI (sF t st s th m) pre [] ++ [(x.ID, sF t st s th m x (cZ x.Parent (oI (sF t st s th m) pre [])))]) := by
   simp [Cu, sF]
  rw [e]
  exact this
end
def Ky (M : List (Int × aA)) (l : List aP) : List aU := l.map fun x => ⟨x.ID, cZ x.ID M⟩
theorem Ux (t : bA) (M : List (Int × aA)) (j : List aU → Option ((List aU) × Int)) (hz : t.Nodes.length ≤ 1000) : ∀ (l pre : List aP) (n : Nat) (q : Int), t.Nodes = pre ++ l → q = pre.length → l.length < n → gA t M j n (Ky M pre) q = j (Ky M t.Nodes)
 | [], pre, n, q, ht, hq, hn => by
  obtain ⟨n, rfl⟩ : ∃ m, n = m + 1 := ⟨n - 1, by simp at hn; omega⟩
  have hlen : t.Nodes.length = pre.length := by rw [ht]; simp
  rw [gA, if_neg (by simp; omega), ht, List.append_nil]
 | x :: l, pre, n, q, ht, hq, hn => by
  obtain ⟨n, rfl⟩ : ∃ m, n = m + 1 := ⟨n - 1, by simp at hn; omega⟩
  have hlen : t.Nodes.length = pre.length + (l.length + 1) := by rw [ht]; simp
  have hw : IntKind.wrap .i64 (q + 1) = q + 1 := Go.Bm.aT (by omega) (by omega)
  rw [gA, if_pos (by simp; omega), jX ht hq]
  simp only [Option.bind_some, hw]
  rw [tV (by simp [Ky]; omega) (by decide)]
  simp only [Option.bind_some]
  rw [show Ky M pre ++ [aU.mk x.ID (cZ x.ID M)] = Ky M (pre ++ [x]) from by simp [Ky]]
  exact Ux t M j hz l (pre ++ [x]) n (q + 1) (by rw [ht]; simp) (by simp; omega) (by simp at hn; omega)
theorem Xv : ∀ (M : List (Int × aA)) (l : List aP), M.map Prod.fst = l.map aP.ID → (l.map aP.ID).Nodup → Ky M l = Cu M := by
 intro M l hk hn
 have key : ∀ (M' : List (Int × aA)) (l : List aP), M'.map Prod.fst = l.map aP.ID → (∀ p, p ∈ M' → M.lookup p.1 = some p.2) → Ky M l = Cu M' := by
  intro M'
  induction M' with
  | nil =>
   intro l hk _
   cases l with
   | nil => rfl
   | cons x l => cases hk
  | cons p M' ih =>
   intro l hk hl
   cases l with
   | nil => cases hk
   | cons x l =>
    rw [List.map_cons, List.map_cons] at hk
    injection hk with h1 h2
    have := ih l h2 fun p hp => hl p (by simp [hp])
    unfold Ky Cu at this ⊢
    rw [List.map_cons, List.map_cons, this, ← h1, Hy (hl p (by simp))]
 refine key M l hk fun p hp => ?_
 rw [← hk] at hn
 have key2 : ∀ M : List (Int × aA), (M.map Prod.fst).Nodup → p ∈ M → M.lookup p.1 = some p.2 := by
  intro M
  induction M with
  | nil => intro _ hm; cases hm
  | cons y M ih =>
   intro hn hm
   rw [List.map_cons, List.nodup_cons] at hn
   rw [List.lookup_cons]
   rcases List.mem_cons.1 hm with rfl | hm
   ·simp
   ·have : (p.1 == y.1) = false := by
     rw [beq_eq_false_iff_ne]
     intro e
     exact hn.1 (e ▸ List.mem_map.2 ⟨p, hm, rfl⟩)
    rw [this]; exact ih hn.2 hm
 exact key2 M hn hp
theorem Ln (L : List aU) (hz : L.length ≤ 1000) (ha : ∀ (i : Nat) a b, L[i]? = some a → L[i + 1]? = some b → a.ID ≤ b.ID) (j : Unit → Option (List aU)) : ∀ (k i n : Nat), i + k = L.length → k + 1 < n → iJ L j n (i : Int) = j ()
 | 0, i, n, hi, hn => by
  obtain ⟨n, rfl⟩ : ∃ m, n = m + 1 := ⟨n - 1, by omega⟩
  rw [iJ, if_neg (by simp; omega)]
 | k + 1, i, n, hi, hn => by
  obtain ⟨n, rfl⟩ : ∃ m, n = m + 1 := ⟨n - 1, by omega⟩
  have hw : IntKind.wrap .i64 ((i : Int) + 1) = ((i + 1 : Nat) : Int) := by rw [Go.Bm.aT (by omega) (by omega)]; omega
  rw [iJ, if_pos (by simp; omega)]
  unfold aS
  simp only [hw]
  obtain ⟨n, rfl⟩ : ∃ m, n = m + 1 := ⟨n - 1, by omega⟩
  have ih := Ln L hz ha j k (i + 1) (n + 1) (by omega) (by omega)
  have e : ∀ j' : Unit → Option (List aU), mQ (i : Int) L j' (n + 1) () = j' () := fun j' => by
   rw [mQ]
   cases i with
   | zero => simp [gd]
   | succ i =>
    have hd : decide (((i + 1 : Nat) : Int) > 0) = true := by rw [decide_eq_true_eq]; omega
    have hw2 : IntKind.wrap .i64 (((i + 1 : Nat) : Int) - 1) = (i : Int) := by rw [Go.Bm.aT (by omega) (by omega)]; omega
    have h1 : i < L.length := by omega
    have h2 : i + 1 < L.length := by omega
    rw [hd, hw2, dU h1, dU h2]
    have := ha i L[i] L[i + 1] (List.getElem?_eq_getElem h1) (List.getElem?_eq_getElem h2)
    have hc : decide (L[i].ID > L[i + 1].ID) = false := by simp; omega
    simp only [rS, if_true, Option.bind_some, hc, Bool.and_false, Bool.false_eq_true, if_false]
  exact (e _).trans ih
theorem Jp (L : List aU) (hz : L.length ≤ 1000) (ha : ∀ (i : Nat) a b, L[i]? = some a → L[i + 1]? = some b → a.ID ≤ b.ID) (n : Nat) (hn : 1010 ≤ n) : pF n L = some L := by
 unfold pF aS
 exact Ln L hz ha _ L.length 0 n (by omega) (by omega)
theorem Pm {t : bA} {v : aJ} (h : cM t v) (hv : nZ 4 v) (n : Nat) (hn : Bn v + 3000 ≤ n) : vD n t = some (nV t.Root (fW v)) := by
 have hsz := h.size
 unfold vD
 rw [Ih h hv n hn]
 simp only [Option.bind_some, bne_self_eq_false, Bool.false_eq_true, if_false]
 rw [Ix h v n t.Root 0 [] (fun x hx => by rw [h.nodes]; exact hx) (by omega) (by omega) (by simp; omega)]
 rfl
def mSc (m : cY) : Bool := (decide (m.Scale < 50)) || (decide (m.Scale > 400))
def Sq (t : bA) (st : List aR) (s : bH) (th : bS) (m : cY) : List aU := Cu (oI (sF t st s th m) t.Nodes [])
theorem Gi (t : bA) (st : List aR) (s : bH) (th : bS) (m : cY) : (Sq t st s th m).map aU.ID = t.Nodes.map aP.ID := by
 have := sG (sF t st s th m) t.Nodes []
 unfold Sq Cu
 rw [List.map_map]
 show (oI (sF t st s th m) t.Nodes []).map Prod.fst = _
 simpa using this
theorem Yq (t : bA) (st : List aR) (s : bH) (th : bS) (m : cY) : (Sq t st s th m).length = t.Nodes.length := by
 have := congrArg List.length (Gi t st s th m)
 simpa using this
theorem xR {t : bA} {v : aJ} (h : cM t v) (hv : nZ 4 v) (st : List aR) (hst : st.length ≤ 1000) {s : bH} (hs : iX s) {th : bS} (ht : mO th) (m : cY) (n : Nat) (hn : Bn v + 5000 ≤ n) :
  jF n s th m t st = some (if mSc m = true then ([], 1) else (Sq t st s th m, 0)) ∧ xH n s th m t st = some (if mSc m = true then ([], 1) else (Sq t st s th m, 0)) := by
 have hsl := hs.len
 have htl := ht.len
 have hl := h.len
 have hsz := h.size
 obtain ⟨s1, s2⟩ := Vr hs n (by omega)
 obtain ⟨t1, t2⟩ := Uz ht n (by omega)
 have hkeys := sG (sF t st s th m) t.Nodes []
 have hml : (oI (sF t st s th m) t.Nodes []).length = t.Nodes.length := by
  have := congrArg List.length hkeys
  simpa using this
 constructor
 ·unfold jF
  rw [s1, t1]
  simp only [Option.bind_some, bne_self_eq_false, Bool.false_eq_true, if_false]
  cases hm : mSc m
  ·have hm' : ((decide (m.Scale < 50)) || (decide (m.Scale > 400))) = false := hm
   rw [hm', Gr h hv n (by omega), Pt h hv st hst n (by omega)]
   simp only [Option.bind_some, bne_self_eq_false, Bool.false_eq_true, if_false]
   unfold aS
   refine (Xx s (by omega) _ t _ th m s.Rules.length 0 n (by omega) (by omega)).trans ?_
   rw [aAs hs (iz s.Rules.length) (fun y hy => iz_in hy) (by unfold iz; rw [kB]; omega) n (by omega)]
   simp only [Option.bind_some]
   rw [Lx h hv n (by omega)]
   simp only [Option.bind_some]
   refine (Va h hv st hst hs th (by omega) m _ t.Nodes [] n 0 rfl rfl (by omega)).trans ?_
   refine (Ux t _ _ (by omega) t.Nodes [] n 0 rfl rfl (by omega)).trans ?_
   rw [Xv _ _ (by simpa using hkeys) h.nodup]
   rfl
  ·have hm' : ((decide (m.Scale < 50)) || (decide (m.Scale > 400))) = true := hm
   rw [hm']
   rfl
 ·unfold xH xC
  rw [s2, t2]
  simp only [Option.bind_some, bne_self_eq_false, Bool.false_eq_true, if_false]
  cases hm : mSc m
  ·have hm' : ((decide (m.Scale < 50)) || (decide (m.Scale > 400))) = false := hm
   rw [hm', Ih h hv n (by omega)]
   simp only [Option.bind_some, bne_self_eq_false, Bool.false_eq_true, if_false]
   rw [Pm h hv n (by omega)]
   unfold aS
   simp only [Option.bind_some]
   refine (Rd h hv st hst hs th (by omega) m _ t.Nodes [] n 0 rfl rfl (by omega)).trans ?_
   rw [Jp _ (by simp [Cu]; omega) (fun i a b ha hb => ?_) n (by omega)]
   ·rfl
   ·have hids : (Cu (oI (sF t st s th m) t.Nodes [])).map aU.ID = nV t.Root (fW v) := by rw [← h.ids']; exact Gi t st s th m
    have hi1 : i + 1 < fW v := by
     have : i + 1 < (Cu (oI (sF t st s th m) t.Nodes [])).length := (List.getElem?_eq_some_iff.1 hb).1
     simp only [Cu, List.length_map] at this
     omega
    have e1 := congrArg (fun l => l[i]?) hids
    have e2 := congrArg (fun l => l[i + 1]?) hids
    simp only [List.getElem?_map, ha, hb, Option.map_some] at e1 e2
    rw [tS _ _ _ (by omega)] at e1
    rw [tS _ _ _ hi1] at e2
    have e1 := Option.some.inj e1
    have e2 := Option.some.inj e2
    omega
  ·have hm' : ((decide (m.Scale < 50)) || (decide (m.Scale > 400))) = true := hm
   rw [hm']
   rfl
theorem Jc (L : List aU) (hz : L.length ≤ 1000) (j : Unit → Option Bool) : ∀ (k i n : Nat), i + k = L.length → k < n → jH L L j n (i : Int) = j ()
 | 0, i, n, hi, hn => by
  obtain ⟨n, rfl⟩ : ∃ m, n = m + 1 := ⟨n - 1, by omega⟩
  rw [jH, if_neg (by simp; omega)]
 | k + 1, i, n, hi, hn => by
  obtain ⟨n, rfl⟩ : ∃ m, n = m + 1 := ⟨n - 1, by omega⟩
  have hw : IntKind.wrap .i64 ((i : Int) + 1) = ((i + 1 : Nat) : Int) := by rw [Go.Bm.aT (by omega) (by omega)]; omega
  rw [jH, if_pos (by simp; omega), dU (by omega)]
  simp only [Option.bind_some, beq_self_eq_true, Bool.not_true, Bool.false_eq_true, if_false, hw]
  exact Jc L hz j k (i + 1) n (by omega) (by omega)
theorem aA6 (L : List aU) (hz : L.length ≤ 1000) (n : Nat) (hn : 1010 ≤ n) : qW n L L = some true := by
 unfold qW aS
 rw [if_neg (by simp)]
 exact Jc L hz _ L.length 0 n (by omega) (by omega)
end Go.Proofs.YtojkihhnioeggaaGreatDoor.S
