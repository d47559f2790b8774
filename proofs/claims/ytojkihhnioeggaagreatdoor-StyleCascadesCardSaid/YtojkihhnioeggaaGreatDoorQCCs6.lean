import Derived.Test.YtojkihhnioeggaaGreatDoorQCCs5
import Derived.WalkKit
import Derived.WalkSpells
import Derived.WalkLawsBesides
import Derived.Deep.QuietTactic
import Derived.BigQuiet
import Derived.BigRegion
import Derived.Lib.Hide
import Derived.Deep.RegionWith
set_option linter.unusedSimpArgs false
set_option linter.unusedVariables false
set_option linter.unusedSimpArgs false
set_option linter.unusedVariables false
set_option linter.unusedSectionVars false
namespace Go.Proofs.YtojkihhnioeggaaGreatDoor.S
open Go Go.Bm
theorem Tk {β : Type} [Inhabited β] {M : List (Int × β)} {k : Int} {s : β} (h : M.lookup k = some s) : eO k M = s := by
 unfold eO; rw [h]; rfl
section
variable (F : aR → aA → aA)
def oP : List aR → List (Int × aA) → List (Int × aA)
 | [], M => M
 | x :: l, M => oP l (M ++ [(x.ID, F x (eO x.Parent M))])
theorem sJ : ∀ (l : List aR) (M : List (Int × aA)), (oP F l M).map Prod.fst = M.map Prod.fst ++ l.map aR.ID
 | [], M => by simp [oP]
 | x :: l, M => by rw [oP, sJ l]; simp
theorem Gv : ∀ (l : List aR) (x : aR) (M : List (Int × aA)), oP F (l ++ [x]) M = oP F l M ++ [(x.ID, F x (eO x.Parent (oP F l M)))]
 | [], x, M => rfl
 | y :: l, x, M => by rw [List.cons_append, oP, Gv l, oP]
end
def Dj (M : List (Int × aA)) : List bD := M.map fun p => ⟨p.1, p.2⟩
theorem Jd (q : Int) (j : Unit → Option aA) (hj : j () = some (default : aA)) (M : List (Int × aA)) (hz : M.length ≤ 1000) : ∀ (l pre : List (Int × aA)) (n : Nat) (i : Int), M = pre ++ l → i = pre.length → l.length < n → jR (Dj M) q j n i = some ((l.lookup q).getD default)
 | [], pre, n, i, ht, hq, hn => by
  obtain ⟨n, rfl⟩ : ∃ m, n = m + 1 := ⟨n - 1, by simp at hn; omega⟩
  have hlen : M.length = pre.length := by rw [ht]; simp
  rw [jR, if_neg (by simp [Dj]; omega), hj]; rfl
 | x :: l, pre, n, i, ht, hq, hn => by
  obtain ⟨n, rfl⟩ : ∃ m, n = m + 1 := ⟨n - 1, by simp at hn; omega⟩
  have hlen : M.length = pre.length + (l.length + 1) := by rw [ht]; simp
  have hw : IntKind.wrap .i64 (i + 1) = i + 1 := Go.Bm.aU (by omega) (by omega)
  have hix : idx (Dj M) i = some (bD.mk x.1 x.2) := kK (pre := Dj pre) (l := Dj l) (by rw [ht]; simp [Dj]) (by simpa [Dj] using hq)
  rw [jR, if_pos (by simp [Dj]; omega), hix]
  simp only [Option.bind_some, hw]
  rw [List.lookup_cons]
  by_cases e : x.1 = q
  ·rw [if_pos (by simpa using e), beq_iff_eq.2 e.symm]; rfl
  ·rw [if_neg (by simpa using e), beq_eq_false_iff_ne.2 fun h => e h.symm]
   exact Jd q j hj M hz l (pre ++ [x]) n (i + 1) (by rw [ht]; simp) (by simp; omega) (by simp at hn; omega)
theorem find_eq (M : List (Int × aA)) (hz : M.length ≤ 1000) (q : Int) (n : Nat) (hn : 1010 ≤ n) : qN n (Dj M) q = some (eO q M) := by
 unfold qN aS
 exact Jd q _ rfl M hz M [] n 0 rfl rfl (by omega)
theorem Yh (s : bK) (hz : s.Rules.length ≤ 100) (j : List Int → Option ((List bD) × Int)) (t : bB) (S : jJ) (th : bS) (m : cQ) : ∀ (k i n : Nat), i + k = s.Rules.length → k < n → gH s j t S th m n (i : Int) (iz i) = j (iz s.Rules.length)
 | 0, i, n, hi, hn => by
  obtain ⟨n, rfl⟩ : ∃ m, n = m + 1 := ⟨n - 1, by omega⟩
  obtain rfl : i = s.Rules.length := by omega
  rw [gH, if_neg (by simp)]
 | k + 1, i, n, hi, hn => by
  obtain ⟨n, rfl⟩ : ∃ m, n = m + 1 := ⟨n - 1, by omega⟩
  have hw : IntKind.wrap .i64 ((i : Int) + 1) = ((i + 1 : Nat) : Int) := by rw [Go.Bm.aU (by omega) (by omega)]; omega
  rw [gH, if_pos (by simp; omega), xV (by unfold iz; rw [mJ]; simp; omega) (by decide)]
  simp only [Option.bind_some, hw]
  have : iz i ++ [(i : Int)] = iz (i + 1) := by unfold iz; rw [wQ]; simp [oV]
  rw [this]
  exact Yh s hz j t S th m k (i + 1) n (by omega) (by omega)
section
variable {t : bB} {v : aL} (h : cV t v) (hv : pQ 4 v) (st : List aT) (hst : st.length ≤ 1000) {s : bK} (hs : kO s) (th : bS) (hth : th.Tokens.length ≤ 1000) (m : cQ)
def sF (t : bB) (st : List aT) (s : bK) (th : bS) (m : cQ) (x : aR) (up : aA) : aA := Yk t st s th m x up (x.Parent == 0)
include h hv hst hs hth
theorem Vl (j : List (Int × aA) → Option ((List bD) × Int)) : ∀ (l pre : List aR) (n : Nat) (q : Int), t.Nodes = pre ++ l → q = pre.length → l.length + 3100 < n →
  gC (oV t.Root (gR v)) ⟨kX t.Nodes, uD t.Nodes, Tt st⟩ s (yX s).reverse th m t j n q (oP (sF t st s th m) pre []) = j (oP (sF t st s th m) t.Nodes [])
 | [], pre, n, q, ht, hq, hn => by
  obtain ⟨n, rfl⟩ : ∃ m, n = m + 1 := ⟨n - 1, by omega⟩
  have hlen : t.Nodes.length = pre.length := by rw [ht]; simp
  have hl := h.len
  rw [gC, if_neg (by simp [mJ]; omega), ht, List.append_nil]
 | x :: l, pre, n, q, ht, hq, hn => by
  obtain ⟨n, rfl⟩ : ∃ m, n = m + 1 := ⟨n - 1, by omega⟩
  have hlen : t.Nodes.length = pre.length + (l.length + 1) := by rw [ht]; simp
  have hl := h.len
  have hsz := h.size
  have hroot := h.root
  simp only [List.length_cons] at hn
  have hw : IntKind.wrap .i64 (q + 1) = q + 1 := Go.Bm.aU (by omega) (by omega)
  have hx : x ∈ t.Nodes := by rw [ht]; simp
  have hnd := h.nodup
  have hid : x.ID = t.Root + (pre.length : Nat) := by
   obtain ⟨y, hy, _, hyi⟩ := h.nth (q := pre.length) (by omega)
   rw [ht, List.getElem?_append_right (Nat.le_refl _), Nat.sub_self] at hy
   obtain rfl : x = y := Option.some.inj hy
   exact hyi
  have hidx : idx (oV t.Root (gR v)) q = some x.ID := by
   rw [hq, hid]; exact zR (wL _ _ _ (by omega))
  have hlook : eO x.ID (kX t.Nodes) = x := by unfold eO; rw [nI hnd hx]; rfl
  have hpar : (x.ID == t.Root) = (x.Parent == 0) := by
   rcases h.prt hx with ⟨e1, e2⟩ | ⟨e1, e2, e3⟩
   ·rw [beq_iff_eq.2 e1, beq_iff_eq.2 e2]
   ·have a : (x.ID == t.Root) = false := by rw [beq_eq_false_iff_ne]; omega
    have b : (x.Parent == 0) = false := by rw [beq_eq_false_iff_ne]; omega
    rw [a, b]
  have hnew : ∀ p, p ∈ oP (sF t st s th m) pre [] → p.1 ≠ x.ID := fun p hp e => by
   have hk : p.1 ∈ (oP (sF t st s th m) pre []).map Prod.fst := List.mem_map.2 ⟨p, hp, rfl⟩
   rw [sJ] at hk
   rw [ht, List.map_append, List.nodup_append] at hnd
   exact hnd.2.2 p.1 (by simpa using hk) x.ID (by simp) e
  have hsty := Xu h hv st hst hs th hth m x hx (eO x.Parent (oP (sF t st s th m) pre [])) (x.ID == t.Root) n (by omega)
  rw [gC, if_pos (by simp [mJ]; omega), hidx]
  simp only [Option.bind_some, hw]
  rw [hlook, hsty]
  simp only [Option.bind_some]
  rw [sU hnew]
  have := Vl j l (pre ++ [x]) n (q + 1) (by rw [ht]; simp) (by simp; omega) (by omega)
  rw [Gv] at this
  unfold sF at this ⊢
  rw [hpar]
  exact this
theorem Ru (j : List bD → Option ((List bD) × Int)) : ∀ (l pre : List aR) (n : Nat) (q : Int), t.Nodes = pre ++ l → q = pre.length → l.length + 3100 < n →
  gK (oV t.Root (gR v)) t s th m st j n (Dj (oP (sF t st s th m) pre [])) q = j (Dj (oP (sF t st s th m) t.Nodes []))
 | [], pre, n, q, ht, hq, hn => by
  obtain ⟨n, rfl⟩ : ∃ m, n = m + 1 := ⟨n - 1, by omega⟩
  have hlen : t.Nodes.length = pre.length := by rw [ht]; simp
  have hl := h.len
  rw [gK, if_neg (by simp [mJ]; omega), ht, List.append_nil]
 | x :: l, pre, n, q, ht, hq, hn => by
  obtain ⟨n, rfl⟩ : ∃ m, n = m + 1 := ⟨n - 1, by omega⟩
  have hlen : t.Nodes.length = pre.length + (l.length + 1) := by rw [ht]; simp
  have hl := h.len
  have hsz := h.size
  have hroot := h.root
  simp only [List.length_cons] at hn
  have hw : IntKind.wrap .i64 (q + 1) = q + 1 := Go.Bm.aU (by omega) (by omega)
  have hx : x ∈ t.Nodes := by rw [ht]; simp
  have hid : x.ID = t.Root + (pre.length : Nat) := by
   obtain ⟨y, hy, _, hyi⟩ := h.nth (q := pre.length) (by omega)
   rw [ht, List.getElem?_append_right (Nat.le_refl _), Nat.sub_self] at hy
   obtain rfl : x = y := Option.some.inj hy
   exact hyi
  have hidx : idx (oV t.Root (gR v)) q = some x.ID := by
   rw [hq, hid]; exact zR (wL _ _ _ (by omega))
  have hml : (oP (sF t st s th m) pre []).length = pre.length := by
   have := congrArg List.length (sJ (sF t st s th m) pre [])
   simpa using this
  have hsty := Pn h hv st hst hs th hth m x hx (eO x.Parent (oP (sF t st s th m) pre [])) (x.Parent == 0) n (by omega)
  rw [gK, if_pos (by simp [mJ]; omega), hidx]
  simp only [Option.bind_some, hw]
  rw [Ab h n (by omega) hx]
  simp only [Option.bind_some]
  rw [find_eq _ (by omega) _ n (by omega)]
  simp only [Option.bind_some]
  rw [hsty]
  simp only [Option.bind_some]
  rw [xV (by simp [Dj]; omega) (by decide)]
  simp only [Option.bind_some]
  have := Ru j l (pre ++ [x]) n (q + 1) (by rw [ht]; simp) (by simp; omega) (by omega)
  rw [Gv] at this
  have e : Dj (oP (sF t st s th m) pre []) ++ [bD.mk x.ID (Yk t st s th m x (eO x.Parent (oP (sF t st s th m) pre [])) (x.Parent == 0))] = Dj (oP (sF t st s th m) pre [] ++ [(x.ID, sF t st s th m x (eO x.Parent (oP (sF t st s th m) pre [])))]) := by
   simp [Dj, sF]
  rw [e]
  exact this
end
def Lt (M : List (Int × aA)) (l : List aR) : List bD := l.map fun x => ⟨x.ID, eO x.ID M⟩
theorem Vi (t : bB) (M : List (Int × aA)) (j : List bD → Option ((List bD) × Int)) (hz : t.Nodes.length ≤ 1000) : ∀ (l pre : List aR) (n : Nat) (q : Int), t.Nodes = pre ++ l → q = pre.length → l.length < n → gF t M j n (Lt M pre) q = j (Lt M t.Nodes)
 | [], pre, n, q, ht, hq, hn => by
  obtain ⟨n, rfl⟩ : ∃ m, n = m + 1 := ⟨n - 1, by simp at hn; omega⟩
  have hlen : t.Nodes.length = pre.length := by rw [ht]; simp
  rw [gF, if_neg (by simp; omega), ht, List.append_nil]
 | x :: l, pre, n, q, ht, hq, hn => by
  obtain ⟨n, rfl⟩ : ∃ m, n = m + 1 := ⟨n - 1, by simp at hn; omega⟩
  have hlen : t.Nodes.length = pre.length + (l.length + 1) := by rw [ht]; simp
  have hw : IntKind.wrap .i64 (q + 1) = q + 1 := Go.Bm.aU (by omega) (by omega)
  rw [gF, if_pos (by simp; omega), kK ht hq]
  simp only [Option.bind_some, hw]
  rw [xV (by simp [Lt]; omega) (by decide)]
  simp only [Option.bind_some]
  rw [show Lt M pre ++ [bD.mk x.ID (eO x.ID M)] = Lt M (pre ++ [x]) from by simp [Lt]]
  exact Vi t M j hz l (pre ++ [x]) n (q + 1) (by rw [ht]; simp) (by simp; omega) (by simp at hn; omega)
theorem Yf : ∀ (M : List (Int × aA)) (l : List aR), M.map Prod.fst = l.map aR.ID → (l.map aR.ID).Nodup → Lt M l = Dj M := by
 intro M l hk hn
 have key : ∀ (M' : List (Int × aA)) (l : List aR), M'.map Prod.fst = l.map aR.ID → (∀ p, p ∈ M' → M.lookup p.1 = some p.2) → Lt M l = Dj M' := by
  intro M'
  induction M' with
  | nil =>
   intro l hk _
   cases l with
   | nil => rfl
   | cons x l => cases hk
  | cons p M' ih =>
   intro l hk hl
   cases l with
   | nil => cases hk
   | cons x l =>
    rw [List.map_cons, List.map_cons] at hk
    injection hk with h1 h2
    have := ih l h2 fun p hp => hl p (by simp [hp])
    unfold Lt Dj at this ⊢
    rw [List.map_cons, List.map_cons, this, ← h1, Tk (hl p (by simp))]
 refine key M l hk fun p hp => ?_
 rw [← hk] at hn
 have key2 : ∀ M : List (Int × aA), (M.map Prod.fst).Nodup → p ∈ M → M.lookup p.1 = some p.2 := by
  intro M
  induction M with
  | nil => intro _ hm; cases hm
  | cons y M ih =>
   intro hn hm
   rw [List.map_cons, List.nodup_cons] at hn
   rw [List.lookup_cons]
   rcases List.mem_cons.1 hm with rfl | hm
   ·simp
   ·have : (p.1 == y.1) = false := by
     rw [beq_eq_false_iff_ne]
     intro e
     exact hn.1 (e ▸ List.mem_map.2 ⟨p, hm, rfl⟩)
    rw [this]; exact ih hn.2 hm
 exact key2 M hn hp
theorem Mi (L : List bD) (hz : L.length ≤ 1000) (ha : ∀ (i : Nat) a b, L[i]? = some a → L[i + 1]? = some b → a.ID ≤ b.ID) (j : Unit → Option (List bD)) : ∀ (k i n : Nat), i + k = L.length → k + 1 < n → eW L j n (i : Int) = j ()
 | 0, i, n, hi, hn => by
  obtain ⟨n, rfl⟩ : ∃ m, n = m + 1 := ⟨n - 1, by omega⟩
  rw [eW, if_neg (by simp; omega)]
 | k + 1, i, n, hi, hn => by
  obtain ⟨n, rfl⟩ : ∃ m, n = m + 1 := ⟨n - 1, by omega⟩
  have hw : IntKind.wrap .i64 ((i : Int) + 1) = ((i + 1 : Nat) : Int) := by rw [Go.Bm.aU (by omega) (by omega)]; omega
  rw [eW, if_pos (by simp; omega)]
  unfold aS
  simp only [hw]
  obtain ⟨n, rfl⟩ : ∃ m, n = m + 1 := ⟨n - 1, by omega⟩
  have ih := Mi L hz ha j k (i + 1) (n + 1) (by omega) (by omega)
  have e : ∀ j' : Unit → Option (List bD), iN (i : Int) L j' (n + 1) () = j' () := fun j' => by
   rw [iN]
   cases i with
   | zero => simp [gd]
   | succ i =>
    have hd : decide (((i + 1 : Nat) : Int) > 0) = true := by rw [decide_eq_true_eq]; omega
    have hw2 : IntKind.wrap .i64 (((i + 1 : Nat) : Int) - 1) = (i : Int) := by rw [Go.Bm.aU (by omega) (by omega)]; omega
    have h1 : i < L.length := by omega
    have h2 : i + 1 < L.length := by omega
    rw [hd, hw2, eN h1, eN h2]
    have := ha i L[i] L[i + 1] (List.getElem?_eq_getElem h1) (List.getElem?_eq_getElem h2)
    have hc : decide (L[i].ID > L[i + 1].ID) = false := by simp; omega
    simp only [tW, if_true, Option.bind_some, hc, Bool.and_false, Bool.false_eq_true, if_false]
  exact (e _).trans ih
theorem Kd (L : List bD) (hz : L.length ≤ 1000) (ha : ∀ (i : Nat) a b, L[i]? = some a → L[i + 1]? = some b → a.ID ≤ b.ID) (n : Nat) (hn : 1010 ≤ n) : kY n L = some L := by
 unfold kY aS
 exact Mi L hz ha _ L.length 0 n (by omega) (by omega)
theorem Qb {t : bB} {v : aL} (h : cV t v) (hv : pQ 4 v) (n : Nat) (hn : Hh v + 3000 ≤ n) : pH n t = some (oV t.Root (gR v)) := by
 have hsz := h.size
 unfold pH
 rw [Iv h hv n hn]
 simp only [Option.bind_some, bne_self_eq_false, Bool.false_eq_true, if_false]
 rw [Jk h v n t.Root 0 [] (fun x hx => by rw [h.nodes]; exact hx) (by omega) (by omega) (by simp; omega)]
 rfl
def mSc (m : cQ) : Bool := (decide (m.Scale < 50)) || (decide (m.Scale > 400))
def Ma (t : bB) (st : List aT) (s : bK) (th : bS) (m : cQ) : List bD := Dj (oP (sF t st s th m) t.Nodes [])
theorem Ov (t : bB) (st : List aT) (s : bK) (th : bS) (m : cQ) : (Ma t st s th m).map bD.ID = t.Nodes.map aR.ID := by
 have := sJ (sF t st s th m) t.Nodes []
 unfold Ma Dj
 rw [List.map_map]
 show (oP (sF t st s th m) t.Nodes []).map Prod.fst = _
 simpa using this
theorem Za (t : bB) (st : List aT) (s : bK) (th : bS) (m : cQ) : (Ma t st s th m).length = t.Nodes.length := by
 have := congrArg List.length (Ov t st s th m)
 simpa using this
theorem Qp {t : bB} {v : aL} (h : cV t v) (hv : pQ 4 v) (st : List aT) (hst : st.length ≤ 1000) {s : bK} (hs : kO s) {th : bS} (ht : oZ th) (m : cQ) (n : Nat) (hn : Hh v + 5000 ≤ n) :
  lD n s th m t st = some (if mSc m = true then ([], 1) else (Ma t st s th m, 0)) ∧ mY n s th m t st = some (if mSc m = true then ([], 1) else (Ma t st s th m, 0)) := by
 have hsl := hs.len
 have htl := ht.len
 have hl := h.len
 have hsz := h.size
 obtain ⟨s1, s2⟩ := We hs n (by omega)
 obtain ⟨t1, t2⟩ := Vk ht n (by omega)
 have hkeys := sJ (sF t st s th m) t.Nodes []
 have hml : (oP (sF t st s th m) t.Nodes []).length = t.Nodes.length := by
  have := congrArg List.length hkeys
  simpa using this
 constructor
 ·unfold lD
  rw [s1, t1]
  simp only [Option.bind_some, bne_self_eq_false, Bool.false_eq_true, if_false]
  cases hm : mSc m
  ·have hm' : ((decide (m.Scale < 50)) || (decide (m.Scale > 400))) = false := hm
   rw [hm', Zb h hv n (by omega), see_eq h hv st hst n (by omega)]
   simp only [Option.bind_some, bne_self_eq_false, Bool.false_eq_true, if_false]
   unfold aS
   refine (Yh s (by omega) _ t _ th m s.Rules.length 0 n (by omega) (by omega)).trans ?_
   rw [sort_eq hs (iz s.Rules.length) (fun y hy => iz_in hy) (by unfold iz; rw [mJ]; omega) n (by omega)]
   simp only [Option.bind_some]
   rw [Vq h hv n (by omega)]
   simp only [Option.bind_some]
   refine (Vl h hv st hst hs th (by omega) m _ t.Nodes [] n 0 rfl rfl (by omega)).trans ?_
   refine (Vi t _ _ (by omega) t.Nodes [] n 0 rfl rfl (by omega)).trans ?_
   rw [Yf _ _ (by simpa using hkeys) h.nodup]
   rfl
  ·have hm' : ((decide (m.Scale < 50)) || (decide (m.Scale > 400))) = true := hm
   rw [hm']
   rfl
 ·unfold mY oW
  rw [s2, t2]
  simp only [Option.bind_some, bne_self_eq_false, Bool.false_eq_true, if_false]
  cases hm : mSc m
  ·have hm' : ((decide (m.Scale < 50)) || (decide (m.Scale > 400))) = false := hm
   rw [hm', Iv h hv n (by omega)]
   simp only [Option.bind_some, bne_self_eq_false, Bool.false_eq_true, if_false]
   rw [Qb h hv n (by omega)]
   unfold aS
   simp only [Option.bind_some]
   refine (Ru h hv st hst hs th (by omega) m _ t.Nodes [] n 0 rfl rfl (by omega)).trans ?_
   rw [Kd _ (by simp [Dj]; omega) (fun i a b ha hb => ?_) n (by omega)]
   ·rfl
   ·have hids : (Dj (oP (sF t st s th m) t.Nodes [])).map bD.ID = oV t.Root (gR v) := by rw [← h.ids']; exact Ov t st s th m
    have hi1 : i + 1 < gR v := by
     have : i + 1 < (Dj (oP (sF t st s th m) t.Nodes [])).length := (List.getElem?_eq_some_iff.1 hb).1
     simp only [Dj, List.length_map] at this
     omega
    have e1 := congrArg (fun l => l[i]?) hids
    have e2 := congrArg (fun l => l[i + 1]?) hids
    simp only [List.getElem?_map, ha, hb, Option.map_some] at e1 e2
    rw [wL _ _ _ (by omega)] at e1
    rw [wL _ _ _ hi1] at e2
    have e1 := Option.some.inj e1
    have e2 := Option.some.inj e2
    omega
  ·have hm' : ((decide (m.Scale < 50)) || (decide (m.Scale > 400))) = true := hm
   rw [hm']
   rfl
theorem Jp (L : List bD) (hz : L.length ≤ 1000) (j : Unit → Option Bool) : ∀ (k i n : Nat), i + k = L.length → k < n → jO L L j n (i : Int) = j ()
 | 0, i, n, hi, hn => by
  obtain ⟨n, rfl⟩ : ∃ m, n = m + 1 := ⟨n - 1, by omega⟩
  rw [jO, if_neg (by simp; omega)]
 | k + 1, i, n, hi, hn => by
  obtain ⟨n, rfl⟩ : ∃ m, n = m + 1 := ⟨n - 1, by omega⟩
  have hw : IntKind.wrap .i64 ((i : Int) + 1) = ((i + 1 : Nat) : Int) := by rw [Go.Bm.aU (by omega) (by omega)]; omega
  rw [jO, if_pos (by simp; omega), eN (by omega)]
  simp only [Option.bind_some, beq_self_eq_true, Bool.not_true, Bool.false_eq_true, if_false, hw]
  exact Jp L hz j k (i + 1) n (by omega) (by omega)
theorem same_eq (L : List bD) (hz : L.length ≤ 1000) (n : Nat) (hn : 1010 ≤ n) : oT n L L = some true := by
 unfold oT aS
 rw [if_neg (by simp)]
 exact Jp L hz _ L.length 0 n (by omega) (by omega)
end Go.Proofs.YtojkihhnioeggaaGreatDoor.S
