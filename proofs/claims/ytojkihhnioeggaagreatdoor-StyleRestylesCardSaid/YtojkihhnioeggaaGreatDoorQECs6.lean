import Derived.Test.YtojkihhnioeggaaGreatDoorQECs5
import Derived.WalkLawsBesides
import Derived.Deep.QuietTactic
import Derived.BigQuiet
import Derived.BigRegion
import Derived.Lib.Hide
import Derived.Deep.RegionWith
set_option linter.unusedSimpArgs false
set_option linter.all false
set_option linter.unusedVariables false
set_option linter.unusedSectionVars false
namespace Go.Proofs.YtojkihhnioeggaaGreatDoor.S
open Go Go.Bm
theorem Yk {β : Type} {M : List (Int × β)} {k : Int} {s : β} (h : k ∉ M.map Prod.fst) : (M ++ [(k, s)]).lookup k = some s := by
 rw [List.lookup_append, uT fun p hp e => h (List.mem_map.2 ⟨p, hp, e⟩), List.lookup_cons, beq_self_eq_true]
 rfl
theorem Li {β : Type} [Inhabited β] {M : List (Int × β)} {k : Int} {s : β} (h : M.lookup k = some s) : cZ k M = s := by
 unfold cZ; rw [h]; rfl
section
variable (F : aU → aB → aB)
def qG : List aU → List (Int × aB) → List (Int × aB)
 | [], M => M
 | x :: l, M => qG l (M ++ [(x.ID, F x (cZ x.Parent M))])
theorem uG : ∀ (l : List aU) (M : List (Int × aB)), (qG F l M).map Prod.fst = M.map Prod.fst ++ l.map aU.ID
 | [], M => by simp [qG]
 | x :: l, M => by rw [qG, uG l]; simp
theorem Jl : ∀ (l : List aU) (x : aU) (M : List (Int × aB)), qG F (l ++ [x]) M = qG F l M ++ [(x.ID, F x (cZ x.Parent (qG F l M)))]
 | [], x, M => rfl
 | y :: l, x, M => by rw [List.cons_append, qG, Jl l, qG]
end
def Fv (M : List (Int × aB)) : List aZ := M.map fun p => ⟨p.1, p.2⟩
theorem Lw (q : Int) (j : Unit → Option aB) (hj : j () = some (default : aB)) (M : List (Int × aB)) (hz : M.length ≤ 1000) : ∀ (l pre : List (Int × aB)) (n : Nat) (i : Int), M = pre ++ l → i = pre.length → l.length < n → kO (Fv M) q j n i = some ((l.lookup q).getD default)
 | [], pre, n, i, ht, hq, hn => by
  obtain ⟨n, rfl⟩ := nS n (by simp at hn; omega)
  have ab : M.length = pre.length := by rw [ht]; simp
  rw [kO, if_neg (by simp [Fv]; omega), hj]; rfl
 | x :: l, pre, n, i, ht, hq, hn => by
  obtain ⟨n, rfl⟩ := nS n (by simp at hn; omega)
  have ab : M.length = pre.length + (l.length + 1) := by rw [ht]; simp
  have hw : w6 (i + 1) = i + 1 := wS (by omega) (by omega)
  have hix : idx (Fv M) i = some (aZ.mk x.1 x.2) := kI (pre := Fv pre) (l := Fv l) (by rw [ht]; simp [Fv]) (by simpa [Fv] using hq)
  rw [kO, if_pos (by simp [Fv]; omega), hix]
  simp only [oB, hw]
  rw [List.lookup_cons]
  by_cases e : x.1 = q
  ·rw [if_pos (by simpa using e), beq_iff_eq.2 e.symm]; rfl
  ·rw [if_neg (by simpa using e), beq_eq_false_iff_ne.2 fun h => e h.symm]
   exact Lw q j hj M hz l (pre ++ [x]) n (i + 1) (by rw [ht]; simp) (by simp; omega) (by simp at hn; omega)
theorem find_eq (M : List (Int × aB)) (hz : M.length ≤ 1000) (q : Int) (n : Nat) (hn : 1010 ≤ n) : sJ n (Fv M) q = some (cZ q M) := by
 unfold sJ aS
 exact Lw q _ rfl M hz M [] n 0 rfl rfl (by omega)
theorem csc_L0 (s : bM) (hz : s.Rules.length ≤ 100) (j : List Int → Option ((List aZ) × Int)) (t : bA) (S : fO) (th : bS) (m : cX) : ∀ (k i n : Nat), i + k = s.Rules.length → k < n → gW s j t S th m n (i : Int) (iz i) = j (iz s.Rules.length)
 | 0, i, n, hi, hn => by
  obtain ⟨n, rfl⟩ := nS n (by omega)
  obtain rfl : i = s.Rules.length := by omega
  rw [gW, if_neg (by simp)]
 | k + 1, i, n, hi, hn => by
  obtain ⟨n, rfl⟩ := nS n (by omega)
  have hw : w6 ((i : Int) + 1) = ((i + 1 : Nat) : Int) := by rw [wS (by omega) (by omega)]; omega
  rw [gW, if_pos (by simp; omega), xG (by unfold iz; rw [jX]; simp; omega) (by decide)]
  simp only [oB, hw]
  have : iz i ++ [(i : Int)] = iz (i + 1) := by unfold iz; rw [yK]; simp [oV]
  rw [this]
  exact csc_L0 s hz j t S th m k (i + 1) n (by omega) (by omega)
section
variable {t : bA} {v : aN} (h : cR t v) (hv : VG v) (st : List aO) (af : st.length ≤ 1000) {s : bM} (hs : jY s) (th : bS) (an : th.Tokens.length ≤ 1000) (m : cX)
def sF (t : bA) (st : List aO) (s : bM) (th : bS) (m : cX) (x : aU) (up : aB) : aB := styF t st s th m x up (x.Parent == 0)
include h hv af hs an
theorem Ys (j : List (Int × aB) → Option ((List aZ) × Int)) : ∀ (l pre : List aU) (n : Nat) (q : Int), t.Nodes = pre ++ l → q = pre.length → l.length + 3100 < n →
  gR (oV t.Root (eU v)) ⟨kV t.Nodes, tE t.Nodes, Ve st⟩ s (Be s).reverse th m t j n q (qG (sF t st s th m) pre []) = j (qG (sF t st s th m) t.Nodes [])
 | [], pre, n, q, ht, hq, hn => by
  obtain ⟨n, rfl⟩ := nS n (by omega)
  have ab : t.Nodes.length = pre.length := by rw [ht]; simp
  have hl := h.len
  rw [gR, if_neg (by simp [jX]; omega), ht, List.append_nil]
 | x :: l, pre, n, q, ht, hq, hn => by
  obtain ⟨n, rfl⟩ := nS n (by omega)
  have ab : t.Nodes.length = pre.length + (l.length + 1) := by rw [ht]; simp
  have hl := h.len
  have ah := h.size
  have av := h.root
  simp only [List.length_cons] at hn
  have hw : w6 (q + 1) = q + 1 := wS (by omega) (by omega)
  have hx : x ∈ t.Nodes := by rw [ht]; simp
  have au := h.nodup
  have am : x.ID = t.Root + (pre.length : Nat) := by
   obtain ⟨y, hy, _, hyi⟩ := h.nth (q := pre.length) (by omega)
   rw [ht, List.getElem?_append_right (Nat.le_refl _), Nat.sub_self] at hy
   obtain rfl : x = y := Option.some.inj hy
   exact hyi
  have hidx : idx (oV t.Root (eU v)) q = some x.ID := by
   rw [hq, am]; exact vW (tJ _ _ _ (by omega))
  have ak : cZ x.ID (kV t.Nodes) = x := by unfold cZ; rw [lW au hx]; rfl
  have hpar : (x.ID == t.Root) = (x.Parent == 0) := by
   rcases h.prt hx with ⟨e1, e2⟩ | ⟨e1, e2, e3⟩
   ·rw [beq_iff_eq.2 e1, beq_iff_eq.2 e2]
   ·have a : (x.ID == t.Root) = false := by rw [beq_eq_false_iff_ne]; omega
    have b : (x.Parent == 0) = false := by rw [beq_eq_false_iff_ne]; omega
    rw [a, b]
  have hnew : ∀ p, p ∈ qG (sF t st s th m) pre [] → p.1 ≠ x.ID := fun p hp e => by
   have hk : p.1 ∈ (qG (sF t st s th m) pre []).map Prod.fst := List.mem_map.2 ⟨p, hp, rfl⟩
   rw [uG] at hk
   rw [ht, List.map_append, List.nodup_append] at au
   exact au.2.2 p.1 (by simpa using hk) x.ID (by simp) e
  have hsty := style_eq h hv st af hs th an m x hx (cZ x.Parent (qG (sF t st s th m) pre [])) (x.ID == t.Root) n (by omega)
  rw [gR, if_pos (by simp [jX]; omega), hidx]
  simp only [oB, hw]
  rw [ak, hsty]
  simp only [oB]
  rw [sS hnew]
  have := Ys j l (pre ++ [x]) n (q + 1) (by rw [ht]; simp) (by simp; omega) (by omega)
  rw [Jl] at this
  unfold sF at this ⊢
  rw [hpar]
  exact this
theorem Ut (j : List aZ → Option ((List aZ) × Int)) : ∀ (l pre : List aU) (n : Nat) (q : Int), t.Nodes = pre ++ l → q = pre.length → l.length + 3100 < n →
  gZ (oV t.Root (eU v)) t s th m st j n (Fv (qG (sF t st s th m) pre [])) q = j (Fv (qG (sF t st s th m) t.Nodes []))
 | [], pre, n, q, ht, hq, hn => by
  obtain ⟨n, rfl⟩ := nS n (by omega)
  have ab : t.Nodes.length = pre.length := by rw [ht]; simp
  have hl := h.len
  rw [gZ, if_neg (by simp [jX]; omega), ht, List.append_nil]
 | x :: l, pre, n, q, ht, hq, hn => by
  obtain ⟨n, rfl⟩ := nS n (by omega)
  have ab : t.Nodes.length = pre.length + (l.length + 1) := by rw [ht]; simp
  have hl := h.len
  have ah := h.size
  have av := h.root
  simp only [List.length_cons] at hn
  have hw : w6 (q + 1) = q + 1 := wS (by omega) (by omega)
  have hx : x ∈ t.Nodes := by rw [ht]; simp
  have am : x.ID = t.Root + (pre.length : Nat) := by
   obtain ⟨y, hy, _, hyi⟩ := h.nth (q := pre.length) (by omega)
   rw [ht, List.getElem?_append_right (Nat.le_refl _), Nat.sub_self] at hy
   obtain rfl : x = y := Option.some.inj hy
   exact hyi
  have hidx : idx (oV t.Root (eU v)) q = some x.ID := by
   rw [hq, am]; exact vW (tJ _ _ _ (by omega))
  have hml : (qG (sF t st s th m) pre []).length = pre.length := by
   have := congrArg List.length (uG (sF t st s th m) pre [])
   simpa using this
  have hsty := Sh h hv st af hs th an m x hx (cZ x.Parent (qG (sF t st s th m) pre [])) (x.Parent == 0) n (by omega)
  rw [gZ, if_pos (by simp [jX]; omega), hidx]
  simp only [oB, hw]
  rw [yS h n (by omega) hx]
  simp only [oB]
  rw [find_eq _ (by omega) _ n (by omega)]
  simp only [oB]
  rw [hsty]
  simp only [oB]
  rw [xG (by simp [Fv]; omega) (by decide)]
  simp only [oB]
  have := Ut j l (pre ++ [x]) n (q + 1) (by rw [ht]; simp) (by simp; omega) (by omega)
  rw [Jl] at this
  have e : Fv (qG (sF t st s th m) pre []) ++ [aZ.mk x.ID (styF t st s th m x (cZ x.Parent (qG (sF t st s th m) pre [])) (x.Parent == 0))] = Fv (qG (sF t st s th m) pre [] ++ [(x.ID, sF t st s th m x (cZ x.Parent (qG (sF t st s th m) pre [])))]) := by
   simp [Fv, sF]
  rw [e]
  exact this
end
def Om (M : List (Int × aB)) (l : List aU) : List aZ := l.map fun x => ⟨x.ID, cZ x.ID M⟩
theorem Yq (t : bA) (M : List (Int × aB)) (j : List aZ → Option ((List aZ) × Int)) (hz : t.Nodes.length ≤ 1000) : ∀ (l pre : List aU) (n : Nat) (q : Int), t.Nodes = pre ++ l → q = pre.length → l.length < n → gU t M j n (Om M pre) q = j (Om M t.Nodes)
 | [], pre, n, q, ht, hq, hn => by
  obtain ⟨n, rfl⟩ := nS n (by simp at hn; omega)
  have ab : t.Nodes.length = pre.length := by rw [ht]; simp
  rw [gU, if_neg (by simp; omega), ht, List.append_nil]
 | x :: l, pre, n, q, ht, hq, hn => by
  obtain ⟨n, rfl⟩ := nS n (by simp at hn; omega)
  have ab : t.Nodes.length = pre.length + (l.length + 1) := by rw [ht]; simp
  have hw : w6 (q + 1) = q + 1 := wS (by omega) (by omega)
  rw [gU, if_pos (by simp; omega), kI ht hq]
  simp only [oB, hw]
  rw [xG (by simp [Om]; omega) (by decide)]
  simp only [oB]
  rw [show Om M pre ++ [aZ.mk x.ID (cZ x.ID M)] = Om M (pre ++ [x]) from by simp [Om]]
  exact Yq t M j hz l (pre ++ [x]) n (q + 1) (by rw [ht]; simp) (by simp; omega) (by simp at hn; omega)
theorem outL_stl : ∀ (M : List (Int × aB)) (l : List aU), M.map Prod.fst = l.map aU.ID → (l.map aU.ID).Nodup → Om M l = Fv M := by
 intro M l hk hn
 have key : ∀ (M' : List (Int × aB)) (l : List aU), M'.map Prod.fst = l.map aU.ID → (∀ p, p ∈ M' → M.lookup p.1 = some p.2) → Om M l = Fv M' := by
  intro M'
  induction M' with
  | nil =>
   intro l hk _
   cases l with
   | nil => rfl
   | cons x l => cases hk
  | cons p M' ih =>
   intro l hk hl
   cases l with
   | nil => cases hk
   | cons x l =>
    rw [List.map_cons, List.map_cons] at hk
    injection hk with h1 h2
    have := ih l h2 fun p hp => hl p (by simp [hp])
    unfold Om Fv at this ⊢
    rw [List.map_cons, List.map_cons, this, ← h1, Li (hl p (by simp))]
 refine key M l hk fun p hp => ?_
 rw [← hk] at hn
 have key2 : ∀ M : List (Int × aB), (M.map Prod.fst).Nodup → p ∈ M → M.lookup p.1 = some p.2 := by
  intro M
  induction M with
  | nil => intro _ hm; cases hm
  | cons y M ih =>
   intro hn hm
   rw [List.map_cons, List.nodup_cons] at hn
   rw [List.lookup_cons]
   rcases List.mem_cons.1 hm with rfl | hm
   ·simp
   ·have : (p.1 == y.1) = false := by
     rw [beq_eq_false_iff_ne]
     intro e
     exact hn.1 (e ▸ List.mem_map.2 ⟨p, hm, rfl⟩)
    rw [this]; exact ih hn.2 hm
 exact key2 M hn hp
theorem Pd (L : List aZ) (hz : L.length ≤ 1000) (ha : ∀ (i : Nat) a b, L[i]? = some a → L[i + 1]? = some b → a.ID ≤ b.ID) (j : Unit → Option (List aZ)) : ∀ (k i n : Nat), i + k = L.length → k + 1 < n → fI L j n (i : Int) = j ()
 | 0, i, n, hi, hn => by
  obtain ⟨n, rfl⟩ := nS n (by omega)
  rw [fI, if_neg (by simp; omega)]
 | k + 1, i, n, hi, hn => by
  obtain ⟨n, rfl⟩ := nS n (by omega)
  have hw : w6 ((i : Int) + 1) = ((i + 1 : Nat) : Int) := by rw [wS (by omega) (by omega)]; omega
  rw [fI, if_pos (by simp; omega)]
  unfold aS
  simp only [hw]
  obtain ⟨n, rfl⟩ := nS n (by omega)
  have ih := Pd L hz ha j k (i + 1) (n + 1) (by omega) (by omega)
  have e : ∀ j' : Unit → Option (List aZ), jE (i : Int) L j' (n + 1) () = j' () := fun j' => by
   rw [jE]
   cases i with
   | zero => simp [gd]
   | succ i =>
    have hd : decide (((i + 1 : Nat) : Int) > 0) = true := by rw [decide_eq_true_eq]; omega
    have ao : w6 (((i + 1 : Nat) : Int) - 1) = (i : Int) := by rw [wS (by omega) (by omega)]; omega
    have h1 : i < L.length := by omega
    have h2 : i + 1 < L.length := by omega
    rw [hd, ao, dR h1, dR h2]
    have := ha i L[i] L[i + 1] (List.getElem?_eq_getElem h1) (List.getElem?_eq_getElem h2)
    have hc : decide (L[i].ID > L[i + 1].ID) = false := by simp; omega
    simp only [nP, if_true, oB, hc, Bool.and_false, fT, if_false]
  exact (e _).trans ih
theorem Mw (L : List aZ) (hz : L.length ≤ 1000) (ha : ∀ (i : Nat) a b, L[i]? = some a → L[i + 1]? = some b → a.ID ≤ b.ID) (n : Nat) (hn : 1010 ≤ n) : lT n L = some L := by
 unfold lT aS
 exact Pd L hz ha _ L.length 0 n (by omega) (by omega)
theorem Ha {t : bA} {v : aN} (h : cR t v) (hv : VG v) (n : Nat) (hn : Cq v + 3000 ≤ n) : oO n t = some (oV t.Root (eU v)) := by
 have ah := h.size
 unfold oO
 rw [Dg h hv n hn]
 simp only [oB, bne_self_eq_false, fT, if_false]
 rw [Md h v n t.Root 0 [] (fun x hx => by rw [h.nodes]; exact hx) (by omega) (by omega) (by simp; omega)]
 rfl
def mSc (m : cX) : Bool := (decide (m.Scale < 50)) || (decide (m.Scale > 400))
def Sf (t : bA) (st : List aO) (s : bM) (th : bS) (m : cX) : List aZ := Fv (qG (sF t st s th m) t.Nodes [])
theorem Ck (t : bA) (st : List aO) (s : bM) (th : bS) (m : cX) : (Sf t st s th m).map aZ.ID = t.Nodes.map aU.ID := by
 have := uG (sF t st s th m) t.Nodes []
 unfold Sf Fv
 rw [List.map_map]
 show (qG (sF t st s th m) t.Nodes []).map Prod.fst = _
 simpa using this
theorem stys_len (t : bA) (st : List aO) (s : bM) (th : bS) (m : cX) : (Sf t st s th m).length = t.Nodes.length := by
 have := congrArg List.length (Ck t st s th m)
 simpa using this
theorem vR {t : bA} {v : aN} (h : cR t v) (hv : VG v) (st : List aO) (af : st.length ≤ 1000) {s : bM} (hs : jY s) {th : bS} (ht : oD th) (m : cX) (n : Nat) (hn : Cq v + 5000 ≤ n) :
  kH n s th m t st = some (if mSc m = true then ([], 1) else (Sf t st s th m, 0)) ∧ mC n s th m t st = some (if mSc m = true then ([], 1) else (Sf t st s th m, 0)) := by
 have hsl := hs.len
 have htl := ht.len
 have hl := h.len
 have ah := h.size
 obtain ⟨s1, s2⟩ := Zi hs n (by omega)
 obtain ⟨t1, t2⟩ := Yr ht n (by omega)
 have hkeys := uG (sF t st s th m) t.Nodes []
 have hml : (qG (sF t st s th m) t.Nodes []).length = t.Nodes.length := by
  have := congrArg List.length hkeys
  simpa using this
 constructor
 ·unfold kH
  rw [s1, t1]
  simp only [oB, bne_self_eq_false, fT, if_false]
  cases hm : mSc m
  ·have hm' : ((decide (m.Scale < 50)) || (decide (m.Scale > 400))) = false := hm
   rw [hm', Ro h hv n (by omega), Tb h hv st af n (by omega)]
   simp only [oB, bne_self_eq_false, fT, if_false]
   unfold aS
   refine (csc_L0 s (by omega) _ t _ th m s.Rules.length 0 n (by omega) (by omega)).trans ?_
   rw [sort_eq hs (iz s.Rules.length) (fun y hy => iz_in hy) (by unfold iz; rw [jX]; omega) n (by omega)]
   simp only [oB]
   rw [Pn h hv n (by omega)]
   simp only [oB]
   refine (Ys h hv st af hs th (by omega) m _ t.Nodes [] n 0 rfl rfl (by omega)).trans ?_
   refine (Yq t _ _ (by omega) t.Nodes [] n 0 rfl rfl (by omega)).trans ?_
   rw [outL_stl _ _ (by simpa using hkeys) h.nodup]
   rfl
  ·have hm' : ((decide (m.Scale < 50)) || (decide (m.Scale > 400))) = true := hm
   rw [hm']
   rfl
 ·unfold mC qK
  rw [s2, t2]
  simp only [oB, bne_self_eq_false, fT, if_false]
  cases hm : mSc m
  ·have hm' : ((decide (m.Scale < 50)) || (decide (m.Scale > 400))) = false := hm
   rw [hm', Dg h hv n (by omega)]
   simp only [oB, bne_self_eq_false, fT, if_false]
   rw [Ha h hv n (by omega)]
   unfold aS
   simp only [oB]
   refine (Ut h hv st af hs th (by omega) m _ t.Nodes [] n 0 rfl rfl (by omega)).trans ?_
   rw [Mw _ (by simp [Fv]; omega) (fun i a b ha hb => ?_) n (by omega)]
   ·rfl
   ·have hids : (Fv (qG (sF t st s th m) t.Nodes [])).map aZ.ID = oV t.Root (eU v) := by rw [← h.ids']; exact Ck t st s th m
    have hi1 : i + 1 < eU v := by
     have : i + 1 < (Fv (qG (sF t st s th m) t.Nodes [])).length := (List.getElem?_eq_some_iff.1 hb).1
     simp only [Fv, List.length_map] at this
     omega
    have e1 := congrArg (fun l => l[i]?) hids
    have e2 := congrArg (fun l => l[i + 1]?) hids
    simp only [List.getElem?_map, ha, hb, Option.map_some] at e1 e2
    rw [tJ _ _ _ (by omega)] at e1
    rw [tJ _ _ _ hi1] at e2
    have e1 := Option.some.inj e1
    have e2 := Option.some.inj e2
    omega
  ·have hm' : ((decide (m.Scale < 50)) || (decide (m.Scale > 400))) = true := hm
   rw [hm']
   rfl
theorem Mi (L : List aZ) (hz : L.length ≤ 1000) (j : Unit → Option Bool) : ∀ (k i n : Nat), i + k = L.length → k < n → kK L L j n (i : Int) = j ()
 | 0, i, n, hi, hn => by
  obtain ⟨n, rfl⟩ := nS n (by omega)
  rw [kK, if_neg (by simp; omega)]
 | k + 1, i, n, hi, hn => by
  obtain ⟨n, rfl⟩ := nS n (by omega)
  have hw : w6 ((i : Int) + 1) = ((i + 1 : Nat) : Int) := by rw [wS (by omega) (by omega)]; omega
  rw [kK, if_pos (by simp; omega), dR (by omega)]
  simp only [oB, beq_self_eq_true, Bool.not_true, fT, if_false, hw]
  exact Mi L hz j k (i + 1) n (by omega) (by omega)
theorem same_eq (L : List aZ) (hz : L.length ≤ 1000) (n : Nat) (hn : 1010 ≤ n) : tB n L L = some true := by
 unfold tB aS
 rw [if_neg (by simp)]
 exact Mi L hz _ L.length 0 n (by omega) (by omega)
end Go.Proofs.YtojkihhnioeggaaGreatDoor.S
