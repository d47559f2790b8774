import Derived.Test.YtojkihhnioeggaaGreatDoorQMDw1
import Derived.WalkKit
import Derived.WalkSpells
import Derived.WalkLawsBesides
import Derived.Deep.QuietTactic
import Derived.BigQuiet
import Derived.BigRegion
import Derived.Lib.Hide
import Derived.Deep.RegionWith
set_option linter.unusedSimpArgs false
set_option linter.unusedVariables false
set_option linter.unusedSimpArgs false
set_option linter.unusedVariables false
namespace Go.Proofs.YtojkihhnioeggaaGreatDoor.S
open Go Go.Bm
theorem zV (L : List aZ) (h : Lw L) (nm : ByteArray) (j : Unit → Option (aH × Bool)) (hj : ∃ r, j () = some r) : ∀ (k i : Nat), i + k = L.length → ∃ r, ∀ n, k + 21 ≤ n → eK L nm j n (i : Int) = some r ∧ gT L nm j n (i : Int) = some r
 | 0, i, hi => by
  obtain ⟨r, hr⟩ := hj
  refine ⟨r, fun n hn => ?_⟩
  obtain ⟨n, rfl⟩ : ∃ m, n = m + 1 := ⟨n - 1, by omega⟩
  exact ⟨by rw [eK, if_neg (by simp; omega), hr], by rw [gT, if_neg (by simp; omega), hr]⟩
 | k + 1, i, hi => by
  have hl := h.len
  have hlt : i < L.length := by omega
  have hw : IntKind.wrap .i64 ((i : Int) + 1) = ((i + 1 : Nat) : Int) := by rw [Go.Bm.bB (by omega) (by omega)]; omega
  obtain ⟨r, hr⟩ := zV L h nm j hj k (i + 1) (by omega)
  have hv := (h.ok L[i] (List.getElem_mem hlt)).val.cpy
  cases hq : cG L[i].Name nm
  ·refine ⟨r, fun n hn => ?_⟩
   obtain ⟨n, rfl⟩ : ∃ m, n = m + 1 := ⟨n - 1, by omega⟩
   rw [eK, gT, if_pos (by simp; omega), if_pos (by simp; omega), hZ hlt]
   simp only [Option.bind_some, hq, Bool.false_eq_true, if_false, hw]
   exact hr n (by omega)
  ·refine ⟨(L[i].Value, true), fun n hn => ?_⟩
   obtain ⟨n, rfl⟩ : ∃ m, n = m + 1 := ⟨n - 1, by omega⟩
   rw [eK, gT, if_pos (by simp; omega), if_pos (by simp; omega), hZ hlt]
   simp only [Option.bind_some, hq, if_true, hv n (by omega), and_self]
theorem Pd {L : List aZ} (h : Lw L) (nm : ByteArray) : ∃ r, ∀ n, 60 ≤ n → rK n L nm = some r ∧ sU n L nm = some r := by
 have hl := h.len
 obtain ⟨r, hr⟩ := zV L h nm (fun (_ : Unit) => some ((aH.mk 0 0 (⟨#[]⟩ : ByteArray) ([] : List aH)), false)) ⟨_, rfl⟩ L.length 0 (by omega)
 exact ⟨r, fun n hn => hr n (by omega)⟩
theorem Lc {x : aR} (h : Pa x) (n : Nat) (hn : 60 ≤ n) : mF n x = some (Um x.Attrs (⟨#[99, 108, 97, 115, 115]⟩ : ByteArray)) := by
 obtain ⟨r, hr⟩ := Pd h.at_ (⟨#[99, 108, 97, 115, 115]⟩ : ByteArray)
 have h1 := Ui h.at_ (⟨#[99, 108, 97, 115, 115]⟩ : ByteArray) n hn
 rw [← h1]
 unfold mF sE mD
 rw [(hr n hn).1, (hr n hn).2]
 simp only [Option.bind_some]
 cases hk : (r.1.Kind == 3)
 ·have : (r.1.Kind != 3) = true := by simp only [bne, hk]; rfl
  rw [this]; rfl
 ·have : (r.1.Kind != 3) = false := by simp only [bne, hk]; rfl
  rw [this]; rfl
theorem Fo {β : Type} {k q : Int} {v : β} : ∀ {m : List (Int × β)}, (iP k v m).lookup q = if q = k then some v else m.lookup q
 | [] => by
  rw [iP, List.lookup_cons]
  by_cases e : q = k
  ·rw [if_pos e, beq_iff_eq.2 e]
  ·rw [if_neg e, beq_eq_false_iff_ne.2 e]
 | p :: m => by
  rw [iP]
  by_cases hp : p.1 = k
  ·rw [if_pos (by simpa using hp), List.lookup_cons]
   by_cases e : q = k
   ·rw [if_pos e, beq_iff_eq.2 (e.trans hp.symm)]
   ·have : (q == p.1) = false := by rw [beq_eq_false_iff_ne]; omega
    rw [if_neg e, this, List.lookup_cons, this]
  ·rw [if_neg (by simpa using hp), List.lookup_cons, List.lookup_cons]
   by_cases e : q = p.1
   ·rw [beq_iff_eq.2 e, if_neg (by omega)]
   ·rw [beq_eq_false_iff_ne.2 e, Fo]
def Up : List aU → Int → Int
 | [], _ => 0
 | s :: l, i => if s.ID = i then s.States else Up l i
def Wr (l : List aU) : List (Int × Int) := (l.reverse).foldl (fun m s => iP s.ID s.States m) []
theorem Nm : ∀ (l : List aU) (i : Int), gN i (Wr l) = Up l i
 | [], i => rfl
 | s :: l, i => by
  have e : Wr (s :: l) = iP s.ID s.States (Wr l) := by unfold Wr; rw [List.reverse_cons, List.foldl_append]; rfl
  rw [e, Up]
  unfold gN
  rw [Fo]
  by_cases h : i = s.ID
  ·rw [if_pos h, if_pos h.symm]; rfl
  ·rw [if_neg h, if_neg (by omega)]; exact Nm l i
theorem Tn (n : Nat) (a : List (Int × aR)) (b : List (Int × ByteArray)) : ∀ (l : List (Nat × aU)) (m : List (Int × Int)), iH n a b l m = some ⟨a, b, (l.map Prod.snd).foldl (fun m s => iP s.ID s.States m) m⟩
 | [], m => rfl
 | (i, e) :: l, m => by rw [iH, Tn n a b l]; rfl
theorem Qs {t : bC} {v : aL} (h : cS t v) (hv : qX 4 v) (st : List aU) (hst : st.length ≤ 1000) (n : Nat) (hn : 500 ≤ n) : pG n t st = some ⟨lM t.Nodes, xW t.Nodes, Wr st⟩ := by
 have hs := qX.small 4 v hv
 have hl := h.len
 unfold pG aV
 refine (Sw t _ st (by omega) h.nodup (h.ok hv) t.Nodes [] n 0 rfl rfl (by omega)).trans ?_
 have hlen : Fp st = some () := by unfold Fp; rw [if_pos (by unfold maxLen; omega)]
 show (some st).bind (fun y14 => (Fp y14).bind fun (_ : Unit) => iH n (lM t.Nodes) (xW t.Nodes) (yQ y14 (List.length y14)) []) = _
 rw [Option.bind_some, hlen, Option.bind_some, Tn]
 congr 2
 unfold Wr yQ
 congr 1
 rw [List.take_length, List.map_reverse, List.map_map]
 congr 1
 refine List.ext_getElem? fun i => ?_
 rw [List.getElem?_map, List.getElem?_zipIdx]
 cases st[i]? <;> rfl
theorem wY (st : List aU) (i : Int) (j : Unit → Option Int) (hz : st.length ≤ 1000) (hj : j () = some 0) : ∀ (l pre : List aU) (n : Nat) (q : Int), st = pre ++ l → q = pre.length → l.length < n → gI st i j n q = some (Up l i)
 | [], pre, n, q, ht, hq, hn => by
  obtain ⟨n, rfl⟩ : ∃ m, n = m + 1 := ⟨n - 1, by simp at hn; omega⟩
  have hlen : st.length = pre.length := by rw [ht]; simp
  rw [gI, if_neg (by simp; omega), hj]; rfl
 | x :: l, pre, n, q, ht, hq, hn => by
  obtain ⟨n, rfl⟩ : ∃ m, n = m + 1 := ⟨n - 1, by simp at hn; omega⟩
  have hlen : st.length = pre.length + (l.length + 1) := by rw [ht]; simp
  have hw : IntKind.wrap .i64 (q + 1) = q + 1 := Go.Bm.bB (by omega) (by omega)
  rw [gI, if_pos (by simp; omega), pZ ht hq, Up]
  simp only [Option.bind_some, hw]
  by_cases e : x.ID = i
  ·rw [if_pos (by simpa using e), if_pos e]
  ·rw [if_neg (by simpa using e), if_neg e]
   exact wY st i j hz hj l (pre ++ [x]) n (q + 1) (by rw [ht]; simp) (by simp; omega) (by simp at hn; omega)
theorem Mu (st : List aU) (hz : st.length ≤ 1000) (i : Int) (n : Nat) (hn : 1010 ≤ n) : mU n st i = some (Up st i) := by
 unfold mU aV
 exact wY st i _ hz rfl st [] n 0 rfl rfl (by omega)
theorem yU {β : Type} (f : aR → β) : ∀ {l : List aR}, (l.map aR.ID).Nodup → ∀ {x : aR}, x ∈ l → (l.map fun x => (x.ID, f x)).lookup x.ID = some (f x)
 | [], _, _, h => nomatch h
 | y :: l, hn, x, h => by
  rw [List.map_cons, List.nodup_cons] at hn
  rw [List.map_cons, List.lookup_cons]
  rcases List.mem_cons.1 h with rfl | h
  ·simp
  ·have : (x.ID == y.ID) = false := by
    rw [beq_eq_false_iff_ne]
    intro e
    exact hn.1 (e ▸ List.mem_map.2 ⟨x, h, rfl⟩)
   rw [this]
   exact yU f hn.2 h
theorem zA {β : Type} (f : aR → β) {i : Int} : ∀ {l : List aR}, (∀ x, x ∈ l → x.ID ≠ i) → (l.map fun x => (x.ID, f x)).lookup i = none
 | [], _ => rfl
 | y :: l, h => by
  have : (i == y.ID) = false := by rw [beq_eq_false_iff_ne]; exact fun e => h y (by simp) e.symm
  rw [List.map_cons, List.lookup_cons, this]
  exact zA f fun x hx => h x (by simp [hx])
theorem Ix (x y : ByteArray) : cG x y = cG y x := by
 cases h : cG x y
 ·exact (Ky h).symm
 ·rw [Rt h, gM]
theorem Ow (x y : Int) : (x == y) = (y == x) := by
 rw [Bool.eq_iff_iff, beq_iff_eq, beq_iff_eq]; exact ⟨Eq.symm, Eq.symm⟩
def Qd (x : aR) : ByteArray := Um x.Attrs (⟨#[99, 108, 97, 115, 115]⟩ : ByteArray)
theorem Ws {t : bC} {v : aL} (h : cS t v) (hv : qX 4 v) (S : iN) (hN : S.nodes = lM t.Nodes) (hC : S.class_ = xW t.Nodes) (r : cC) (j j' : Unit → Option Bool) (hj : j () = some false) (hj' : j' () = some false) : ∀ (k : Nat) (x : aR), x ∈ t.Nodes → x.ID < t.Root + k → ∃ b, ∀ n, k + 500 ≤ n →
  gZ r S j n (jF x.Parent S.nodes) (gN x.Parent S.nodes).ID (gN x.Parent S.nodes).Parent (gN x.Parent S.nodes).Kind (gN x.Parent S.nodes).Key (gN x.Parent S.nodes).Attrs (gN x.Parent S.nodes).Actions (gN x.Parent S.nodes).Kids = some b ∧
  eO t r j' n x.ID x.Parent x.Kind x.Key x.Attrs x.Actions x.Kids = some b
 | 0, x, hx, hk => by have := h.rng hx; omega
 | k + 1, x, hx, hk => by
  have hroot := h.root
  rcases h.prt hx with ⟨e1, e2⟩ | ⟨e1, e2, e3⟩
  ·refine ⟨false, fun n hn => ?_⟩
   obtain ⟨n, rfl⟩ : ∃ m, n = m + 1 := ⟨n - 1, by omega⟩
   have hnone : (lM t.Nodes).lookup 0 = none := zA (fun x => x) fun y hy => by have := h.rng hy; omega
   have hm : jF x.Parent S.nodes = false := by rw [e2, hN]; unfold jF; rw [hnone]; rfl
   rw [hm, gZ, eO, e2]
   simp only [Bool.false_eq_true, if_false, bne_self_eq_false]
   exact ⟨hj, hj'⟩
  ·obtain ⟨y, hy, hyi⟩ : ∃ y, y ∈ t.Nodes ∧ y.ID = x.Parent := by
    have := h.rng hx
    obtain ⟨y, _, hy, hyi⟩ := h.nth (q := (x.Parent - t.Root).toNat) (by omega)
    exact ⟨y, hy, by omega⟩
   have hlook : (lM t.Nodes).lookup y.ID = some y := mM h.nodup hy
   have hclass : (xW t.Nodes).lookup y.ID = some (Qd y) := yU (fun x => Um x.Attrs (⟨#[99, 108, 97, 115, 115]⟩ : ByteArray)) h.nodup hy
   have hm : jF x.Parent S.nodes = true := by rw [← hyi, hN]; unfold jF; rw [hlook]; rfl
   have hg : gN x.Parent S.nodes = y := by rw [← hyi, hN]; unfold gN; rw [hlook]; rfl
   obtain ⟨b, hb⟩ := Ws h hv S hN hC r j j' hj hj' k y hy (by omega)
   have hnd := h.ok hv y hy
   have hcg : gN y.ID S.class_ = Qd y := by rw [hC]; unfold gN; rw [hclass]; rfl
   have c0 : (x.Parent != 0) = true := by simp; omega
   refine ⟨if (((r.UnderKind == 0) || (y.Kind == r.UnderKind)) && ((cG r.UnderClass (⟨#[]⟩ : ByteArray)) || (cG (Qd y) r.UnderClass))) = true then true else b, fun n hn => ?_⟩
   obtain ⟨n, rfl⟩ : ∃ m, n = m + 1 := ⟨n - 1, by omega⟩
   have hc := Lc hnd n (by omega)
   obtain ⟨hb1, hb2⟩ := hb n (by omega)
   rw [hm, hg, gZ, eO, c0]
   rw [← hyi, Av h n (by omega) hy]
   simp only [if_true, Option.bind_some]
   rw [hc, hcg, Ow r.UnderKind y.Kind]
   rw [Ix (Qd y) r.UnderClass]
   have hfold : Um y.Attrs (⟨#[99, 108, 97, 115, 115]⟩ : ByteArray) = Qd y := rfl
   cases hA : ((r.UnderKind == 0) || (y.Kind == r.UnderKind)) <;> cases hE : cG r.UnderClass (⟨#[]⟩ : ByteArray)
   ·simp only [gd, List.all_cons, List.all_nil, id, Bool.not_false, Bool.and_true, Bool.false_and, Bool.false_eq_true, if_false, Option.bind_some, Bool.and_false]
    exact ⟨hb1, hb2⟩
   ·simp only [gd, List.all_cons, List.all_nil, id, Bool.not_true, Bool.and_false, Bool.false_and, Bool.false_eq_true, if_false, Option.bind_some]
    exact ⟨hb1, hb2⟩
   ·simp only [gd, List.all_cons, List.all_nil, id, Bool.not_false, Bool.and_true, Bool.true_and, if_true, Option.bind_some, Bool.false_or, hfold, Ix (Qd y) r.UnderClass]
    cases cG r.UnderClass (Qd y)
    ·simp only [Bool.false_eq_true, if_false]
     exact ⟨hb1, hb2⟩
    ·exact ⟨rfl, rfl⟩
   ·simp only [gd, List.all_cons, List.all_nil, id, Bool.not_true, Bool.and_false, Bool.false_eq_true, if_false, Option.bind_some, Bool.true_or, Bool.and_true, if_true]
    exact ⟨trivial, trivial⟩
end Go.Proofs.YtojkihhnioeggaaGreatDoor.S
