import Derived.Test.YtojkihhnioeggaaGreatDoorQRGM13
import Derived.Test.YtojkihhnioeggaaGreatDoorQRDw1
import Derived.WalkKit
import Derived.WalkSpells
import Derived.WalkLawsBesides
import Derived.Deep.QuietTactic
import Derived.BigQuiet
import Derived.BigRegion
import Derived.Lib.Hide
import Derived.Deep.RegionWith
set_option linter.unusedSimpArgs false
set_option linter.unusedVariables false
set_option linter.unusedSimpArgs false
set_option linter.unusedVariables false
namespace Go.Proofs.YtojkihhnioeggaaGreatDoor.S
open Go Go.Bm
theorem Av (L : List aZ) (h : Pq L) (nm : ByteArray) (j : Unit → Option (aD × Bool)) (hj : ∃ r, j () = some r) : ∀ (k i : Nat), i + k = L.length → ∃ r, ∀ n, k + 21 ≤ n → eQ L nm j n (i : Int) = some r ∧ kL L nm j n (i : Int) = some r
 | 0, i, hi => by
  obtain ⟨r, hr⟩ := hj
  refine ⟨r, fun n hn => ?_⟩
  obtain ⟨n, rfl⟩ : ∃ m, n = m + 1 := ⟨n - 1, by omega⟩
  exact ⟨by rw [eQ, if_neg (by simp; omega), hr], by rw [kL, if_neg (by simp; omega), hr]⟩
 | k + 1, i, hi => by
  have hl := h.len
  have hlt : i < L.length := by omega
  have hw : IntKind.wrap .i64 ((i : Int) + 1) = ((i + 1 : Nat) : Int) := by rw [Go.Bm.aS (by omega) (by omega)]; omega
  obtain ⟨r, hr⟩ := Av L h nm j hj k (i + 1) (by omega)
  have hv := (h.ok L[i] (List.getElem_mem hlt)).val.cpy
  cases hq : cS L[i].Name nm
  ·refine ⟨r, fun n hn => ?_⟩
   obtain ⟨n, rfl⟩ : ∃ m, n = m + 1 := ⟨n - 1, by omega⟩
   rw [eQ, kL, if_pos (by simp; omega), if_pos (by simp; omega), dS hlt]
   simp only [Option.bind_some, hq, Bool.false_eq_true, if_false, hw]
   exact hr n (by omega)
  ·refine ⟨(L[i].Value, true), fun n hn => ?_⟩
   obtain ⟨n, rfl⟩ : ∃ m, n = m + 1 := ⟨n - 1, by omega⟩
   rw [eQ, kL, if_pos (by simp; omega), if_pos (by simp; omega), dS hlt]
   simp only [Option.bind_some, hq, if_true, hv n (by omega), and_self]
theorem Sb {L : List aZ} (h : Pq L) (nm : ByteArray) : ∃ r, ∀ n, 60 ≤ n → rQ n L nm = some r ∧ Ew n L nm = some r := by
 have hl := h.len
 obtain ⟨r, hr⟩ := Av L h nm (fun (_ : Unit) => some ((aD.mk 0 0 (⟨#[]⟩ : ByteArray) ([] : List aD)), false)) ⟨_, rfl⟩ L.length 0 (by omega)
 exact ⟨r, fun n hn => hr n (by omega)⟩
theorem Ku {x : aP} (h : Rv x) (n : Nat) (hn : 60 ≤ n) : qW n x = some (Yc x.Attrs (⟨#[99, 108, 97, 115, 115]⟩ : ByteArray)) := by
 obtain ⟨r, hr⟩ := Sb h.at_ (⟨#[99, 108, 97, 115, 115]⟩ : ByteArray)
 have h1 := Tn h.at_ (⟨#[99, 108, 97, 115, 115]⟩ : ByteArray) n hn
 rw [← h1]
 unfold qW Fk mV
 rw [(hr n hn).1, (hr n hn).2]
 simp only [Option.bind_some]
 cases hk : (r.1.Kind == 3)
 ·have : (r.1.Kind != 3) = true := by simp only [bne, hk]; rfl
  rw [this]; rfl
 ·have : (r.1.Kind != 3) = false := by simp only [bne, hk]; rfl
  rw [this]; rfl
theorem Ad {β : Type} {k q : Int} {v : β} : ∀ {m : List (Int × β)}, (iF k v m).lookup q = if q = k then some v else m.lookup q
 | [] => by
  rw [iF, List.lookup_cons]
  by_cases e : q = k
  ·rw [if_pos e, beq_iff_eq.2 e]
  ·rw [if_neg e, beq_eq_false_iff_ne.2 e]
 | p :: m => by
  rw [iF]
  by_cases hp : p.1 = k
  ·rw [if_pos (by simpa using hp), List.lookup_cons]
   by_cases e : q = k
   ·rw [if_pos e, beq_iff_eq.2 (e.trans hp.symm)]
   ·have : (q == p.1) = false := by rw [beq_eq_false_iff_ne]; omega
    rw [if_neg e, this, List.lookup_cons, this]
  ·rw [if_neg (by simpa using hp), List.lookup_cons, List.lookup_cons]
   by_cases e : q = p.1
   ·rw [beq_iff_eq.2 e, if_neg (by omega)]
   ·rw [beq_eq_false_iff_ne.2 e, Ad]
def Ys : List aT → Int → Int
 | [], _ => 0
 | s :: l, i => if s.ID = i then s.States else Ys l i
def Sf (l : List aT) : List (Int × Int) := (l.reverse).foldl (fun m s => iF s.ID s.States m) []
theorem Qe : ∀ (l : List aT) (i : Int), eN i (Sf l) = Ys l i
 | [], i => rfl
 | s :: l, i => by
  have e : Sf (s :: l) = iF s.ID s.States (Sf l) := by unfold Sf; rw [List.reverse_cons, List.foldl_append]; rfl
  rw [e, Ys]
  unfold eN
  rw [Ad]
  by_cases h : i = s.ID
  ·rw [if_pos h, if_pos h.symm]; rfl
  ·rw [if_neg h, if_neg (by omega)]; exact Qe l i
theorem Vv (n : Nat) (a : List (Int × aP)) (b : List (Int × ByteArray)) : ∀ (l : List (Nat × aT)) (m : List (Int × Int)), iS n a b l m = some ⟨a, b, (l.map Prod.snd).foldl (fun m s => iF s.ID s.States m) m⟩
 | [], m => rfl
 | (i, e) :: l, m => by rw [iS, Vv n a b l]; rfl
theorem see_eq {t : bA} {v : aG} (h : cT t v) (hv : oT 4 v) (st : List aT) (hst : st.length ≤ 1000) (n : Nat) (hn : 500 ≤ n) : rU n t st = some ⟨kE t.Nodes, tO t.Nodes, Sf st⟩ := by
 have hs := oT.small 4 v hv
 have hl := h.len
 unfold rU aR
 refine (Wj t _ st (by omega) h.nodup (h.ok hv) t.Nodes [] n 0 rfl rfl (by omega)).trans ?_
 have hlen : He st = some () := by unfold He; rw [if_pos (by unfold maxLen; omega)]
 show (some st).bind (fun y14 => (He y14).bind fun (_ : Unit) => iS n (kE t.Nodes) (tO t.Nodes) (zH y14 (List.length y14)) []) = _
 rw [Option.bind_some, hlen, Option.bind_some, Vv]
 congr 2
 unfold Sf zH
 congr 1
 rw [List.take_length, List.map_reverse, List.map_map]
 congr 1
 refine List.ext_getElem? fun i => ?_
 rw [List.getElem?_map, List.getElem?_zipIdx]
 cases st[i]? <;> rfl
theorem yR (st : List aT) (i : Int) (j : Unit → Option Int) (hz : st.length ≤ 1000) (hj : j () = some 0) : ∀ (l pre : List aT) (n : Nat) (q : Int), st = pre ++ l → q = pre.length → l.length < n → jY st i j n q = some (Ys l i)
 | [], pre, n, q, ht, hq, hn => by
  obtain ⟨n, rfl⟩ : ∃ m, n = m + 1 := ⟨n - 1, by simp at hn; omega⟩
  have hlen : st.length = pre.length := by rw [ht]; simp
  rw [jY, if_neg (by simp; omega), hj]; rfl
 | x :: l, pre, n, q, ht, hq, hn => by
  obtain ⟨n, rfl⟩ : ∃ m, n = m + 1 := ⟨n - 1, by simp at hn; omega⟩
  have hlen : st.length = pre.length + (l.length + 1) := by rw [ht]; simp
  have hw : IntKind.wrap .i64 (q + 1) = q + 1 := Go.Bm.aS (by omega) (by omega)
  rw [jY, if_pos (by simp; omega), jQ ht hq, Ys]
  simp only [Option.bind_some, hw]
  by_cases e : x.ID = i
  ·rw [if_pos (by simpa using e), if_pos e]
  ·rw [if_neg (by simpa using e), if_neg e]
   exact yR st i j hz hj l (pre ++ [x]) n (q + 1) (by rw [ht]; simp) (by simp; omega) (by simp at hn; omega)
theorem Pc (st : List aT) (hz : st.length ≤ 1000) (i : Int) (n : Nat) (hn : 1010 ≤ n) : tA n st i = some (Ys st i) := by
 unfold tA aR
 exact yR st i _ hz rfl st [] n 0 rfl rfl (by omega)
theorem zN {β : Type} (f : aP → β) : ∀ {l : List aP}, (l.map aP.ID).Nodup → ∀ {x : aP}, x ∈ l → (l.map fun x => (x.ID, f x)).lookup x.ID = some (f x)
 | [], _, _, h => nomatch h
 | y :: l, hn, x, h => by
  rw [List.map_cons, List.nodup_cons] at hn
  rw [List.map_cons, List.lookup_cons]
  rcases List.mem_cons.1 h with rfl | h
  ·simp
  ·have : (x.ID == y.ID) = false := by
    rw [beq_eq_false_iff_ne]
    intro e
    exact hn.1 (e ▸ List.mem_map.2 ⟨x, h, rfl⟩)
   rw [this]
   exact zN f hn.2 h
theorem Hg {β : Type} (f : aP → β) {i : Int} : ∀ {l : List aP}, (∀ x, x ∈ l → x.ID ≠ i) → (l.map fun x => (x.ID, f x)).lookup i = none
 | [], _ => rfl
 | y :: l, h => by
  have : (i == y.ID) = false := by rw [beq_eq_false_iff_ne]; exact fun e => h y (by simp) e.symm
  rw [List.map_cons, List.lookup_cons, this]
  exact Hg f fun x hx => h x (by simp [hx])
theorem Kv (x y : ByteArray) : cS x y = cS y x := by
 cases h : cS x y
 ·exact (Kq h).symm
 ·rw [Nz h, eY]
theorem Rn (x y : Int) : (x == y) = (y == x) := by
 rw [Bool.eq_iff_iff, beq_iff_eq, beq_iff_eq]; exact ⟨Eq.symm, Eq.symm⟩
def cls (x : aP) : ByteArray := Yc x.Attrs (⟨#[99, 108, 97, 115, 115]⟩ : ByteArray)
theorem aAg {t : bA} {v : aG} (h : cT t v) (hv : oT 4 v) (S : iY) (hN : S.nodes = kE t.Nodes) (hC : S.class_ = tO t.Nodes) (r : bT) (j j' : Unit → Option Bool) (hj : j () = some false) (hj' : j' () = some false) : ∀ (k : Nat) (x : aP), x ∈ t.Nodes → x.ID < t.Root + k → ∃ b, ∀ n, k + 500 ≤ n →
  iB r S j n (jZ x.Parent S.nodes) (eN x.Parent S.nodes).ID (eN x.Parent S.nodes).Parent (eN x.Parent S.nodes).Kind (eN x.Parent S.nodes).Key (eN x.Parent S.nodes).Attrs (eN x.Parent S.nodes).Actions (eN x.Parent S.nodes).Kids = some b ∧
  gX t r j' n x.ID x.Parent x.Kind x.Key x.Attrs x.Actions x.Kids = some b
 | 0, x, hx, hk => by have := h.rng hx; omega
 | k + 1, x, hx, hk => by
  have hroot := h.root
  rcases h.prt hx with ⟨e1, e2⟩ | ⟨e1, e2, e3⟩
  ·refine ⟨false, fun n hn => ?_⟩
   obtain ⟨n, rfl⟩ : ∃ m, n = m + 1 := ⟨n - 1, by omega⟩
   have hnone : (kE t.Nodes).lookup 0 = none := Hg (fun x => x) fun y hy => by have := h.rng hy; omega
   have hm : jZ x.Parent S.nodes = false := by rw [e2, hN]; unfold jZ; rw [hnone]; rfl
   rw [hm, iB, gX, e2]
   simp only [Bool.false_eq_true, if_false, bne_self_eq_false]
   exact ⟨hj, hj'⟩
  ·obtain ⟨y, hy, hyi⟩ : ∃ y, y ∈ t.Nodes ∧ y.ID = x.Parent := by
    have := h.rng hx
    obtain ⟨y, _, hy, hyi⟩ := h.nth (q := (x.Parent - t.Root).toNat) (by omega)
    exact ⟨y, hy, by omega⟩
   have hlook : (kE t.Nodes).lookup y.ID = some y := mQ h.nodup hy
   have hclass : (tO t.Nodes).lookup y.ID = some (cls y) := zN (fun x => Yc x.Attrs (⟨#[99, 108, 97, 115, 115]⟩ : ByteArray)) h.nodup hy
   have hm : jZ x.Parent S.nodes = true := by rw [← hyi, hN]; unfold jZ; rw [hlook]; rfl
   have hg : eN x.Parent S.nodes = y := by rw [← hyi, hN]; unfold eN; rw [hlook]; rfl
   obtain ⟨b, hb⟩ := aAg h hv S hN hC r j j' hj hj' k y hy (by omega)
   have hnd := h.ok hv y hy
   have hcg : eN y.ID S.class_ = cls y := by rw [hC]; unfold eN; rw [hclass]; rfl
   have c0 : (x.Parent != 0) = true := by simp; omega
   refine ⟨if (((r.UnderKind == 0) || (y.Kind == r.UnderKind)) && ((cS r.UnderClass (⟨#[]⟩ : ByteArray)) || (cS (cls y) r.UnderClass))) = true then true else b, fun n hn => ?_⟩
   obtain ⟨n, rfl⟩ : ∃ m, n = m + 1 := ⟨n - 1, by omega⟩
   have hc := Ku hnd n (by omega)
   obtain ⟨hb1, hb2⟩ := hb n (by omega)
   rw [hm, hg, iB, gX, c0]
   rw [← hyi, yX h n (by omega) hy]
   simp only [if_true, Option.bind_some]
   rw [hc, hcg, Rn r.UnderKind y.Kind]
   rw [Kv (cls y) r.UnderClass]
   have hfold : Yc y.Attrs (⟨#[99, 108, 97, 115, 115]⟩ : ByteArray) = cls y := rfl
   cases hA : ((r.UnderKind == 0) || (y.Kind == r.UnderKind)) <;> cases hE : cS r.UnderClass (⟨#[]⟩ : ByteArray)
   ·simp only [gd, List.all_cons, List.all_nil, id, Bool.not_false, Bool.and_true, Bool.false_and, Bool.false_eq_true, if_false, Option.bind_some, Bool.and_false]
    exact ⟨hb1, hb2⟩
   ·simp only [gd, List.all_cons, List.all_nil, id, Bool.not_true, Bool.and_false, Bool.false_and, Bool.false_eq_true, if_false, Option.bind_some]
    exact ⟨hb1, hb2⟩
   ·simp only [gd, List.all_cons, List.all_nil, id, Bool.not_false, Bool.and_true, Bool.true_and, if_true, Option.bind_some, Bool.false_or, hfold, Kv (cls y) r.UnderClass]
    cases cS r.UnderClass (cls y)
    ·simp only [Bool.false_eq_true, if_false]
     exact ⟨hb1, hb2⟩
    ·exact ⟨rfl, rfl⟩
   ·simp only [gd, List.all_cons, List.all_nil, id, Bool.not_true, Bool.and_false, Bool.false_eq_true, if_false, Option.bind_some, Bool.true_or, Bool.and_true, if_true]
    exact ⟨trivial, trivial⟩
end Go.Proofs.YtojkihhnioeggaaGreatDoor.S
