import Derived.Test.YtojkihhnioeggaaGreatDoorQUGM13
import Derived.Test.YtojkihhnioeggaaGreatDoorQUDw1
import Derived.WalkKit
import Derived.WalkSpells
import Derived.WalkLawsBesides
import Derived.Deep.QuietTactic
import Derived.BigQuiet
import Derived.BigRegion
import Derived.Lib.Hide
import Derived.Deep.RegionWith
set_option linter.unusedSimpArgs false
set_option linter.unusedVariables false
set_option linter.unusedSimpArgs false
set_option linter.unusedVariables false
namespace Go.Proofs.YtojkihhnioeggaaGreatDoor.S
open Go Go.Bm
theorem Bl (L : List bD) (h : Qp L) (nm : ByteArray) (j : Unit → Option (aF × Bool)) (hj : ∃ r, j () = some r) : ∀ (k i : Nat), i + k = L.length → ∃ r, ∀ n, k + 21 ≤ n → eU L nm j n (i : Int) = some r ∧ kR L nm j n (i : Int) = some r
 | 0, i, hi => by
  obtain ⟨r, hr⟩ := hj
  refine ⟨r, fun n hn => ?_⟩
  obtain ⟨n, rfl⟩ : ∃ m, n = m + 1 := ⟨n - 1, by omega⟩
  exact ⟨by rw [eU, if_neg (by simp; omega), hr], by rw [kR, if_neg (by simp; omega), hr]⟩
 | k + 1, i, hi => by
  have hl := h.len
  have hlt : i < L.length := by omega
  have hw : IntKind.wrap .i64 ((i : Int) + 1) = ((i + 1 : Nat) : Int) := by rw [Go.Bm.aT (by omega) (by omega)]; omega
  obtain ⟨r, hr⟩ := Bl L h nm j hj k (i + 1) (by omega)
  have hv := (h.ok L[i] (List.getElem_mem hlt)).val.cpy
  cases hq : bV L[i].Name nm
  ·refine ⟨r, fun n hn => ?_⟩
   obtain ⟨n, rfl⟩ : ∃ m, n = m + 1 := ⟨n - 1, by omega⟩
   rw [eU, kR, if_pos (by simp; omega), if_pos (by simp; omega), dU hlt]
   simp only [Option.bind_some, hq, Bool.false_eq_true, if_false, hw]
   exact hr n (by omega)
  ·refine ⟨(L[i].Value, true), fun n hn => ?_⟩
   obtain ⟨n, rfl⟩ : ∃ m, n = m + 1 := ⟨n - 1, by omega⟩
   rw [eU, kR, if_pos (by simp; omega), if_pos (by simp; omega), dU hlt]
   simp only [Option.bind_some, hq, if_true, hv n (by omega), and_self]
theorem Te {L : List bD} (h : Qp L) (nm : ByteArray) : ∃ r, ∀ n, 60 ≤ n → rZ n L nm = some r ∧ Fr n L nm = some r := by
 have hl := h.len
 obtain ⟨r, hr⟩ := Bl L h nm (fun (_ : Unit) => some ((aF.mk 0 0 (⟨#[]⟩ : ByteArray) ([] : List aF)), false)) ⟨_, rfl⟩ L.length 0 (by omega)
 exact ⟨r, fun n hn => hr n (by omega)⟩
theorem Lo {x : aP} (h : Ta x) (n : Nat) (hn : 60 ≤ n) : rD n x = some (Zf x.Attrs (⟨#[99, 108, 97, 115, 115]⟩ : ByteArray)) := by
 obtain ⟨r, hr⟩ := Te h.at_ (⟨#[99, 108, 97, 115, 115]⟩ : ByteArray)
 have h1 := Up h.at_ (⟨#[99, 108, 97, 115, 115]⟩ : ByteArray) n hn
 rw [← h1]
 unfold rD Gl mZ
 rw [(hr n hn).1, (hr n hn).2]
 simp only [Option.bind_some]
 cases hk : (r.1.Kind == 3)
 ·have : (r.1.Kind != 3) = true := by simp only [bne, hk]; rfl
  rw [this]; rfl
 ·have : (r.1.Kind != 3) = false := by simp only [bne, hk]; rfl
  rw [this]; rfl
theorem Aw {β : Type} {k q : Int} {v : β} : ∀ {m : List (Int × β)}, (fY k v m).lookup q = if q = k then some v else m.lookup q
 | [] => by
  rw [fY, List.lookup_cons]
  by_cases e : q = k
  ·rw [if_pos e, beq_iff_eq.2 e]
  ·rw [if_neg e, beq_eq_false_iff_ne.2 e]
 | p :: m => by
  rw [fY]
  by_cases hp : p.1 = k
  ·rw [if_pos (by simpa using hp), List.lookup_cons]
   by_cases e : q = k
   ·rw [if_pos e, beq_iff_eq.2 (e.trans hp.symm)]
   ·have : (q == p.1) = false := by rw [beq_eq_false_iff_ne]; omega
    rw [if_neg e, this, List.lookup_cons, this]
  ·rw [if_neg (by simpa using hp), List.lookup_cons, List.lookup_cons]
   by_cases e : q = p.1
   ·rw [beq_iff_eq.2 e, if_neg (by omega)]
   ·rw [beq_eq_false_iff_ne.2 e, Aw]
def Zv : List aR → Int → Int
 | [], _ => 0
 | s :: l, i => if s.ID = i then s.States else Zv l i
def Rp (l : List aR) : List (Int × Int) := (l.reverse).foldl (fun m s => fY s.ID s.States m) []
theorem Re : ∀ (l : List aR) (i : Int), cZ i (Rp l) = Zv l i
 | [], i => rfl
 | s :: l, i => by
  have e : Rp (s :: l) = fY s.ID s.States (Rp l) := by unfold Rp; rw [List.reverse_cons, List.foldl_append]; rfl
  rw [e, Zv]
  unfold cZ
  rw [Aw]
  by_cases h : i = s.ID
  ·rw [if_pos h, if_pos h.symm]; rfl
  ·rw [if_neg h, if_neg (by omega)]; exact Re l i
theorem Wx (n : Nat) (a : List (Int × aP)) (b : List (Int × ByteArray)) : ∀ (l : List (Nat × aR)) (m : List (Int × Int)), iV n a b l m = some ⟨a, b, (l.map Prod.snd).foldl (fun m s => fY s.ID s.States m) m⟩
 | [], m => rfl
 | (i, e) :: l, m => by rw [iV, Wx n a b l]; rfl
theorem Pt {t : bA} {v : aJ} (h : cM t v) (hv : nZ 4 v) (st : List aR) (hst : st.length ≤ 1000) (n : Nat) (hn : 500 ≤ n) : oB n t st = some ⟨jZ t.Nodes, sT t.Nodes, Rp st⟩ := by
 have hs := nZ.small 4 v hv
 have hl := h.len
 unfold oB aS
 refine (Xl t _ st (by omega) h.nodup (h.ok hv) t.Nodes [] n 0 rfl rfl (by omega)).trans ?_
 have hlen : Ib st = some () := by unfold Ib; rw [if_pos (by unfold maxLen; omega)]
 show (some st).bind (fun y14 => (Ib y14).bind fun (_ : Unit) => iV n (jZ t.Nodes) (sT t.Nodes) (Aa y14 (List.length y14)) []) = _
 rw [Option.bind_some, hlen, Option.bind_some, Wx]
 congr 2
 unfold Rp Aa
 congr 1
 rw [List.take_length, List.map_reverse, List.map_map]
 congr 1
 refine List.ext_getElem? fun i => ?_
 rw [List.getElem?_map, List.getElem?_zipIdx]
 cases st[i]? <;> rfl
theorem zN (st : List aR) (i : Int) (j : Unit → Option Int) (hz : st.length ≤ 1000) (hj : j () = some 0) : ∀ (l pre : List aR) (n : Nat) (q : Int), st = pre ++ l → q = pre.length → l.length < n → kH st i j n q = some (Zv l i)
 | [], pre, n, q, ht, hq, hn => by
  obtain ⟨n, rfl⟩ : ∃ m, n = m + 1 := ⟨n - 1, by simp at hn; omega⟩
  have hlen : st.length = pre.length := by rw [ht]; simp
  rw [kH, if_neg (by simp; omega), hj]; rfl
 | x :: l, pre, n, q, ht, hq, hn => by
  obtain ⟨n, rfl⟩ : ∃ m, n = m + 1 := ⟨n - 1, by simp at hn; omega⟩
  have hlen : st.length = pre.length + (l.length + 1) := by rw [ht]; simp
  have hw : IntKind.wrap .i64 (q + 1) = q + 1 := Go.Bm.aT (by omega) (by omega)
  rw [kH, if_pos (by simp; omega), jX ht hq, Zv]
  simp only [Option.bind_some, hw]
  by_cases e : x.ID = i
  ·rw [if_pos (by simpa using e), if_pos e]
  ·rw [if_neg (by simpa using e), if_neg e]
   exact zN st i j hz hj l (pre ++ [x]) n (q + 1) (by rw [ht]; simp) (by simp; omega) (by simp at hn; omega)
theorem Qa (st : List aR) (hz : st.length ≤ 1000) (i : Int) (n : Nat) (hn : 1010 ≤ n) : tO n st i = some (Zv st i) := by
 unfold tO aS
 exact zN st i _ hz rfl st [] n 0 rfl rfl (by omega)
theorem Ag {β : Type} (f : aP → β) : ∀ {l : List aP}, (l.map aP.ID).Nodup → ∀ {x : aP}, x ∈ l → (l.map fun x => (x.ID, f x)).lookup x.ID = some (f x)
 | [], _, _, h => nomatch h
 | y :: l, hn, x, h => by
  rw [List.map_cons, List.nodup_cons] at hn
  rw [List.map_cons, List.lookup_cons]
  rcases List.mem_cons.1 h with rfl | h
  ·simp
  ·have : (x.ID == y.ID) = false := by
    rw [beq_eq_false_iff_ne]
    intro e
    exact hn.1 (e ▸ List.mem_map.2 ⟨x, h, rfl⟩)
   rw [this]
   exact Ag f hn.2 h
theorem Ie {β : Type} (f : aP → β) {i : Int} : ∀ {l : List aP}, (∀ x, x ∈ l → x.ID ≠ i) → (l.map fun x => (x.ID, f x)).lookup i = none
 | [], _ => rfl
 | y :: l, h => by
  have : (i == y.ID) = false := by rw [beq_eq_false_iff_ne]; exact fun e => h y (by simp) e.symm
  rw [List.map_cons, List.lookup_cons, this]
  exact Ie f fun x hx => h x (by simp [hx])
theorem Lp (x y : ByteArray) : bV x y = bV y x := by
 cases h : bV x y
 ·exact (Lj h).symm
 ·rw [Oz h, eY]
theorem Sp (x y : Int) : (x == y) = (y == x) := by
 rw [Bool.eq_iff_iff, beq_iff_eq, beq_iff_eq]; exact ⟨Eq.symm, Eq.symm⟩
def cls (x : aP) : ByteArray := Zf x.Attrs (⟨#[99, 108, 97, 115, 115]⟩ : ByteArray)
theorem aBh {t : bA} {v : aJ} (h : cM t v) (hv : nZ 4 v) (S : eI) (hN : S.nodes = jZ t.Nodes) (hC : S.class_ = sT t.Nodes) (r : bY) (j j' : Unit → Option Bool) (hj : j () = some false) (hj' : j' () = some false) : ∀ (k : Nat) (x : aP), x ∈ t.Nodes → x.ID < t.Root + k → ∃ b, ∀ n, k + 500 ≤ n →
  iH r S j n (gU x.Parent S.nodes) (cZ x.Parent S.nodes).ID (cZ x.Parent S.nodes).Parent (cZ x.Parent S.nodes).Kind (cZ x.Parent S.nodes).Key (cZ x.Parent S.nodes).Attrs (cZ x.Parent S.nodes).Actions (cZ x.Parent S.nodes).Kids = some b ∧
  iB t r j' n x.ID x.Parent x.Kind x.Key x.Attrs x.Actions x.Kids = some b
 | 0, x, hx, hk => by have := h.rng hx; omega
 | k + 1, x, hx, hk => by
  have hroot := h.root
  rcases h.prt hx with ⟨e1, e2⟩ | ⟨e1, e2, e3⟩
  ·refine ⟨false, fun n hn => ?_⟩
   obtain ⟨n, rfl⟩ : ∃ m, n = m + 1 := ⟨n - 1, by omega⟩
   have hnone : (jZ t.Nodes).lookup 0 = none := Ie (fun x => x) fun y hy => by have := h.rng hy; omega
   have hm : gU x.Parent S.nodes = false := by rw [e2, hN]; unfold gU; rw [hnone]; rfl
   rw [hm, iH, iB, e2]
   simp only [Bool.false_eq_true, if_false, bne_self_eq_false]
   exact ⟨hj, hj'⟩
  ·obtain ⟨y, hy, hyi⟩ : ∃ y, y ∈ t.Nodes ∧ y.ID = x.Parent := by
    have := h.rng hx
    obtain ⟨y, _, hy, hyi⟩ := h.nth (q := (x.Parent - t.Root).toNat) (by omega)
    exact ⟨y, hy, by omega⟩
   have hlook : (jZ t.Nodes).lookup y.ID = some y := kP h.nodup hy
   have hclass : (sT t.Nodes).lookup y.ID = some (cls y) := Ag (fun x => Zf x.Attrs (⟨#[99, 108, 97, 115, 115]⟩ : ByteArray)) h.nodup hy
   have hm : gU x.Parent S.nodes = true := by rw [← hyi, hN]; unfold gU; rw [hlook]; rfl
   have hg : cZ x.Parent S.nodes = y := by rw [← hyi, hN]; unfold cZ; rw [hlook]; rfl
   obtain ⟨b, hb⟩ := aBh h hv S hN hC r j j' hj hj' k y hy (by omega)
   have hnd := h.ok hv y hy
   have hcg : cZ y.ID S.class_ = cls y := by rw [hC]; unfold cZ; rw [hclass]; rfl
   have c0 : (x.Parent != 0) = true := by simp; omega
   refine ⟨if (((r.UnderKind == 0) || (y.Kind == r.UnderKind)) && ((bV r.UnderClass (⟨#[]⟩ : ByteArray)) || (bV (cls y) r.UnderClass))) = true then true else b, fun n hn => ?_⟩
   obtain ⟨n, rfl⟩ : ∃ m, n = m + 1 := ⟨n - 1, by omega⟩
   have hc := Lo hnd n (by omega)
   obtain ⟨hb1, hb2⟩ := hb n (by omega)
   rw [hm, hg, iH, iB, c0]
   rw [← hyi, zT h n (by omega) hy]
   simp only [if_true, Option.bind_some]
   rw [hc, hcg, Sp r.UnderKind y.Kind]
   rw [Lp (cls y) r.UnderClass]
   have hfold : Zf y.Attrs (⟨#[99, 108, 97, 115, 115]⟩ : ByteArray) = cls y := rfl
   cases hA : ((r.UnderKind == 0) || (y.Kind == r.UnderKind)) <;> cases hE : bV r.UnderClass (⟨#[]⟩ : ByteArray)
   ·simp only [gd, List.all_cons, List.all_nil, id, Bool.not_false, Bool.and_true, Bool.false_and, Bool.false_eq_true, if_false, Option.bind_some, Bool.and_false]
    exact ⟨hb1, hb2⟩
   ·simp only [gd, List.all_cons, List.all_nil, id, Bool.not_true, Bool.and_false, Bool.false_and, Bool.false_eq_true, if_false, Option.bind_some]
    exact ⟨hb1, hb2⟩
   ·simp only [gd, List.all_cons, List.all_nil, id, Bool.not_false, Bool.and_true, Bool.true_and, if_true, Option.bind_some, Bool.false_or, hfold, Lp (cls y) r.UnderClass]
    cases bV r.UnderClass (cls y)
    ·simp only [Bool.false_eq_true, if_false]
     exact ⟨hb1, hb2⟩
    ·exact ⟨rfl, rfl⟩
   ·simp only [gd, List.all_cons, List.all_nil, id, Bool.not_true, Bool.and_false, Bool.false_eq_true, if_false, Option.bind_some, Bool.true_or, Bool.and_true, if_true]
    exact ⟨trivial, trivial⟩
end Go.Proofs.YtojkihhnioeggaaGreatDoor.S
