import Derived.Test.YtojkihhnioeggaaGreatDoorQEGM15
import Derived.Test.YtojkihhnioeggaaGreatDoorQEDw1
import Derived.WalkLawsBesides
import Derived.Deep.QuietTactic
import Derived.BigQuiet
import Derived.BigRegion
import Derived.Lib.Hide
import Derived.Deep.RegionWith
set_option linter.unusedSimpArgs false
set_option linter.all false
set_option linter.unusedVariables false
namespace Go.Proofs.YtojkihhnioeggaaGreatDoor.S
open Go Go.Bm
theorem Eh (L : List bJ) (h : Ue L) (nm : ByteArray) (j : Unit → Option (aP × Bool)) (hj : ∃ r, j () = some r) : ∀ (k i : Nat), i + k = L.length → ∃ r, ∀ n, k + 21 ≤ n → fG L nm j n (i : Int) = some r ∧ iZ L nm j n (i : Int) = some r
 | 0, i, hi => by
  obtain ⟨r, hr⟩ := hj
  refine ⟨r, fun n hn => ?_⟩
  obtain ⟨n, rfl⟩ := nS n (by omega)
  exact ⟨by rw [fG, if_neg (by simp; omega), hr], by rw [iZ, if_neg (by simp; omega), hr]⟩
 | k + 1, i, hi => by
  have hl := h.len
  have ae : i < L.length := by omega
  have hw : w6 ((i : Int) + 1) = ((i + 1 : Nat) : Int) := by rw [wS (by omega) (by omega)]; omega
  obtain ⟨r, hr⟩ := Eh L h nm j hj k (i + 1) (by omega)
  have hv := (h.ok L[i] (List.getElem_mem ae)).val.cpy
  cases hq : bP L[i].Name nm
  ·refine ⟨r, fun n hn => ?_⟩
   obtain ⟨n, rfl⟩ := nS n (by omega)
   rw [fG, iZ, if_pos (by simp; omega), if_pos (by simp; omega), dR ae]
   simp only [oB, hq, fT, if_false, hw]
   exact hr n (by omega)
  ·refine ⟨(L[i].Value, true), fun n hn => ?_⟩
   obtain ⟨n, rfl⟩ := nS n (by omega)
   rw [fG, iZ, if_pos (by simp; omega), if_pos (by simp; omega), dR ae]
   simp only [oB, hq, if_true, hv n (by omega), and_self]
theorem Wy {L : List bJ} (h : Ue L) (nm : ByteArray) : ∃ r, ∀ n, 60 ≤ n → tZ n L nm = some r ∧ vZ n L nm = some r := by
 have hl := h.len
 obtain ⟨r, hr⟩ := Eh L h nm (fun (_ : Unit) => some ((aP.mk 0 0 nB ([] : List aP)), false)) ⟨_, rfl⟩ L.length 0 (by omega)
 exact ⟨r, fun n hn => hr n (by omega)⟩
theorem Ar {x : aU} (h : Wu x) (n : Nat) (hn : 60 ≤ n) : kY n x = some (Vm x.Attrs (⟨#[99, 108, 97, 115, 115]⟩ : ByteArray)) := by
 obtain ⟨r, hr⟩ := Wy h.at_ (⟨#[99, 108, 97, 115, 115]⟩ : ByteArray)
 have h1 := Yh h.at_ (⟨#[99, 108, 97, 115, 115]⟩ : ByteArray) n hn
 rw [← h1]
 unfold kY wC oP
 rw [(hr n hn).1, (hr n hn).2]
 simp only [oB]
 cases hk : (r.1.Kind == 3)
 ·have : (r.1.Kind != 3) = true := by simp only [bne, hk]; rfl
  rw [this]; rfl
 ·have : (r.1.Kind != 3) = false := by simp only [bne, hk]; rfl
  rw [this]; rfl
theorem Du {β : Type} {k q : Int} {v : β} : ∀ {m : List (Int × β)}, (gS k v m).lookup q = if q = k then some v else m.lookup q
 | [] => by
  rw [gS, List.lookup_cons]
  by_cases e : q = k
  ·rw [if_pos e, beq_iff_eq.2 e]
  ·rw [if_neg e, beq_eq_false_iff_ne.2 e]
 | p :: m => by
  rw [gS]
  by_cases hp : p.1 = k
  ·rw [if_pos (by simpa using hp), List.lookup_cons]
   by_cases e : q = k
   ·rw [if_pos e, beq_iff_eq.2 (e.trans hp.symm)]
   ·have : (q == p.1) = false := by rw [beq_eq_false_iff_ne]; omega
    rw [if_neg e, this, List.lookup_cons, this]
  ·rw [if_neg (by simpa using hp), List.lookup_cons, List.lookup_cons]
   by_cases e : q = p.1
   ·rw [beq_iff_eq.2 e, if_neg (by omega)]
   ·rw [beq_eq_false_iff_ne.2 e, Du]
def Wp : List aO → Int → Int
 | [], _ => 0
 | s :: l, i => if s.ID = i then s.States else Wp l i
def Ve (l : List aO) : List (Int × Int) := (l.reverse).foldl (fun m s => gS s.ID s.States m) []
theorem Fl : ∀ (l : List aO) (i : Int), cZ i (Ve l) = Wp l i
 | [], i => rfl
 | s :: l, i => by
  have e : Ve (s :: l) = gS s.ID s.States (Ve l) := by unfold Ve; rw [List.reverse_cons, List.foldl_append]; rfl
  rw [e, Wp]
  unfold cZ
  rw [Du]
  by_cases h : i = s.ID
  ·rw [if_pos h, if_pos h.symm]; rfl
  ·rw [if_neg h, if_neg (by omega)]; exact Fl l i
theorem see_R1 (n : Nat) (a : List (Int × aU)) (b : List (Int × ByteArray)) : ∀ (l : List (Nat × aO)) (m : List (Int × Int)), jW n a b l m = some ⟨a, b, (l.map Prod.snd).foldl (fun m s => gS s.ID s.States m) m⟩
 | [], m => rfl
 | (i, e) :: l, m => by rw [jW, see_R1 n a b l]; rfl
theorem Tb {t : bA} {v : aN} (h : cR t v) (hv : VG v) (st : List aO) (af : st.length ≤ 1000) (n : Nat) (hn : 500 ≤ n) : qA n t st = some ⟨kV t.Nodes, tE t.Nodes, Ve st⟩ := by
 have hs := hv.small
 have hl := h.len
 unfold qA aS
 refine (see_L0 t _ st (by omega) h.nodup (h.ok hv) t.Nodes [] n 0 rfl rfl (by omega)).trans ?_
 have ab : Lm st = some () := by unfold Lm; rw [if_pos (by unfold maxLen; omega)]
 show (some st).bind (fun y14 => (Lm y14).bind fun (_ : Unit) => jW n (kV t.Nodes) (tE t.Nodes) (Cx y14 (List.length y14)) []) = _
 rw [oB, ab, oB, see_R1]
 congr 2
 unfold Ve Cx
 congr 1
 rw [List.take_length, List.map_reverse, List.map_map]
 congr 1
 refine List.ext_getElem? fun i => ?_
 rw [List.getElem?_map, List.getElem?_zipIdx]
 cases st[i]? <;> rfl
theorem Ch (st : List aO) (i : Int) (j : Unit → Option Int) (hz : st.length ≤ 1000) (hj : j () = some 0) : ∀ (l pre : List aO) (n : Nat) (q : Int), st = pre ++ l → q = pre.length → l.length < n → iJ st i j n q = some (Wp l i)
 | [], pre, n, q, ht, hq, hn => by
  obtain ⟨n, rfl⟩ := nS n (by simp at hn; omega)
  have ab : st.length = pre.length := by rw [ht]; simp
  rw [iJ, if_neg (by simp; omega), hj]; rfl
 | x :: l, pre, n, q, ht, hq, hn => by
  obtain ⟨n, rfl⟩ := nS n (by simp at hn; omega)
  have ab : st.length = pre.length + (l.length + 1) := by rw [ht]; simp
  have hw : w6 (q + 1) = q + 1 := wS (by omega) (by omega)
  rw [iJ, if_pos (by simp; omega), kI ht hq, Wp]
  simp only [oB, hw]
  by_cases e : x.ID = i
  ·rw [if_pos (by simpa using e), if_pos e]
  ·rw [if_neg (by simpa using e), if_neg e]
   exact Ch st i j hz hj l (pre ++ [x]) n (q + 1) (by rw [ht]; simp) (by simp; omega) (by simp at hn; omega)
theorem zX (st : List aO) (hz : st.length ≤ 1000) (i : Int) (n : Nat) (hn : 1010 ≤ n) : lD n st i = some (Wp st i) := by
 unfold lD aS
 exact Ch st i _ hz rfl st [] n 0 rfl rfl (by omega)
theorem uI {β : Type} (f : aU → β) : ∀ {l : List aU}, (l.map aU.ID).Nodup → ∀ {x : aU}, x ∈ l → (l.map fun x => (x.ID, f x)).lookup x.ID = some (f x)
 | [], _, _, h => nomatch h
 | y :: l, hn, x, h => by
  rw [List.map_cons, List.nodup_cons] at hn
  rw [List.map_cons, List.lookup_cons]
  rcases List.mem_cons.1 h with rfl | h
  ·simp
  ·have : (x.ID == y.ID) = false := by
    rw [beq_eq_false_iff_ne]
    intro e
    exact hn.1 (e ▸ List.mem_map.2 ⟨x, h, rfl⟩)
   rw [this]
   exact uI f hn.2 h
theorem Df {β : Type} (f : aU → β) {i : Int} : ∀ {l : List aU}, (∀ x, x ∈ l → x.ID ≠ i) → (l.map fun x => (x.ID, f x)).lookup i = none
 | [], _ => rfl
 | y :: l, h => by
  have : (i == y.ID) = false := by rw [beq_eq_false_iff_ne]; exact fun e => h y (by simp) e.symm
  rw [List.map_cons, List.lookup_cons, this]
  exact Df f fun x hx => h x (by simp [hx])
theorem Pe (x y : ByteArray) : bP x y = bP y x := by
 cases h : bP x y
 ·exact (Oz h).symm
 ·rw [Sj h, fR]
theorem Wl (x y : Int) : (x == y) = (y == x) := by
 rw [Bool.eq_iff_iff, beq_iff_eq, beq_iff_eq]; exact ⟨Eq.symm, Eq.symm⟩
def cls (x : aU) : ByteArray := Vm x.Attrs (⟨#[99, 108, 97, 115, 115]⟩ : ByteArray)
theorem up_eq {t : bA} {v : aN} (h : cR t v) (hv : VG v) (S : fO) (hN : S.nodes = kV t.Nodes) (hC : S.class_ = tE t.Nodes) (r : cM) (j j' : Unit → Option Bool) (hj : j () = some false) (hj' : j' () = some false) : ∀ (k : Nat) (x : aU), x ∈ t.Nodes → x.ID < t.Root + k → ∃ b, ∀ n, k + 500 ≤ n →
  jI r S j n (iG x.Parent S.nodes) (cZ x.Parent S.nodes).ID (cZ x.Parent S.nodes).Parent (cZ x.Parent S.nodes).Kind (cZ x.Parent S.nodes).Key (cZ x.Parent S.nodes).Attrs (cZ x.Parent S.nodes).Actions (cZ x.Parent S.nodes).Kids = some b ∧
  fK t r j' n x.ID x.Parent x.Kind x.Key x.Attrs x.Actions x.Kids = some b
 | 0, x, hx, hk => by have := h.rng hx; omega
 | k + 1, x, hx, hk => by
  have av := h.root
  rcases h.prt hx with ⟨e1, e2⟩ | ⟨e1, e2, e3⟩
  ·refine ⟨false, fun n hn => ?_⟩
   obtain ⟨n, rfl⟩ := nS n (by omega)
   have aj : (kV t.Nodes).lookup 0 = none := Df (fun x => x) fun y hy => by have := h.rng hy; omega
   have hm : iG x.Parent S.nodes = false := by rw [e2, hN]; unfold iG; rw [aj]; rfl
   rw [hm, jI, fK, e2]
   simp only [fT, if_false, bne_self_eq_false]
   exact ⟨hj, hj'⟩
  ·obtain ⟨y, hy, hyi⟩ : ∃ y, y ∈ t.Nodes ∧ y.ID = x.Parent := by
    have := h.rng hx
    obtain ⟨y, _, hy, hyi⟩ := h.nth (q := (x.Parent - t.Root).toNat) (by omega)
    exact ⟨y, hy, by omega⟩
   have ak : (kV t.Nodes).lookup y.ID = some y := lW h.nodup hy
   have hclass : (tE t.Nodes).lookup y.ID = some (cls y) := uI (fun x => Vm x.Attrs (⟨#[99, 108, 97, 115, 115]⟩ : ByteArray)) h.nodup hy
   have hm : iG x.Parent S.nodes = true := by rw [← hyi, hN]; unfold iG; rw [ak]; rfl
   have hg : cZ x.Parent S.nodes = y := by rw [← hyi, hN]; unfold cZ; rw [ak]; rfl
   obtain ⟨b, hb⟩ := up_eq h hv S hN hC r j j' hj hj' k y hy (by omega)
   have au := h.ok hv y hy
   have hcg : cZ y.ID S.class_ = cls y := by rw [hC]; unfold cZ; rw [hclass]; rfl
   have c0 : (x.Parent != 0) = true := by simp; omega
   refine ⟨if (((r.UnderKind == 0) || (y.Kind == r.UnderKind)) && ((bP r.UnderClass nB) || (bP (cls y) r.UnderClass))) = true then true else b, fun n hn => ?_⟩
   obtain ⟨n, rfl⟩ := nS n (by omega)
   have hc := Ar au n (by omega)
   obtain ⟨hb1, hb2⟩ := hb n (by omega)
   rw [hm, hg, jI, fK, c0]
   rw [← hyi, yS h n (by omega) hy]
   simp only [if_true, oB]
   rw [hc, hcg, Wl r.UnderKind y.Kind]
   rw [Pe (cls y) r.UnderClass]
   have hfold : Vm y.Attrs (⟨#[99, 108, 97, 115, 115]⟩ : ByteArray) = cls y := rfl
   cases hA : ((r.UnderKind == 0) || (y.Kind == r.UnderKind)) <;> cases hE : bP r.UnderClass nB
   ·simp only [gd, List.all_cons, List.all_nil, id, Bool.not_false, Bool.and_true, Bool.false_and, fT, if_false, oB, Bool.and_false]
    exact ⟨hb1, hb2⟩
   ·simp only [gd, List.all_cons, List.all_nil, id, Bool.not_true, Bool.and_false, Bool.false_and, fT, if_false, oB]
    exact ⟨hb1, hb2⟩
   ·simp only [gd, List.all_cons, List.all_nil, id, Bool.not_false, Bool.and_true, Bool.true_and, if_true, oB, Bool.false_or, hfold, Pe (cls y) r.UnderClass]
    cases bP r.UnderClass (cls y)
    ·simp only [fT, if_false]
     exact ⟨hb1, hb2⟩
    ·exact ⟨rfl, rfl⟩
   ·simp only [gd, List.all_cons, List.all_nil, id, Bool.not_true, Bool.and_false, fT, if_false, oB, Bool.true_or, Bool.and_true, if_true]
    exact ⟨trivial, trivial⟩
end Go.Proofs.YtojkihhnioeggaaGreatDoor.S
