import Derived.Test.YtojkihhnioeggaaGreatDoorQETr2
import Derived.Test.YtojkihhnioeggaaGreatDoorQESiD
import Derived.WalkLawsBesides
import Derived.Deep.QuietTactic
import Derived.BigQuiet
import Derived.BigRegion
import Derived.Lib.Hide
import Derived.Deep.RegionWith
set_option linter.unusedSimpArgs false
set_option linter.all false
set_option linter.unusedVariables false
namespace Go.Proofs.YtojkihhnioeggaaGreatDoor.S
open Go Go.Bm
structure TOk (s : ByteArray) : Prop where
 size : s.size ≤ 2000
 prog : ∀ n, 60 ≤ n → utf8_ValidString n s = some true
 ref : ∀ n, 60 ≤ n → sM n s = some true
structure Rv (x : aP) : Prop where
 prog : ∀ n, 150 ≤ n → lF n x = some 0
 ref : ∀ n, 150 ≤ n → jU n x = some 0
 cpy : ∀ n, 20 ≤ n → mV n x = some x
structure Um (s : ByteArray) : Prop where
 prog : ∀ n, 60 ≤ n → eX n s = some true
 ref : ∀ n, 60 ≤ n → eD n s = some true
structure KOk (s : ByteArray) : Prop where
 prog : ∀ n, 60 ≤ n → Bb n s = some true
 ref : ∀ n, 60 ≤ n → yR n s = some true
structure AOk (a : bJ) : Prop where
 name : Um a.Name
 val : Rv a.Value
structure EOk (a : cS) : Prop where
 event : Um a.Event
 handler : Um a.Handler
 inst : a.Instance.size ≤ 400
 len : a.Args.length ≤ 100
 args : ∀ x, x ∈ a.Args → Rv x
structure Loc (v : aN) : Prop where
 kind : 1 ≤ v.Kind ∧ v.Kind ≤ 13
 key : KOk v.Key
 alen : v.Attrs.length ≤ 24
 attrs : ∀ a, a ∈ v.Attrs → AOk a
 sort : ∀ (i : Nat) a b, v.Attrs[i]? = some a → v.Attrs[i + 1]? = some b → Rz a.Name b.Name = true ∧ Rx b.Name a.Name = false
 elen : v.Actions.length ≤ 1
 acts : ∀ a, a ∈ v.Actions → EOk a
 klen : v.Kids.length ≤ 8
 keys : ∀ (i k : Nat) a b, k < i → v.Kids[i]? = some a → v.Kids[k]? = some b → bP a.Key nB = false → bP a.Key b.Key = false
def Rw : Nat → aN → Prop
 | 0, _ => False
 | d + 1, v => Loc v ∧ ∀ k, k ∈ v.Kids → Rw d k
structure VG (v : aN) : Prop where
 ok : Rw 13 v
 small : eU v ≤ 150
def Kz (l : List aN) : Prop := ∀ (i k : Nat) (a b : aN), k < i → l[i]? = some a → l[k]? = some b → bP a.Key nB = false → bP a.Key b.Key = false
structure LocW (K : Nat) (v : aN) : Prop where
 kind : 1 ≤ v.Kind ∧ v.Kind ≤ 13
 key : KOk v.Key
 alen : v.Attrs.length ≤ 24
 attrs : ∀ a, a ∈ v.Attrs → AOk a
 sort : ∀ (i : Nat) a b, v.Attrs[i]? = some a → v.Attrs[i + 1]? = some b → Rz a.Name b.Name = true ∧ Rx b.Name a.Name = false
 elen : v.Actions.length ≤ 1
 acts : ∀ a, a ∈ v.Actions → EOk a
 klen : v.Kids.length ≤ K
def VW (K : Nat) : Nat → aN → Prop
 | 0, _ => False
 | d + 1, v => LocW K v ∧ ∀ k, k ∈ v.Kids → VW K d k
def KD : Nat → aN → Prop
 | 0, _ => True
 | d + 1, v => Kz v.Kids ∧ ∀ k, k ∈ v.Kids → KD d k
theorem VW.ok {K : Nat} (hK : K ≤ 8) : ∀ (d : Nat) (v : aN), VW K d v → KD d v → Rw d v
 | 0, v, h, _ => h.elim
 | d + 1, v, ⟨h, hk⟩, ⟨a, b⟩ => ⟨⟨h.kind, h.key, h.alen, h.attrs, h.sort, h.elen, h.acts, Nat.le_trans h.klen hK, a⟩, fun k hm => VW.ok hK d k (hk k hm) (b k hm)⟩
theorem VW.mono {K K' : Nat} (hK : K ≤ K') : ∀ (d d' : Nat) (v : aN), d ≤ d' → VW K d v → VW K' d' v
 | 0, _, v, _, h => h.elim
 | d + 1, 0, v, hd, h => by omega
 | d + 1, d' + 1, v, hd, ⟨h, hk⟩ => ⟨⟨h.kind, h.key, h.alen, h.attrs, h.sort, h.elen, h.acts, Nat.le_trans h.klen hK⟩, fun k hm => VW.mono hK d d' k (by omega) (hk k hm)⟩
theorem Rw.mono : ∀ (d d' : Nat) (v : aN), d ≤ d' → Rw d v → Rw d' v
 | 0, _, v, _, h => h.elim
 | d + 1, 0, v, hd, h => by omega
 | d + 1, d' + 1, v, hd, ⟨h, hk⟩ => ⟨h, fun k hm => Rw.mono d d' k (by omega) (hk k hm)⟩
structure VD (d : Nat) (v : aN) : Prop where
 w : VW 4 d v
 k : KD d v
 small : eU v * 3 ≤ 4 ^ d - 1
theorem VD.of {d : Nat} {v : aN} (h : LocW 4 v) (hz : Kz v.Kids) (hk : ∀ k, k ∈ v.Kids → VD d k) : VD (d + 1) v := by
 refine ⟨⟨h, fun k hm => (hk k hm).w⟩, ⟨hz, fun k hm => (hk k hm).k⟩, ?_⟩
 rw [jF]
 have key : ∀ l : List aN, (∀ k, k ∈ l → VD d k) → bY l * 3 ≤ l.length * (4 ^ d - 1) := by
  intro l
  induction l with
  | nil => intro _; simp [bY]
  | cons k l ih =>
   intro hl
   have h1 := (hl k (by simp)).small
   have h2 := ih fun x hx => hl x (by simp [hx])
   rw [bY, List.length_cons, Nat.add_mul, Nat.add_mul]
   omega
 have h1 := key v.Kids hk
 have h2 : v.Kids.length * (4 ^ d - 1) ≤ 4 * (4 ^ d - 1) := Nat.mul_le_mul_right _ h.klen
 have h3 : 1 ≤ 4 ^ d := Nat.one_le_pow _ _ (by decide)
 rw [Nat.pow_succ]
 omega
theorem VD.vg {v : aN} (h : VD 4 v) : VG v := ⟨Rw.mono 4 13 v (by decide) (VW.ok (by decide) 4 v h.w h.k), by have := h.small; omega⟩
theorem dR {α : Type} {L : List α} {i : Nat} (h : i < L.length) : idx L (i : Int) = some L[i] := by
 unfold idx
 rw [if_pos (by omega), Int.toNat_natCast, List.getElem?_eq_getElem h]
theorem Ig (L : List bJ) (j : Unit → Option Int) (hz : L.length ≤ 24) (ha : ∀ a, a ∈ L → AOk a) (hs : ∀ (i : Nat) a b, L[i]? = some a → L[i + 1]? = some b → Rz a.Name b.Name = true ∧ Rx b.Name a.Name = false) : ∀ (k i n : Nat), i + k = L.length → k + 150 < n → fH L j n (i : Int) = j ()
 | 0, i, n, hi, hn => by
  obtain ⟨n, rfl⟩ := nS n (by omega)
  rw [fH, if_neg (by simp; omega)]
 | k + 1, i, n, hi, hn => by
  obtain ⟨n, rfl⟩ := nS n (by omega)
  have ae : i < L.length := by omega
  have hA := ha L[i] (List.getElem_mem ae)
  have hw : w6 ((i : Int) + 1) = ((i + 1 : Nat) : Int) := by rw [wS (by omega) (by omega)]; omega
  have ih := Ig L j hz ha hs k (i + 1) n (by omega) (by omega)
  rw [fH, if_pos (by simp; omega), dR ae]
  simp only [oB, hA.name.prog n (by omega), Bool.not_true, fT, if_false, hA.val.prog n (by omega), hw, ih, bne_self_eq_false]
  cases i with
  | zero => simp [gd]
  | succ i =>
   have hp := hs i L[i] L[i + 1] (List.getElem?_eq_getElem (by omega)) (List.getElem?_eq_getElem ae)
   have hd : decide (((i + 1 : Nat) : Int) > 0) = true := by simp
   have hix : idx L (w6 (((i + 1 : Nat) : Int) - 1)) = some L[i] := by
    rw [wS (by omega) (by omega), show ((i + 1 : Nat) : Int) - 1 = ((i : Nat) : Int) by omega]
    exact dR (by omega)
   rw [hd, Ip rfl, hix]
   simp only [oB, hp.1, Bool.not_true, Bool.and_false, fT, if_false]
theorem zB (L : List bJ) (hz : L.length ≤ 24) (ha : ∀ a, a ∈ L → AOk a) (hs : ∀ (i : Nat) a b, L[i]? = some a → L[i + 1]? = some b → Rz a.Name b.Name = true ∧ Rx b.Name a.Name = false) (n : Nat) (hn : L.length + 200 ≤ n) : oA n L = some 0 :=
 Ig L (fun _ => some 0) hz ha hs L.length 0 n (by omega) (by omega)
theorem zY (v : aN) (p2 : Int) (j : Unit → Option (Int × Int)) (p1 : Int) (hz : v.Attrs.length ≤ 24) (ha : ∀ a, a ∈ v.Attrs → AOk a) (hs : ∀ (i : Nat) a b, v.Attrs[i]? = some a → v.Attrs[i + 1]? = some b → Rz a.Name b.Name = true ∧ Rx b.Name a.Name = false) : ∀ (k i n : Nat), i + k = v.Attrs.length → k + 150 < n → gD v p2 j p1 n (i : Int) = j ()
 | 0, i, n, hi, hn => by
  obtain ⟨n, rfl⟩ := nS n (by omega)
  rw [gD, if_neg (by simp; omega)]
 | k + 1, i, n, hi, hn => by
  obtain ⟨n, rfl⟩ := nS n (by omega)
  have ae : i < v.Attrs.length := by omega
  have hA := ha v.Attrs[i] (List.getElem_mem ae)
  have hw : w6 ((i : Int) + 1) = ((i + 1 : Nat) : Int) := by rw [wS (by omega) (by omega)]; omega
  have ih := zY v p2 j p1 hz ha hs k (i + 1) n (by omega) (by omega)
  rw [gD, if_pos (by simp; omega), dR ae]
  simp only [oB, hA.name.ref n (by omega), Bool.not_true, fT, if_false, hA.val.ref n (by omega), hw, ih, bne_self_eq_false]
  cases i with
  | zero => simp [gd]
  | succ i =>
   have hp := hs i v.Attrs[i] v.Attrs[i + 1] (List.getElem?_eq_getElem (by omega)) (List.getElem?_eq_getElem ae)
   have hd : decide (((i + 1 : Nat) : Int) > 0) = true := by simp
   have hix : idx v.Attrs (w6 (((i + 1 : Nat) : Int) - 1)) = some v.Attrs[i] := by
    rw [wS (by omega) (by omega), show ((i + 1 : Nat) : Int) - 1 = ((i : Nat) : Int) by omega]
    exact dR (by omega)
   rw [hd, Ip rfl, Ip rfl, hix]
   simp only [oB, hp.2, Bool.and_false, fT, if_false]
theorem Wa (e : cS) (j : Unit → Option Int) (L : List cS) (w : Int) (hz : e.Args.length ≤ 100) (ha : ∀ x, x ∈ e.Args → Rv x) : ∀ (k i n : Nat), i + k = e.Args.length → k + 150 < n → iM e j L w n (i : Int) = j ()
 | 0, i, n, hi, hn => by
  obtain ⟨n, rfl⟩ := nS n (by omega)
  rw [iM, if_neg (by simp; omega)]
 | k + 1, i, n, hi, hn => by
  obtain ⟨n, rfl⟩ := nS n (by omega)
  have ae : i < e.Args.length := by omega
  have hw : w6 ((i : Int) + 1) = ((i + 1 : Nat) : Int) := by rw [wS (by omega) (by omega)]; omega
  rw [iM, if_pos (by simp; omega), dR ae]
  simp only [oB, (ha _ (List.getElem_mem ae)).prog n (by omega), hw, Wa e j L w hz ha k (i + 1) n (by omega) (by omega), bne_self_eq_false, fT, if_false]
theorem Vo (e : cS) (p2 : Int) (j : Unit → Option (Int × Int)) (p1 w : Int) (v : aN) (hz : e.Args.length ≤ 100) (ha : ∀ x, x ∈ e.Args → Rv x) : ∀ (k i n : Nat), i + k = e.Args.length → k + 150 < n → fS e p2 j p1 w v n (i : Int) = j ()
 | 0, i, n, hi, hn => by
  obtain ⟨n, rfl⟩ := nS n (by omega)
  rw [fS, if_neg (by simp; omega)]
 | k + 1, i, n, hi, hn => by
  obtain ⟨n, rfl⟩ := nS n (by omega)
  have ae : i < e.Args.length := by omega
  have hw : w6 ((i : Int) + 1) = ((i + 1 : Nat) : Int) := by rw [wS (by omega) (by omega)]; omega
  rw [fS, if_pos (by simp; omega), dR ae]
  simp only [oB, (ha _ (List.getElem_mem ae)).ref n (by omega), hw, Vo e p2 j p1 w v hz ha k (i + 1) n (by omega) (by omega), bne_self_eq_false, fT, if_false]
theorem Dy (L : List cS) (hz : L.length ≤ 1) (ha : ∀ a, a ∈ L → EOk a) (n : Nat) (hn : 300 ≤ n) : oY n L = some 0 := by
 unfold oY aS
 obtain ⟨n, rfl⟩ := nS n (by omega)
 match L, hz with
 | [], _ => rfl
 | [a], _ =>
  obtain ⟨h1, h2, h3, h4, h5⟩ := ha a (by simp)
  have hw : w6 ((0 : Int) + 1) = 1 := by decide
  have c1 : decide ((ByteArray.size a.Instance : Int) > 400) = false := by simp; omega
  have c2 : decide ((List.length a.Args : Int) > 100) = false := by simp; omega
  have hl := Wa a (fun _ => fB [a] (fun _ => some 0) n 1) [a] 0 h4 h5 a.Args.length 0 n (by omega) (by omega)
  have hf : fB [a] (fun _ => some 0) n 1 = some 0 := by
   obtain ⟨n, rfl⟩ := nS n (by omega)
   rw [fB, if_neg (by simp)]
  rw [hf] at hl
  show fB [a] (fun _ => some 0) (n + 1) 0 = some 0
  rw [fB, if_pos (by simp)]
  unfold aS
  rw [show idx [a] 0 = some a from rfl]
  simp only [oB, h1.prog n (by omega), h2.prog n (by omega), Bool.not_true, Bool.not_false, Ip, Bool.or_self, fT, if_false, hw, c1, c2]
  simp only [gd, List.all_cons, List.all_nil, id, show decide ((0 : Int) > 0) = false from rfl, Bool.false_and, fT, if_false, oB, hf]
  exact hl
theorem Vp (v : aN) (p2 p1 : Int) (j : Unit → Option (Int × Int)) (hz : v.Actions.length ≤ 1) (ha : ∀ a, a ∈ v.Actions → EOk a) (n : Nat) (hn : 300 ≤ n) : dN v p2 p1 j n 0 = j () := by
 obtain ⟨n, rfl⟩ := nS n (by omega)
 generalize hL : v.Actions = L at hz ha
 match L, hz with
 | [], _ => rw [dN, if_neg (by rw [hL]; simp)]
 | [a], _ =>
  obtain ⟨h1, h2, h3, h4, h5⟩ := ha a (by simp)
  have hw : w6 ((0 : Int) + 1) = 1 := by decide
  have c1 : decide ((ByteArray.size a.Instance : Int) > 400) = false := by simp; omega
  have c2 : decide ((List.length a.Args : Int) > 100) = false := by simp; omega
  have hf : dN v p2 p1 j n 1 = j () := by
   obtain ⟨n, rfl⟩ := nS n (by omega)
   rw [dN, if_neg (by rw [hL]; simp)]
  have hl := Vo a p2 (fun _ => dN v p2 p1 j n 1) p1 0 v h4 h5 a.Args.length 0 n (by omega) (by omega)
  rw [dN, if_pos (by rw [hL]; simp)]
  unfold aS
  rw [hL, show idx [a] 0 = some a from rfl]
  simp only [oB, h1.ref n (by omega), h2.ref n (by omega), Bool.not_true, Bool.not_false, Ip, Bool.or_self, fT, if_false, hw, c1, c2]
  simp only [gd, List.all_cons, List.all_nil, id, show decide ((0 : Int) > 0) = false from rfl, Bool.false_and, fT, if_false, oB]
  exact hl.trans hf
theorem Ur (w : Nat) (v : aN) (p2 : Int) (j : Unit → Option (Int × Int)) (p1 : Int) (h : Loc v) (hw : w < v.Kids.length) : ∀ (k i n : Nat), i + k = w → k < n → dG (w : Int) v p2 j p1 n (i : Int) = j ()
 | 0, i, n, hi, hn => by
  obtain ⟨n, rfl⟩ := nS n (by omega)
  rw [dG, if_neg (by simp; omega)]
 | k + 1, i, n, hi, hn => by
  obtain ⟨n, rfl⟩ := nS n (by omega)
  have hkl := h.klen
  have hiw : i < w := by omega
  have ao : w6 ((i : Int) + 1) = ((i + 1 : Nat) : Int) := by rw [wS (by omega) (by omega)]; omega
  have hk := h.keys w i v.Kids[w] v.Kids[i] hiw (List.getElem?_eq_getElem hw) (List.getElem?_eq_getElem (by omega))
  rw [dG, if_pos (by simp; omega), dR hw]
  simp only [oB, ao, Ur w v p2 j p1 h hw k (i + 1) n (by omega) (by omega)]
  cases hq : bP v.Kids[w].Key nB
  ·simp only [Bool.not_false, Ip, oB]
   rw [dR (i := i) (by omega)]
   simp only [oB, hk hq, Bool.and_false, fT, if_false]
  ·simp only [Bool.not_true, gd_f, oB, Bool.false_and, fT, if_false]
theorem Vi (v : aN) (p2 p1 : Int) (j : Unit → Option (Int × Int)) (h : Loc v) : ∀ (k i n : Nat), i + k = v.Kids.length → k + 10 < n → dE v p2 p1 j n (i : Int) = j ()
 | 0, i, n, hi, hn => by
  obtain ⟨n, rfl⟩ := nS n (by omega)
  rw [dE, if_neg (by simp; omega)]
 | k + 1, i, n, hi, hn => by
  obtain ⟨n, rfl⟩ := nS n (by omega)
  have hkl := h.klen
  have ao : w6 ((i : Int) + 1) = ((i + 1 : Nat) : Int) := by rw [wS (by omega) (by omega)]; omega
  rw [dE, if_pos (by simp; omega)]
  unfold aS
  refine (Ur i v p2 _ p1 h (by omega) i 0 n (by omega) (by omega)).trans ?_
  rw [ao]
  exact Vi v p2 p1 j h k (i + 1) n (by omega) (by omega)
theorem Sj {x y : ByteArray} (h : bP x y = true) : x = y := by
 unfold bP at h
 have := eq_of_beq h
 have e : ∀ z : ByteArray, z.toList = z.data.toList := fun z => by
  exact ByteArray.toList_eq z
 rw [e, e] at this
 have h2 : x.data = y.data := by
  rw [← Array.toArray_toList (xs := x.data), this, Array.toArray_toList]
 cases x; cases y; simp only at h2; rw [h2]
end Go.Proofs.YtojkihhnioeggaaGreatDoor.S
