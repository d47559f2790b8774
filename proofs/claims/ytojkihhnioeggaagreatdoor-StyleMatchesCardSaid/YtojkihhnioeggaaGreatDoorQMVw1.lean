import Derived.Test.YtojkihhnioeggaaGreatDoorQMTr2
import Derived.Test.YtojkihhnioeggaaGreatDoorQMSiD
import Derived.WalkKit
import Derived.WalkSpells
import Derived.WalkLawsBesides
import Derived.Deep.QuietTactic
import Derived.BigQuiet
import Derived.BigRegion
import Derived.Lib.Hide
import Derived.Deep.RegionWith
set_option linter.unusedSimpArgs false
set_option linter.unusedVariables false
set_option linter.unusedSimpArgs false
set_option linter.unusedVariables false
namespace Go.Proofs.YtojkihhnioeggaaGreatDoor.S
open Go Go.Bm
structure Ul (s : ByteArray) : Prop where
 size : s.size ≤ 2000
 prog : ∀ n, 60 ≤ n → utf8_ValidString n s = some true
 ref : ∀ n, 60 ≤ n → pM n s = some true
structure Lj (x : aH) : Prop where
 prog : ∀ n, 150 ≤ n → jL n x = some 0
 ref : ∀ n, 150 ≤ n → iK n x = some 0
 cpy : ∀ n, 20 ≤ n → kY n x = some x
structure Py (s : ByteArray) : Prop where
 prog : ∀ n, 60 ≤ n → fO n s = some true
 ref : ∀ n, 60 ≤ n → iX n s = some true
structure KOk (s : ByteArray) : Prop where
 prog : ∀ n, 60 ≤ n → xN n s = some true
 ref : ∀ n, 60 ≤ n → vD n s = some true
structure Zu (a : aZ) : Prop where
 name : Py a.Name
 val : Lj a.Value
structure EOk (a : cE) : Prop where
 event : Py a.Event
 handler : Py a.Handler
 inst : a.Instance.size ≤ 400
 len : a.Args.length ≤ 100
 args : ∀ x, x ∈ a.Args → Lj x
structure Zj (v : aL) : Prop where
 kind : 1 ≤ v.Kind ∧ v.Kind ≤ 13
 key : KOk v.Key
 alen : v.Attrs.length ≤ 24
 attrs : ∀ a, a ∈ v.Attrs → Zu a
 sort : ∀ (i : Nat) a b, v.Attrs[i]? = some a → v.Attrs[i + 1]? = some b → Ko a.Name b.Name = true ∧ Jm b.Name a.Name = false
 elen : v.Actions.length ≤ 1
 acts : ∀ a, a ∈ v.Actions → EOk a
 klen : v.Kids.length ≤ 4
 keys : ∀ (i k : Nat) a b, k < i → v.Kids[i]? = some a → v.Kids[k]? = some b → cG a.Key (⟨#[]⟩ : ByteArray) = false → cG a.Key b.Key = false
def qX : Nat → aL → Prop
 | 0, _ => False
 | d + 1, v => Zj v ∧ ∀ k, k ∈ v.Kids → qX d k
theorem qX.small : ∀ (d : Nat) (v : aL), qX d v → gP v * 3 ≤ 4 ^ d - 1
 | 0, v, h => h.elim
 | d + 1, v, ⟨h, hk⟩ => by
  rw [lL]
  have key : ∀ l : List aL, (∀ k, k ∈ l → qX d k) → bX l * 3 ≤ l.length * (4 ^ d - 1) := by
   intro l
   induction l with
   | nil => intro _; simp [bX]
   | cons k l ih =>
    intro hl
    have h1 := qX.small d k (hl k (by simp))
    have h2 := ih fun x hx => hl x (by simp [hx])
    rw [bX, List.length_cons, Nat.add_mul, Nat.add_mul]
    omega
  have h1 := key v.Kids hk
  have h2 : v.Kids.length * (4 ^ d - 1) ≤ 4 * (4 ^ d - 1) := Nat.mul_le_mul_right _ h.klen
  have h3 : 1 ≤ 4 ^ d := Nat.one_le_pow _ _ (by decide)
  rw [Nat.pow_succ]
  omega
theorem hZ {α : Type} {L : List α} {i : Nat} (h : i < L.length) : idx L (i : Int) = some L[i] := by
 unfold idx
 rw [if_pos (by omega), Int.toNat_natCast, List.getElem?_eq_getElem h]
theorem Ed (L : List aZ) (j : Unit → Option Int) (hz : L.length ≤ 24) (ha : ∀ a, a ∈ L → Zu a) (hs : ∀ (i : Nat) a b, L[i]? = some a → L[i + 1]? = some b → Ko a.Name b.Name = true ∧ Jm b.Name a.Name = false) : ∀ (k i n : Nat), i + k = L.length → k + 150 < n → eN L j n (i : Int) = j ()
 | 0, i, n, hi, hn => by
  obtain ⟨n, rfl⟩ : ∃ m, n = m + 1 := ⟨n - 1, by omega⟩
  rw [eN, if_neg (by simp; omega)]
 | k + 1, i, n, hi, hn => by
  obtain ⟨n, rfl⟩ : ∃ m, n = m + 1 := ⟨n - 1, by omega⟩
  have hlt : i < L.length := by omega
  have hA := ha L[i] (List.getElem_mem hlt)
  have hw : IntKind.wrap .i64 ((i : Int) + 1) = ((i + 1 : Nat) : Int) := by rw [Go.Bm.bB (by omega) (by omega)]; omega
  have ih := Ed L j hz ha hs k (i + 1) n (by omega) (by omega)
  rw [eN, if_pos (by simp; omega), hZ hlt]
  simp only [Option.bind_some, hA.name.prog n (by omega), Bool.not_true, Bool.false_eq_true, if_false, hA.val.prog n (by omega), hw, ih, bne_self_eq_false]
  cases i with
  | zero => simp [gd]
  | succ i =>
   have hp := hs i L[i] L[i + 1] (List.getElem?_eq_getElem (by omega)) (List.getElem?_eq_getElem hlt)
   have hd : decide (((i + 1 : Nat) : Int) > 0) = true := by simp
   have hix : idx L (IntKind.wrap .i64 (((i + 1 : Nat) : Int) - 1)) = some L[i] := by
    rw [Go.Bm.bB (by omega) (by omega), show ((i + 1 : Nat) : Int) - 1 = ((i : Nat) : Int) by omega]
    exact hZ (by omega)
   rw [hd, Am rfl, hix]
   simp only [Option.bind_some, hp.1, Bool.not_true, Bool.and_false, Bool.false_eq_true, if_false]
theorem vU (L : List aZ) (hz : L.length ≤ 24) (ha : ∀ a, a ∈ L → Zu a) (hs : ∀ (i : Nat) a b, L[i]? = some a → L[i + 1]? = some b → Ko a.Name b.Name = true ∧ Jm b.Name a.Name = false) (n : Nat) (hn : L.length + 200 ≤ n) : lX n L = some 0 :=
 Ed L (fun _ => some 0) hz ha hs L.length 0 n (by omega) (by omega)
theorem Eh (v : aL) (p2 : Int) (j : Unit → Option (Int × Int)) (p1 : Int) (hz : v.Attrs.length ≤ 24) (ha : ∀ a, a ∈ v.Attrs → Zu a) (hs : ∀ (i : Nat) a b, v.Attrs[i]? = some a → v.Attrs[i + 1]? = some b → Ko a.Name b.Name = true ∧ Jm b.Name a.Name = false) : ∀ (k i n : Nat), i + k = v.Attrs.length → k + 150 < n → eW v p2 j p1 n (i : Int) = j ()
 | 0, i, n, hi, hn => by
  obtain ⟨n, rfl⟩ : ∃ m, n = m + 1 := ⟨n - 1, by omega⟩
  rw [eW, if_neg (by simp; omega)]
 | k + 1, i, n, hi, hn => by
  obtain ⟨n, rfl⟩ : ∃ m, n = m + 1 := ⟨n - 1, by omega⟩
  have hlt : i < v.Attrs.length := by omega
  have hA := ha v.Attrs[i] (List.getElem_mem hlt)
  have hw : IntKind.wrap .i64 ((i : Int) + 1) = ((i + 1 : Nat) : Int) := by rw [Go.Bm.bB (by omega) (by omega)]; omega
  have ih := Eh v p2 j p1 hz ha hs k (i + 1) n (by omega) (by omega)
  rw [eW, if_pos (by simp; omega), hZ hlt]
  simp only [Option.bind_some, hA.name.ref n (by omega), Bool.not_true, Bool.false_eq_true, if_false, hA.val.ref n (by omega), hw, ih, bne_self_eq_false]
  cases i with
  | zero => simp [gd]
  | succ i =>
   have hp := hs i v.Attrs[i] v.Attrs[i + 1] (List.getElem?_eq_getElem (by omega)) (List.getElem?_eq_getElem hlt)
   have hd : decide (((i + 1 : Nat) : Int) > 0) = true := by simp
   have hix : idx v.Attrs (IntKind.wrap .i64 (((i + 1 : Nat) : Int) - 1)) = some v.Attrs[i] := by
    rw [Go.Bm.bB (by omega) (by omega), show ((i + 1 : Nat) : Int) - 1 = ((i : Nat) : Int) by omega]
    exact hZ (by omega)
   rw [hd, Am rfl, Am rfl, hix]
   simp only [Option.bind_some, hp.2, Bool.and_false, Bool.false_eq_true, if_false]
theorem Ot (e : cE) (j : Unit → Option Int) (L : List cE) (w : Int) (hz : e.Args.length ≤ 100) (ha : ∀ x, x ∈ e.Args → Lj x) : ∀ (k i n : Nat), i + k = e.Args.length → k + 150 < n → gK e j L w n (i : Int) = j ()
 | 0, i, n, hi, hn => by
  obtain ⟨n, rfl⟩ : ∃ m, n = m + 1 := ⟨n - 1, by omega⟩
  rw [gK, if_neg (by simp; omega)]
 | k + 1, i, n, hi, hn => by
  obtain ⟨n, rfl⟩ : ∃ m, n = m + 1 := ⟨n - 1, by omega⟩
  have hlt : i < e.Args.length := by omega
  have hw : IntKind.wrap .i64 ((i : Int) + 1) = ((i + 1 : Nat) : Int) := by rw [Go.Bm.bB (by omega) (by omega)]; omega
  rw [gK, if_pos (by simp; omega), hZ hlt]
  simp only [Option.bind_some, (ha _ (List.getElem_mem hlt)).prog n (by omega), hw, Ot e j L w hz ha k (i + 1) n (by omega) (by omega), bne_self_eq_false, Bool.false_eq_true, if_false]
theorem Nl (e : cE) (p2 : Int) (j : Unit → Option (Int × Int)) (p1 w : Int) (v : aL) (hz : e.Args.length ≤ 100) (ha : ∀ x, x ∈ e.Args → Lj x) : ∀ (k i n : Nat), i + k = e.Args.length → k + 150 < n → fC e p2 j p1 w v n (i : Int) = j ()
 | 0, i, n, hi, hn => by
  obtain ⟨n, rfl⟩ : ∃ m, n = m + 1 := ⟨n - 1, by omega⟩
  rw [fC, if_neg (by simp; omega)]
 | k + 1, i, n, hi, hn => by
  obtain ⟨n, rfl⟩ : ∃ m, n = m + 1 := ⟨n - 1, by omega⟩
  have hlt : i < e.Args.length := by omega
  have hw : IntKind.wrap .i64 ((i : Int) + 1) = ((i + 1 : Nat) : Int) := by rw [Go.Bm.bB (by omega) (by omega)]; omega
  rw [fC, if_pos (by simp; omega), hZ hlt]
  simp only [Option.bind_some, (ha _ (List.getElem_mem hlt)).ref n (by omega), hw, Nl e p2 j p1 w v hz ha k (i + 1) n (by omega) (by omega), bne_self_eq_false, Bool.false_eq_true, if_false]
theorem yY (L : List cE) (hz : L.length ≤ 1) (ha : ∀ a, a ∈ L → EOk a) (n : Nat) (hn : 300 ≤ n) : mR n L = some 0 := by
 unfold mR aV
 obtain ⟨n, rfl⟩ : ∃ m, n = m + 1 := ⟨n - 1, by omega⟩
 match L, hz with
 | [], _ => rfl
 | [a], _ =>
  obtain ⟨h1, h2, h3, h4, h5⟩ := ha a (by simp)
  have hw : IntKind.wrap .i64 ((0 : Int) + 1) = 1 := by decide
  have c1 : decide ((ByteArray.size a.Instance : Int) > 400) = false := by simp; omega
  have c2 : decide ((List.length a.Args : Int) > 100) = false := by simp; omega
  have hl := Ot a (fun _ => eH [a] (fun _ => some 0) n 1) [a] 0 h4 h5 a.Args.length 0 n (by omega) (by omega)
  have hf : eH [a] (fun _ => some 0) n 1 = some 0 := by
   obtain ⟨n, rfl⟩ : ∃ m, n = m + 1 := ⟨n - 1, by omega⟩
   rw [eH, if_neg (by simp)]
  rw [hf] at hl
  show eH [a] (fun _ => some 0) (n + 1) 0 = some 0
  rw [eH, if_pos (by simp)]
  unfold aV
  rw [show idx [a] 0 = some a from rfl]
  simp only [Option.bind_some, h1.prog n (by omega), h2.prog n (by omega), Bool.not_true, Bool.not_false, Am, Bool.or_self, Bool.false_eq_true, if_false, hw, c1, c2]
  simp only [gd, List.all_cons, List.all_nil, id, show decide ((0 : Int) > 0) = false from rfl, Bool.false_and, Bool.false_eq_true, if_false, Option.bind_some, hf]
  exact hl
theorem Vd (v : aL) (p2 p1 : Int) (j : Unit → Option (Int × Int)) (hz : v.Actions.length ≤ 1) (ha : ∀ a, a ∈ v.Actions → EOk a) (n : Nat) (hn : 300 ≤ n) : cR v p2 p1 j n 0 = j () := by
 obtain ⟨n, rfl⟩ : ∃ m, n = m + 1 := ⟨n - 1, by omega⟩
 generalize hL : v.Actions = L at hz ha
 match L, hz with
 | [], _ => rw [cR, if_neg (by rw [hL]; simp)]
 | [a], _ =>
  obtain ⟨h1, h2, h3, h4, h5⟩ := ha a (by simp)
  have hw : IntKind.wrap .i64 ((0 : Int) + 1) = 1 := by decide
  have c1 : decide ((ByteArray.size a.Instance : Int) > 400) = false := by simp; omega
  have c2 : decide ((List.length a.Args : Int) > 100) = false := by simp; omega
  have hf : cR v p2 p1 j n 1 = j () := by
   obtain ⟨n, rfl⟩ : ∃ m, n = m + 1 := ⟨n - 1, by omega⟩
   rw [cR, if_neg (by rw [hL]; simp)]
  have hl := Nl a p2 (fun _ => cR v p2 p1 j n 1) p1 0 v h4 h5 a.Args.length 0 n (by omega) (by omega)
  rw [cR, if_pos (by rw [hL]; simp)]
  unfold aV
  rw [hL, show idx [a] 0 = some a from rfl]
  simp only [Option.bind_some, h1.ref n (by omega), h2.ref n (by omega), Bool.not_true, Bool.not_false, Am, Bool.or_self, Bool.false_eq_true, if_false, hw, c1, c2]
  simp only [gd, List.all_cons, List.all_nil, id, show decide ((0 : Int) > 0) = false from rfl, Bool.false_and, Bool.false_eq_true, if_false, Option.bind_some]
  exact hl.trans hf
theorem Ou (w : Nat) (v : aL) (p2 : Int) (j : Unit → Option (Int × Int)) (p1 : Int) (h : Zj v) (hw : w < v.Kids.length) : ∀ (k i n : Nat), i + k = w → k < n → eX (w : Int) v p2 j p1 n (i : Int) = j ()
 | 0, i, n, hi, hn => by
  obtain ⟨n, rfl⟩ : ∃ m, n = m + 1 := ⟨n - 1, by omega⟩
  rw [eX, if_neg (by simp; omega)]
 | k + 1, i, n, hi, hn => by
  obtain ⟨n, rfl⟩ : ∃ m, n = m + 1 := ⟨n - 1, by omega⟩
  have hkl := h.klen
  have hiw : i < w := by omega
  have hw2 : IntKind.wrap .i64 ((i : Int) + 1) = ((i + 1 : Nat) : Int) := by rw [Go.Bm.bB (by omega) (by omega)]; omega
  have hk := h.keys w i v.Kids[w] v.Kids[i] hiw (List.getElem?_eq_getElem hw) (List.getElem?_eq_getElem (by omega))
  rw [eX, if_pos (by simp; omega), hZ hw]
  simp only [Option.bind_some, hw2, Ou w v p2 j p1 h hw k (i + 1) n (by omega) (by omega)]
  cases hq : cG v.Kids[w].Key (⟨#[]⟩ : ByteArray)
  ·simp only [Bool.not_false, Am, Option.bind_some]
   rw [hZ (i := i) (by omega)]
   simp only [Option.bind_some, hk hq, Bool.and_false, Bool.false_eq_true, if_false]
  ·simp only [Bool.not_true, gd_f, Option.bind_some, Bool.false_and, Bool.false_eq_true, if_false]
theorem Oe (v : aL) (p2 p1 : Int) (j : Unit → Option (Int × Int)) (h : Zj v) : ∀ (k i n : Nat), i + k = v.Kids.length → k + 10 < n → fE v p2 p1 j n (i : Int) = j ()
 | 0, i, n, hi, hn => by
  obtain ⟨n, rfl⟩ : ∃ m, n = m + 1 := ⟨n - 1, by omega⟩
  rw [fE, if_neg (by simp; omega)]
 | k + 1, i, n, hi, hn => by
  obtain ⟨n, rfl⟩ : ∃ m, n = m + 1 := ⟨n - 1, by omega⟩
  have hkl := h.klen
  have hw2 : IntKind.wrap .i64 ((i : Int) + 1) = ((i + 1 : Nat) : Int) := by rw [Go.Bm.bB (by omega) (by omega)]; omega
  rw [fE, if_pos (by simp; omega)]
  unfold aV
  refine (Ou i v p2 _ p1 h (by omega) i 0 n (by omega) (by omega)).trans ?_
  rw [hw2]
  exact Oe v p2 p1 j h k (i + 1) n (by omega) (by omega)
theorem Rt {x y : ByteArray} (h : cG x y = true) : x = y := by
 unfold cG at h
 have := eq_of_beq h
 have e : ∀ z : ByteArray, z.toList = z.data.toList := fun z => by
  exact ByteArray.toList_eq z
 rw [e, e] at this
 have h2 : x.data = y.data := by
  rw [← Array.toArray_toList (xs := x.data), this, Array.toArray_toList]
 cases x; cases y; simp only at h2; rw [h2]
end Go.Proofs.YtojkihhnioeggaaGreatDoor.S
