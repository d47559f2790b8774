import Derived.Test.YtojkihhnioeggaaGreatDoorQTr2
import Derived.Test.YtojkihhnioeggaaGreatDoorQSiD
import Derived.WalkKit
import Derived.WalkSpells
import Derived.WalkLawsBesides
import Derived.Deep.QuietTactic
import Derived.BigQuiet
import Derived.BigRegion
import Derived.Lib.Hide
import Derived.Deep.RegionWith
set_option linter.unusedSimpArgs false
set_option linter.unusedVariables false
set_option linter.unusedSimpArgs false
set_option linter.unusedVariables false
namespace Go.Proofs.YtojkihhnioeggaaGreatDoor.S
open Go Go.Bm
structure Ta (s : ByteArray) : Prop where
 size : s.size ≤ 2000
 prog : ∀ n, 60 ≤ n → utf8_ValidString n s = some true
 ref : ∀ n, 60 ≤ n → pJ n s = some true
structure Jw (x : aF) : Prop where
 prog : ∀ n, 150 ≤ n → iX n x = some 0
 ref : ∀ n, 150 ≤ n → hP n x = some 0
 cpy : ∀ n, 20 ≤ n → kF n x = some x
structure NOk (s : ByteArray) : Prop where
 prog : ∀ n, 60 ≤ n → fO n s = some true
 ref : ∀ n, 60 ≤ n → iE n s = some true
structure KOk (s : ByteArray) : Prop where
 prog : ∀ n, 60 ≤ n → wH n s = some true
 ref : ∀ n, 60 ≤ n → uT n s = some true
structure Yh (a : aY) : Prop where
 name : NOk a.Name
 val : Jw a.Value
structure EOk (a : cA) : Prop where
 event : NOk a.Event
 handler : NOk a.Handler
 inst : a.Instance.size ≤ 400
 len : a.Args.length ≤ 100
 args : ∀ x, x ∈ a.Args → Jw x
structure Xg (v : aK) : Prop where
 kind : 1 ≤ v.Kind ∧ v.Kind ≤ 13
 key : KOk v.Key
 alen : v.Attrs.length ≤ 24
 attrs : ∀ a, a ∈ v.Attrs → Yh a
 sort : ∀ (i : Nat) a b, v.Attrs[i]? = some a → v.Attrs[i + 1]? = some b → Ip a.Name b.Name = true ∧ Jt b.Name a.Name = false
 elen : v.Actions.length ≤ 1
 acts : ∀ a, a ∈ v.Actions → EOk a
 klen : v.Kids.length ≤ 4
 keys : ∀ (i k : Nat) a b, k < i → v.Kids[i]? = some a → v.Kids[k]? = some b → dA a.Key (⟨#[]⟩ : ByteArray) = false → dA a.Key b.Key = false
def sS : Nat → aK → Prop
 | 0, _ => False
 | d + 1, v => Xg v ∧ ∀ k, k ∈ v.Kids → sS d k
theorem sS.small : ∀ (d : Nat) (v : aK), sS d v → gM v * 3 ≤ 4 ^ d - 1
 | 0, v, h => h.elim
 | d + 1, v, ⟨h, hk⟩ => by
  rw [kX]
  have key : ∀ l : List aK, (∀ k, k ∈ l → sS d k) → bR l * 3 ≤ l.length * (4 ^ d - 1) := by
   intro l
   induction l with
   | nil => intro _; simp [bR]
   | cons k l ih =>
    intro hl
    have h1 := sS.small d k (hl k (by simp))
    have h2 := ih fun x hx => hl x (by simp [hx])
    rw [bR, List.length_cons, Nat.add_mul, Nat.add_mul]
    omega
  have h1 := key v.Kids hk
  have h2 : v.Kids.length * (4 ^ d - 1) ≤ 4 * (4 ^ d - 1) := Nat.mul_le_mul_right _ h.klen
  have h3 : 1 ≤ 4 ^ d := Nat.one_le_pow _ _ (by decide)
  rw [Nat.pow_succ]
  omega
theorem iP {α : Type} {L : List α} {i : Nat} (h : i < L.length) : idx L (i : Int) = some L[i] := by
 unfold idx
 rw [if_pos (by omega), Int.toNat_natCast, List.getElem?_eq_getElem h]
theorem Di (L : List aY) (j : Unit → Option Int) (hz : L.length ≤ 24) (ha : ∀ a, a ∈ L → Yh a) (hs : ∀ (i : Nat) a b, L[i]? = some a → L[i + 1]? = some b → Ip a.Name b.Name = true ∧ Jt b.Name a.Name = false) : ∀ (k i n : Nat), i + k = L.length → k + 150 < n → eG L j n (i : Int) = j ()
 | 0, i, n, hi, hn => by
  obtain ⟨n, rfl⟩ : ∃ m, n = m + 1 := ⟨n - 1, by omega⟩
  rw [eG, if_neg (by simp; omega)]
 | k + 1, i, n, hi, hn => by
  obtain ⟨n, rfl⟩ : ∃ m, n = m + 1 := ⟨n - 1, by omega⟩
  have hlt : i < L.length := by omega
  have hA := ha L[i] (List.getElem_mem hlt)
  have hw : IntKind.wrap .i64 ((i : Int) + 1) = ((i + 1 : Nat) : Int) := by rw [Go.Bm.bB (by omega) (by omega)]; omega
  have ih := Di L j hz ha hs k (i + 1) n (by omega) (by omega)
  rw [eG, if_pos (by simp; omega), iP hlt]
  simp only [Option.bind_some, hA.name.prog n (by omega), Bool.not_true, Bool.false_eq_true, if_false, hA.val.prog n (by omega), hw, ih, bne_self_eq_false]
  cases i with
  | zero => simp [gd]
  | succ i =>
   have hp := hs i L[i] L[i + 1] (List.getElem?_eq_getElem (by omega)) (List.getElem?_eq_getElem hlt)
   have hd : decide (((i + 1 : Nat) : Int) > 0) = true := by simp
   have hix : idx L (IntKind.wrap .i64 (((i + 1 : Nat) : Int) - 1)) = some L[i] := by
    rw [Go.Bm.bB (by omega) (by omega), show ((i + 1 : Nat) : Int) - 1 = ((i : Nat) : Int) by omega]
    exact iP (by omega)
   rw [hd, Dv rfl, hix]
   simp only [Option.bind_some, hp.1, Bool.not_true, Bool.and_false, Bool.false_eq_true, if_false]
theorem uY (L : List aY) (hz : L.length ≤ 24) (ha : ∀ a, a ∈ L → Yh a) (hs : ∀ (i : Nat) a b, L[i]? = some a → L[i + 1]? = some b → Ip a.Name b.Name = true ∧ Jt b.Name a.Name = false) (n : Nat) (hn : L.length + 200 ≤ n) : lG n L = some 0 :=
 Di L (fun _ => some 0) hz ha hs L.length 0 n (by omega) (by omega)
theorem Cc (v : aK) (p2 : Int) (j : Unit → Option (Int × Int)) (p1 : Int) (hz : v.Attrs.length ≤ 24) (ha : ∀ a, a ∈ v.Attrs → Yh a) (hs : ∀ (i : Nat) a b, v.Attrs[i]? = some a → v.Attrs[i + 1]? = some b → Ip a.Name b.Name = true ∧ Jt b.Name a.Name = false) : ∀ (k i n : Nat), i + k = v.Attrs.length → k + 150 < n → fA v p2 j p1 n (i : Int) = j ()
 | 0, i, n, hi, hn => by
  obtain ⟨n, rfl⟩ : ∃ m, n = m + 1 := ⟨n - 1, by omega⟩
  rw [fA, if_neg (by simp; omega)]
 | k + 1, i, n, hi, hn => by
  obtain ⟨n, rfl⟩ : ∃ m, n = m + 1 := ⟨n - 1, by omega⟩
  have hlt : i < v.Attrs.length := by omega
  have hA := ha v.Attrs[i] (List.getElem_mem hlt)
  have hw : IntKind.wrap .i64 ((i : Int) + 1) = ((i + 1 : Nat) : Int) := by rw [Go.Bm.bB (by omega) (by omega)]; omega
  have ih := Cc v p2 j p1 hz ha hs k (i + 1) n (by omega) (by omega)
  rw [fA, if_pos (by simp; omega), iP hlt]
  simp only [Option.bind_some, hA.name.ref n (by omega), Bool.not_true, Bool.false_eq_true, if_false, hA.val.ref n (by omega), hw, ih, bne_self_eq_false]
  cases i with
  | zero => simp [gd]
  | succ i =>
   have hp := hs i v.Attrs[i] v.Attrs[i + 1] (List.getElem?_eq_getElem (by omega)) (List.getElem?_eq_getElem hlt)
   have hd : decide (((i + 1 : Nat) : Int) > 0) = true := by simp
   have hix : idx v.Attrs (IntKind.wrap .i64 (((i + 1 : Nat) : Int) - 1)) = some v.Attrs[i] := by
    rw [Go.Bm.bB (by omega) (by omega), show ((i + 1 : Nat) : Int) - 1 = ((i : Nat) : Int) by omega]
    exact iP (by omega)
   rw [hd, Dv rfl, Dv rfl, hix]
   simp only [Option.bind_some, hp.2, Bool.and_false, Bool.false_eq_true, if_false]
theorem Mb (e : cA) (j : Unit → Option Int) (L : List cA) (w : Int) (hz : e.Args.length ≤ 100) (ha : ∀ x, x ∈ e.Args → Jw x) : ∀ (k i n : Nat), i + k = e.Args.length → k + 150 < n → gB e j L w n (i : Int) = j ()
 | 0, i, n, hi, hn => by
  obtain ⟨n, rfl⟩ : ∃ m, n = m + 1 := ⟨n - 1, by omega⟩
  rw [gB, if_neg (by simp; omega)]
 | k + 1, i, n, hi, hn => by
  obtain ⟨n, rfl⟩ : ∃ m, n = m + 1 := ⟨n - 1, by omega⟩
  have hlt : i < e.Args.length := by omega
  have hw : IntKind.wrap .i64 ((i : Int) + 1) = ((i + 1 : Nat) : Int) := by rw [Go.Bm.bB (by omega) (by omega)]; omega
  rw [gB, if_pos (by simp; omega), iP hlt]
  simp only [Option.bind_some, (ha _ (List.getElem_mem hlt)).prog n (by omega), hw, Mb e j L w hz ha k (i + 1) n (by omega) (by omega), bne_self_eq_false, Bool.false_eq_true, if_false]
theorem Lx (e : cA) (p2 : Int) (j : Unit → Option (Int × Int)) (p1 w : Int) (v : aK) (hz : e.Args.length ≤ 100) (ha : ∀ x, x ∈ e.Args → Jw x) : ∀ (k i n : Nat), i + k = e.Args.length → k + 150 < n → eQ e p2 j p1 w v n (i : Int) = j ()
 | 0, i, n, hi, hn => by
  obtain ⟨n, rfl⟩ : ∃ m, n = m + 1 := ⟨n - 1, by omega⟩
  rw [eQ, if_neg (by simp; omega)]
 | k + 1, i, n, hi, hn => by
  obtain ⟨n, rfl⟩ : ∃ m, n = m + 1 := ⟨n - 1, by omega⟩
  have hlt : i < e.Args.length := by omega
  have hw : IntKind.wrap .i64 ((i : Int) + 1) = ((i + 1 : Nat) : Int) := by rw [Go.Bm.bB (by omega) (by omega)]; omega
  rw [eQ, if_pos (by simp; omega), iP hlt]
  simp only [Option.bind_some, (ha _ (List.getElem_mem hlt)).ref n (by omega), hw, Lx e p2 j p1 w v hz ha k (i + 1) n (by omega) (by omega), bne_self_eq_false, Bool.false_eq_true, if_false]
theorem yD (L : List cA) (hz : L.length ≤ 1) (ha : ∀ a, a ∈ L → EOk a) (n : Nat) (hn : 300 ≤ n) : mE n L = some 0 := by
 unfold mE aX
 obtain ⟨n, rfl⟩ : ∃ m, n = m + 1 := ⟨n - 1, by omega⟩
 match L, hz with
 | [], _ => rfl
 | [a], _ =>
  obtain ⟨h1, h2, h3, h4, h5⟩ := ha a (by simp)
  have hw : IntKind.wrap .i64 ((0 : Int) + 1) = 1 := by decide
  have c1 : decide ((ByteArray.size a.Instance : Int) > 400) = false := by simp; omega
  have c2 : decide ((List.length a.Args : Int) > 100) = false := by simp; omega
  have hl := Mb a (fun _ => eD [a] (fun _ => some 0) n 1) [a] 0 h4 h5 a.Args.length 0 n (by omega) (by omega)
  have hf : eD [a] (fun _ => some 0) n 1 = some 0 := by
   obtain ⟨n, rfl⟩ : ∃ m, n = m + 1 := ⟨n - 1, by omega⟩
   rw [eD, if_neg (by simp)]
  rw [hf] at hl
  show eD [a] (fun _ => some 0) (n + 1) 0 = some 0
  rw [eD, if_pos (by simp)]
  unfold aX
  rw [show idx [a] 0 = some a from rfl]
  simp only [Option.bind_some, h1.prog n (by omega), h2.prog n (by omega), Bool.not_true, Bool.not_false, Dv, Bool.or_self, Bool.false_eq_true, if_false, hw, c1, c2]
  simp only [gd, List.all_cons, List.all_nil, id, show decide ((0 : Int) > 0) = false from rfl, Bool.false_and, Bool.false_eq_true, if_false, Option.bind_some, hf]
  exact hl
theorem Uh (v : aK) (p2 p1 : Int) (j : Unit → Option (Int × Int)) (hz : v.Actions.length ≤ 1) (ha : ∀ a, a ∈ v.Actions → EOk a) (n : Nat) (hn : 300 ≤ n) : cK v p2 p1 j n 0 = j () := by
 obtain ⟨n, rfl⟩ : ∃ m, n = m + 1 := ⟨n - 1, by omega⟩
 generalize hL : v.Actions = L at hz ha
 match L, hz with
 | [], _ => rw [cK, if_neg (by rw [hL]; simp)]
 | [a], _ =>
  obtain ⟨h1, h2, h3, h4, h5⟩ := ha a (by simp)
  have hw : IntKind.wrap .i64 ((0 : Int) + 1) = 1 := by decide
  have c1 : decide ((ByteArray.size a.Instance : Int) > 400) = false := by simp; omega
  have c2 : decide ((List.length a.Args : Int) > 100) = false := by simp; omega
  have hf : cK v p2 p1 j n 1 = j () := by
   obtain ⟨n, rfl⟩ : ∃ m, n = m + 1 := ⟨n - 1, by omega⟩
   rw [cK, if_neg (by rw [hL]; simp)]
  have hl := Lx a p2 (fun _ => cK v p2 p1 j n 1) p1 0 v h4 h5 a.Args.length 0 n (by omega) (by omega)
  rw [cK, if_pos (by rw [hL]; simp)]
  unfold aX
  rw [hL, show idx [a] 0 = some a from rfl]
  simp only [Option.bind_some, h1.ref n (by omega), h2.ref n (by omega), Bool.not_true, Bool.not_false, Dv, Bool.or_self, Bool.false_eq_true, if_false, hw, c1, c2]
  simp only [gd, List.all_cons, List.all_nil, id, show decide ((0 : Int) > 0) = false from rfl, Bool.false_and, Bool.false_eq_true, if_false, Option.bind_some]
  exact hl.trans hf
theorem Ms (w : Nat) (v : aK) (p2 : Int) (j : Unit → Option (Int × Int)) (p1 : Int) (h : Xg v) (hw : w < v.Kids.length) : ∀ (k i n : Nat), i + k = w → k < n → eX (w : Int) v p2 j p1 n (i : Int) = j ()
 | 0, i, n, hi, hn => by
  obtain ⟨n, rfl⟩ : ∃ m, n = m + 1 := ⟨n - 1, by omega⟩
  rw [eX, if_neg (by simp; omega)]
 | k + 1, i, n, hi, hn => by
  obtain ⟨n, rfl⟩ : ∃ m, n = m + 1 := ⟨n - 1, by omega⟩
  have hkl := h.klen
  have hiw : i < w := by omega
  have hw2 : IntKind.wrap .i64 ((i : Int) + 1) = ((i + 1 : Nat) : Int) := by rw [Go.Bm.bB (by omega) (by omega)]; omega
  have hk := h.keys w i v.Kids[w] v.Kids[i] hiw (List.getElem?_eq_getElem hw) (List.getElem?_eq_getElem (by omega))
  rw [eX, if_pos (by simp; omega), iP hw]
  simp only [Option.bind_some, hw2, Ms w v p2 j p1 h hw k (i + 1) n (by omega) (by omega)]
  cases hq : dA v.Kids[w].Key (⟨#[]⟩ : ByteArray)
  ·simp only [Bool.not_false, Dv, Option.bind_some]
   rw [iP (i := i) (by omega)]
   simp only [Option.bind_some, hk hq, Bool.and_false, Bool.false_eq_true, if_false]
  ·simp only [Bool.not_true, aA0, Option.bind_some, Bool.false_and, Bool.false_eq_true, if_false]
theorem Ml (v : aK) (p2 p1 : Int) (j : Unit → Option (Int × Int)) (h : Xg v) : ∀ (k i n : Nat), i + k = v.Kids.length → k + 10 < n → eW v p2 p1 j n (i : Int) = j ()
 | 0, i, n, hi, hn => by
  obtain ⟨n, rfl⟩ : ∃ m, n = m + 1 := ⟨n - 1, by omega⟩
  rw [eW, if_neg (by simp; omega)]
 | k + 1, i, n, hi, hn => by
  obtain ⟨n, rfl⟩ : ∃ m, n = m + 1 := ⟨n - 1, by omega⟩
  have hkl := h.klen
  have hw2 : IntKind.wrap .i64 ((i : Int) + 1) = ((i + 1 : Nat) : Int) := by rw [Go.Bm.bB (by omega) (by omega)]; omega
  rw [eW, if_pos (by simp; omega)]
  unfold aX
  refine (Ms i v p2 _ p1 h (by omega) i 0 n (by omega) (by omega)).trans ?_
  rw [hw2]
  exact Ml v p2 p1 j h k (i + 1) n (by omega) (by omega)
theorem Wk {x y : ByteArray} (h : dA x y = true) : x = y := by
 unfold dA at h
 have := eq_of_beq h
 have e : ∀ z : ByteArray, z.toList = z.data.toList := fun z => by
  exact ByteArray.toList_eq z
 rw [e, e] at this
 have h2 : x.data = y.data := by
  rw [← Array.toArray_toList (xs := x.data), this, Array.toArray_toList]
 cases x; cases y; simp only at h2; rw [h2]
end Go.Proofs.YtojkihhnioeggaaGreatDoor.S
