import Derived.Test.YtojkihhnioeggaaGreatDoorQUCs1
import Derived.WalkKit
import Derived.WalkSpells
import Derived.WalkLawsBesides
import Derived.Deep.QuietTactic
import Derived.BigQuiet
import Derived.BigRegion
import Derived.Lib.Hide
import Derived.Deep.RegionWith
set_option linter.unusedSimpArgs false
set_option linter.unusedVariables false
set_option linter.unusedSimpArgs false
set_option linter.unusedVariables false
namespace Go.Proofs.YtojkihhnioeggaaGreatDoor.S
open Go Go.Bm
def Ax (s : bH) (i : Int) : Int × Int := Lf ((idx s.Rules i).getD default)
structure Ze (s : bH) (i : Int) : Prop where
 lo : 0 ≤ i
 hi : i < s.Rules.length
theorem Wg {s : bH} (h : iX s) {i j : Int} (hi : Ze s i) (hj : Ze s j) (n : Nat) (hn : 60 ≤ n) : ∃ y, kN n i j s = some y ∧ decide (y < 0) = Hc (Ax s i) (Ax s j) := by
 obtain ⟨a, ha, hma⟩ := zI s.Rules i hi.lo hi.hi
 obtain ⟨b, hb, hmb⟩ := zI s.Rules j hj.lo hj.hi
 obtain ⟨wa, _⟩ := Qc a (h.ok a hma).st n hn
 obtain ⟨wb, _⟩ := Qc b (h.ok b hmb).st n hn
 obtain ⟨y, hy1, hy2⟩ := Zz n (by omega) (Lf a).1 (Lf a).2 (Lf b).1 (Lf b).2
 refine ⟨y, ?_, ?_⟩
 ·unfold kN
  rw [ha, hb]
  simp only [Option.bind_some]
  rw [wa, wb]
  simp only [Option.bind_some]
  rw [hy1]
  rfl
 ·rw [hy2]; unfold Ax; rw [ha, hb]; rfl
def tK (s : bH) (x : Int) : List Int → List Int
 | [] => [x]
 | y :: l => if Hc (Ax s x) (Ax s y) = true then y :: tK s x l else x :: y :: l
theorem zK {s : bH} {x z : Int} : ∀ {l : List Int}, z ∈ tK s x l → z = x ∨ z ∈ l
 | [], h => .inl (by simpa [tK] using h)
 | y :: l, h => by
  rw [tK] at h
  split at h
  ·rcases List.mem_cons.1 h with rfl | h
   ·exact .inr (by simp)
   ·rcases zK h with h | h
    ·exact .inl h
    ·exact .inr (by simp [h])
  ·simpa using h
theorem Ee {s : bH} {x : Int} : ∀ {l : List Int}, (tK s x l).length = l.length + 1
 | [] => rfl
 | y :: l => by
  rw [tK]; split
  ·rw [List.length_cons, Ee, List.length_cons]
  ·rfl
theorem rS {α : Type} [Inhabited α] {b : Bool} {x : Option α} : gd [b] x = if b = true then x else some default := by
 cases b <;> rfl
theorem Lg {s : bH} (h : iX s) (x : Int) (hx : Ze s x) (j : List Int → Option (List Int)) (p2 v33 : Int) (B : List Int) : ∀ (ra B : List Int) (n : Nat), (∀ y, y ∈ ra → Ze s y) → ra.length + 70 ≤ n → ra.length ≤ 100 →
  cC 0 s j p2 v33 n (ra.length : Int) (ra.reverse ++ x :: B) = j ((tK s x ra).reverse ++ B)
 | [], B, n, hr, hn, hz => by
  obtain ⟨n, rfl⟩ : ∃ m, n = m + 1 := ⟨n - 1, by omega⟩
  rw [cC]
  rfl
 | y :: ra, B, n, hr, hn, hz => by
  obtain ⟨n, rfl⟩ : ∃ m, n = m + 1 := ⟨n - 1, by omega⟩
  simp only [List.length_cons] at hn hz
  have hlen : ((y :: ra).reverse ++ x :: B).length = ra.length + 1 + (B.length + 1) := by simp; omega
  have c0 : decide ((((y :: ra).length : Nat) : Int) > 0) = true := by rw [decide_eq_true_eq, List.length_cons]; omega
  have i1 : uQ (((y :: ra).length : Nat) : Int) ((y :: ra).reverse ++ x :: B).length = some (ra.length + 1) := by
   unfold uQ; rw [if_pos ⟨by omega, by rw [hlen, List.length_cons]; omega⟩]; simp
  have hw : IntKind.wrap .i64 ((((y :: ra).length : Nat) : Int) - 1) = (ra.length : Int) := by rw [List.length_cons, Go.Bm.aT (by omega) (by omega)]; omega
  have i2 : uQ (ra.length : Int) ((y :: ra).reverse ++ x :: B).length = some ra.length := by
   unfold uQ; rw [if_pos ⟨by omega, by rw [hlen]; omega⟩]; simp
  have hl : (y :: ra).reverse ++ x :: B = ra.reverse ++ y :: x :: B := by simp
  have g1 : ((y :: ra).reverse ++ x :: B)[ra.length + 1]? = some x := by
   rw [List.getElem?_append_right (by simp)]; simp
  have g2 : ((y :: ra).reverse ++ x :: B)[ra.length]? = some y := by
   rw [hl, List.getElem?_append_right (by simp)]; simp
  obtain ⟨c, hc1, hc2⟩ := Wg h hx (hr y (by simp)) n (by omega)
  rw [cC, c0]
  simp only [rS, if_true, i1, Option.bind_some, g1, hw, i2, g2, hc1, hc2, Bool.true_and]
  rw [tK]
  cases hw' : Hc (Ax s x) (Ax s y)
  ·simp only [Bool.false_eq_true, if_false]
   rw [hl]; simp
  ·simp only [if_true]
   have s1 : List.set ((y :: ra).reverse ++ x :: B) (ra.length + 1) y = ra.reverse ++ y :: y :: B := by
    rw [hl, List.set_append_right _ _ (by simp)]; simp
   have s2 : (ra.reverse ++ y :: y :: B)[ra.length]? = some y := by
    rw [List.getElem?_append_right (by simp)]; simp
   have s3 : List.set (ra.reverse ++ y :: y :: B) ra.length x = ra.reverse ++ x :: y :: B := by
    rw [List.set_append_right _ _ (by simp)]; simp
   have i3 : uQ (ra.length : Int) (ra.reverse ++ y :: y :: B).length = some ra.length := by
    unfold uQ; rw [if_pos ⟨by omega, by simp; omega⟩]; simp
   rw [s1]
   simp only [i3, Option.bind_some, s2, s3]
   rw [Lg h x hx j p2 v33 B ra (y :: B) n (fun z hz => hr z (by simp [hz])) (by omega) (by omega)]
   simp
def sQ (s : bH) : List Int → List Int → List Int
 | R, [] => R
 | R, x :: l => sQ s (tK s x R) l
theorem Oa {s : bH} (h : iX s) (p2 : Int) (hp : p2 ≤ 100) : ∀ (l R : List Int) (n : Nat) (q : Int), (∀ y, y ∈ l → Ze s y) → (∀ y, y ∈ R → Ze s y) → q = R.length → q + l.length = p2 → l.length + 180 ≤ n →
  cB p2 0 s n q (R.reverse ++ l) = some ((sQ s R l).reverse)
 | [], R, n, q, h1, h2, hq, hl, hn => by
  obtain ⟨n, rfl⟩ : ∃ m, n = m + 1 := ⟨n - 1, by simp at hn; omega⟩
  simp only [List.length_nil] at hl
  rw [cB, if_neg (by simp; omega), List.append_nil]; rfl
 | x :: l, R, n, q, h1, h2, hq, hl, hn => by
  obtain ⟨n, rfl⟩ : ∃ m, n = m + 1 := ⟨n - 1, by simp at hn; omega⟩
  simp only [List.length_cons] at hl hn
  have hw : IntKind.wrap .i64 (q + 1) = q + 1 := Go.Bm.aT (by omega) (by omega)
  rw [cB, if_pos (by simp; omega)]
  unfold aS
  subst hq
  refine (Lg h x (h1 x (by simp)) _ p2 _ [] R l n h2 (by omega) (by omega)).trans ?_
  rw [hw, Oa h p2 hp l (tK s x R) n _ (fun y hy => h1 y (by simp [hy])) (fun y hy => by
   rcases zK hy with rfl | hy
   ·exact h1 y (by simp)
   ·exact h2 y hy) (by rw [Ee]; omega) (by omega) (by omega)]
  rfl
theorem aAs {s : bH} (h : iX s) (l : List Int) (hl : ∀ y, y ∈ l → Ze s y) (hz : l.length ≤ 6) (n : Nat) (hn : 400 ≤ n) : dF n l s = some ((sQ s [] l).reverse) := by
 have key : cL n l 0 (l.length : Int) s = some ((sQ s [] l).reverse) := by
  unfold cL
  rw [show IntKind.wrap .i64 (0 + 1) = 1 by decide]
  match l, hl, hz with
  | [], _, _ =>
   obtain ⟨m, rfl⟩ : ∃ m, n = m + 1 := ⟨n - 1, by omega⟩
   rfl
  | x :: l, hl, hz =>
   have := Oa h ((x :: l).length : Int) (by omega) l [x] n 1 (fun y hy => hl y (by simp [hy])) (fun y hy => hl y (by simp at hy; simp [hy])) rfl (by simp; omega) (by simp at hz; omega)
   exact this
 unfold dF gF aS
 obtain ⟨m, rfl⟩ : ∃ m, n = m + 1 := ⟨n - 1, by omega⟩
 have e0 : ∀ j, cP (l.length : Int) s j (m + 1) 0 20 l = j 0 l := fun j => by rw [cP, if_neg (by simp; omega)]
 have e1 : ∀ y, cX (l.length : Int) s y (m + 1) 20 = some y := fun y => by rw [cX, if_neg (by simp; omega)]
 have e2 : (cP (l.length : Int) s (fun v10 v11 => (cL (m + 1) v11 v10 (l.length : Int) s).bind fun y12 => cX (l.length : Int) s y12 (m + 1) 20) (m + 1) 0 20 l) = some ((sQ s [] l).reverse) := by
  rw [e0, key]
  exact e1 _
 show (cP (l.length : Int) s _ (m + 1) 0 20 l).bind _ = _
 rw [e2]
 rfl
theorem Nd {s : bH} {z : Int} : ∀ {l R : List Int}, z ∈ sQ s R l → z ∈ R ∨ z ∈ l
 | [], R, h => .inl h
 | x :: l, R, h => by
  rcases Nd (l := l) h with h | h
  ·rcases zK h with rfl | h
   ·exact .inr (by simp)
   ·exact .inl h
  ·exact .inr (by simp [h])
theorem Ik (s : bH) (x : Int) : ∀ (l R : List Int), sQ s R (l ++ [x]) = tK s x (sQ s R l)
 | [], R => rfl
 | y :: l, R => Ik s x l _
def Mr (s : bH) : List Int → Prop
 | [] => True
 | y :: l => (∀ z, z ∈ l → Hc (Ax s y) (Ax s z) = false) ∧ Mr s l
theorem Tw {a b : Int × Int} (h : Hc a b = true) : Hc b a = false := by
 rw [← Bool.not_eq_true, pQ]
 rw [pQ] at h
 omega
theorem My {s : bH} {x : Int} : ∀ {l : List Int}, Mr s l → Mr s (tK s x l)
 | [], _ => by rw [tK]; exact ⟨fun _ h => (nomatch h), trivial⟩
 | y :: l, ⟨h1, h2⟩ => by
  rw [tK]
  split
  ·rename_i hw
   refine ⟨fun z hz => ?_, My h2⟩
   rcases zK hz with rfl | hz
   ·exact Tw hw
   ·exact h1 z hz
  ·rename_i hw
   have hw : Hc (Ax s x) (Ax s y) = false := by simpa using hw
   refine ⟨fun z hz => ?_, h1, h2⟩
   rcases List.mem_cons.1 hz with rfl | hz
   ·exact hw
   ·exact Ji hw (h1 z hz)
theorem Nt (s : bH) : ∀ (l R : List Int), Mr s R → Mr s (sQ s R l)
 | [], R, h => h
 | x :: l, R, h => Nt s l _ (My h)
section
variable {V : Type} (app : Int → Option V)
def Ld : List Int → Option Int
 | [] => none
 | i :: l => if (app i).isSome = true then some i else Ld l
theorem Qs {i : Int} : ∀ {l : List Int}, Ld app l = some i → i ∈ l ∧ (app i).isSome = true
 | [], h => nomatch h
 | y :: l, h => by
  rw [Ld] at h
  split at h
  ·rename_i hs; obtain rfl := Option.some.inj h; exact ⟨by simp, hs⟩
  ·obtain ⟨a, b⟩ := Qs h; exact ⟨by simp [a], b⟩
theorem Sa {s : bH} {x : Int} : ∀ {l : List Int}, Mr s l → Ld app (tK s x l) = if (app x).isSome = true then (match Ld app l with | none => some x | some b => if Hc (Ax s x) (Ax s b) = true then some b else some x) else Ld app l
 | [], _ => by
  rw [tK]
  simp only [Ld]
 | y :: l, ⟨h1, h2⟩ => by
  rw [tK]
  cases hw : Hc (Ax s x) (Ax s y)
  ·simp only [Bool.false_eq_true, if_false]
   rw [Ld]
   split
   ·cases hb : Ld app (y :: l) with
    | none => rfl
    | some b =>
     have hm := (Qs app hb).1
     have : Hc (Ax s x) (Ax s b) = false := by
      rcases List.mem_cons.1 hm with rfl | hm
      ·exact hw
      ·exact Ji hw (h1 b hm)
     simp [this]
   ·rfl
  ·simp only [if_true]
   rw [Ld, Ld]
   by_cases hy : (app y).isSome = true
   ·rw [if_pos hy, if_pos hy]
    simp [hw]
   ·rw [if_neg hy, if_neg hy]
    exact Sa h2
def Mv (s : bH) (l : List Int) : Option V × (Int × Int) := match Ld app l with | none => (none, (-1, -1)) | some b => (app b, Ax s b)
theorem aA2 {s : bH} {x : Int} (hx : 0 ≤ (Ax s x).1 ∧ 0 ≤ (Ax s x).2) {l : List Int} (h : Mr s l) : Mv app s (tK s x l) = if Hc (Ax s x) (Mv app s l).2 = true then Mv app s l else match app x with | none => Mv app s l | some v => (some v, Ax s x) := by
 unfold Mv
 rw [Sa app h]
 cases hb : Ld app l with
 | none =>
  have : Hc (Ax s x) (-1, -1) = false := by rw [← Bool.not_eq_true, pQ]; simp; omega
  simp only [this, Bool.false_eq_true, if_false]
  cases ha : app x with
  | none => simp
  | some v => simp [ha]
 | some b =>
  cases ha : app x with
  | none => simp
  | some v =>
   simp only [Option.isSome_some, if_true]
   cases hw : Hc (Ax s x) (Ax s b)
   ·simp [ha]
   ·simp
end
end Go.Proofs.YtojkihhnioeggaaGreatDoor.S
