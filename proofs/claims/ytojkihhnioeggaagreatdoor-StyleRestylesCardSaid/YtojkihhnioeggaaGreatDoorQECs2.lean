import Derived.Test.YtojkihhnioeggaaGreatDoorQECs1
import Derived.WalkLawsBesides
import Derived.Deep.QuietTactic
import Derived.BigQuiet
import Derived.BigRegion
import Derived.Lib.Hide
import Derived.Deep.RegionWith
set_option linter.unusedSimpArgs false
set_option linter.all false
set_option linter.unusedVariables false
namespace Go.Proofs.YtojkihhnioeggaaGreatDoor.S
open Go Go.Bm
def Dv (s : bM) (i : Int) : Int × Int := Ou ((idx s.Rules i).getD default)
structure InR (s : bM) (i : Int) : Prop where
 lo : 0 ≤ i
 hi : i < s.Rules.length
theorem Zv {s : bM} (h : jY s) {i j : Int} (hi : InR s i) (hj : InR s j) (n : Nat) (hn : 60 ≤ n) : ∃ y, lU n i j s = some y ∧ decide (y < 0) = Kg (Dv s i) (Dv s j) := by
 obtain ⟨a, ha, hma⟩ := Ca s.Rules i hi.lo hi.hi
 obtain ⟨b, hb, hmb⟩ := Ca s.Rules j hj.lo hj.hi
 obtain ⟨wa, _⟩ := Tm a (h.ok a hma).st n hn
 obtain ⟨wb, _⟩ := Tm b (h.ok b hmb).st n hn
 obtain ⟨y, hy1, hy2⟩ := comp_eq n (by omega) (Ou a).1 (Ou a).2 (Ou b).1 (Ou b).2
 refine ⟨y, ?_, ?_⟩
 ·unfold lU
  rw [ha, hb]
  simp only [oB]
  rw [wa, wb]
  simp only [oB]
  rw [hy1]
  rfl
 ·rw [hy2]; unfold Dv; rw [ha, hb]; rfl
def vI (s : bM) (x : Int) : List Int → List Int
 | [] => [x]
 | y :: l => if Kg (Dv s x) (Dv s y) = true then y :: vI s x l else x :: y :: l
theorem Cc {s : bM} {x z : Int} : ∀ {l : List Int}, z ∈ vI s x l → z = x ∨ z ∈ l
 | [], h => .inl (by simpa [vI] using h)
 | y :: l, h => by
  rw [vI] at h
  split at h
  ·rcases List.mem_cons.1 h with rfl | h
   ·exact .inr (by simp)
   ·rcases Cc h with h | h
    ·exact .inl h
    ·exact .inr (by simp [h])
  ·simpa using h
theorem Hk {s : bM} {x : Int} : ∀ {l : List Int}, (vI s x l).length = l.length + 1
 | [] => rfl
 | y :: l => by
  rw [vI]; split
  ·rw [List.length_cons, Hk, List.length_cons]
  ·rfl
theorem nP {α : Type} [Inhabited α] {b : Bool} {x : Option α} : gd [b] x = if b = true then x else some default := by
 cases b <;> rfl
theorem Ow {s : bM} (h : jY s) (x : Int) (hx : InR s x) (j : List Int → Option (List Int)) (p2 v33 : Int) (B : List Int) : ∀ (ra B : List Int) (n : Nat), (∀ y, y ∈ ra → InR s y) → ra.length + 70 ≤ n → ra.length ≤ 100 →
  cH 0 s j p2 v33 n (ra.length : Int) (ra.reverse ++ x :: B) = j ((vI s x ra).reverse ++ B)
 | [], B, n, hr, hn, hz => by
  obtain ⟨n, rfl⟩ := nS n (by omega)
  rw [cH]
  rfl
 | y :: ra, B, n, hr, hn, hz => by
  obtain ⟨n, rfl⟩ := nS n (by omega)
  simp only [List.length_cons] at hn hz
  have ab : ((y :: ra).reverse ++ x :: B).length = ra.length + 1 + (B.length + 1) := by simp; omega
  have c0 : decide ((((y :: ra).length : Nat) : Int) > 0) = true := by rw [decide_eq_true_eq, List.length_cons]; omega
  have i1 : rL (((y :: ra).length : Nat) : Int) ((y :: ra).reverse ++ x :: B).length = some (ra.length + 1) := by
   unfold rL; rw [if_pos ⟨by omega, by rw [ab, List.length_cons]; omega⟩]; simp
  have hw : w6 ((((y :: ra).length : Nat) : Int) - 1) = (ra.length : Int) := by rw [List.length_cons, wS (by omega) (by omega)]; omega
  have i2 : rL (ra.length : Int) ((y :: ra).reverse ++ x :: B).length = some ra.length := by
   unfold rL; rw [if_pos ⟨by omega, by rw [ab]; omega⟩]; simp
  have hl : (y :: ra).reverse ++ x :: B = ra.reverse ++ y :: x :: B := by simp
  have g1 : ((y :: ra).reverse ++ x :: B)[ra.length + 1]? = some x := by
   rw [List.getElem?_append_right (by simp)]; simp
  have g2 : ((y :: ra).reverse ++ x :: B)[ra.length]? = some y := by
   rw [hl, List.getElem?_append_right (by simp)]; simp
  obtain ⟨c, hc1, hc2⟩ := Zv h hx (hr y (by simp)) n (by omega)
  rw [cH, c0]
  simp only [nP, if_true, i1, oB, g1, hw, i2, g2, hc1, hc2, Bool.true_and]
  rw [vI]
  cases hw' : Kg (Dv s x) (Dv s y)
  ·simp only [fT, if_false]
   rw [hl]; simp
  ·simp only [if_true]
   have s1 : List.set ((y :: ra).reverse ++ x :: B) (ra.length + 1) y = ra.reverse ++ y :: y :: B := by
    rw [hl, List.set_append_right _ _ (by simp)]; simp
   have s2 : (ra.reverse ++ y :: y :: B)[ra.length]? = some y := by
    rw [List.getElem?_append_right (by simp)]; simp
   have s3 : List.set (ra.reverse ++ y :: y :: B) ra.length x = ra.reverse ++ x :: y :: B := by
    rw [List.set_append_right _ _ (by simp)]; simp
   have i3 : rL (ra.length : Int) (ra.reverse ++ y :: y :: B).length = some ra.length := by
    unfold rL; rw [if_pos ⟨by omega, by simp; omega⟩]; simp
   rw [s1]
   simp only [i3, oB, s2, s3]
   rw [Ow h x hx j p2 v33 B ra (y :: B) n (fun z hz => hr z (by simp [hz])) (by omega) (by omega)]
   simp
def uQ (s : bM) : List Int → List Int → List Int
 | R, [] => R
 | R, x :: l => uQ s (vI s x R) l
theorem Rk {s : bM} (h : jY s) (p2 : Int) (hp : p2 ≤ 100) : ∀ (l R : List Int) (n : Nat) (q : Int), (∀ y, y ∈ l → InR s y) → (∀ y, y ∈ R → InR s y) → q = R.length → q + l.length = p2 → l.length + 180 ≤ n →
  cG p2 0 s n q (R.reverse ++ l) = some ((uQ s R l).reverse)
 | [], R, n, q, h1, h2, hq, hl, hn => by
  obtain ⟨n, rfl⟩ := nS n (by simp at hn; omega)
  simp only [List.length_nil] at hl
  rw [cG, if_neg (by simp; omega), List.append_nil]; rfl
 | x :: l, R, n, q, h1, h2, hq, hl, hn => by
  obtain ⟨n, rfl⟩ := nS n (by simp at hn; omega)
  simp only [List.length_cons] at hl hn
  have hw : w6 (q + 1) = q + 1 := wS (by omega) (by omega)
  rw [cG, if_pos (by simp; omega)]
  unfold aS
  subst hq
  refine (Ow h x (h1 x (by simp)) _ p2 _ [] R l n h2 (by omega) (by omega)).trans ?_
  rw [hw, Rk h p2 hp l (vI s x R) n _ (fun y hy => h1 y (by simp [hy])) (fun y hy => by
   rcases Cc hy with rfl | hy
   ·exact h1 y (by simp)
   ·exact h2 y hy) (by rw [Hk]; omega) (by omega) (by omega)]
  rfl
theorem sort_eq {s : bM} (h : jY s) (l : List Int) (hl : ∀ y, y ∈ l → InR s y) (hz : l.length ≤ 6) (n : Nat) (hn : 400 ≤ n) : dP n l s = some ((uQ s [] l).reverse) := by
 have key : cP n l 0 (l.length : Int) s = some ((uQ s [] l).reverse) := by
  unfold cP
  rw [show w6 (0 + 1) = 1 by decide]
  match l, hl, hz with
  | [], _, _ =>
   obtain ⟨m, rfl⟩ : ∃ m, n = m + 1 := ⟨n - 1, by omega⟩
   rfl
  | x :: l, hl, hz =>
   have := Rk h ((x :: l).length : Int) (by omega) l [x] n 1 (fun y hy => hl y (by simp [hy])) (fun y hy => hl y (by simp at hy; simp [hy])) rfl (by simp; omega) (by simp at hz; omega)
   exact this
 unfold dP hO aS
 obtain ⟨m, rfl⟩ : ∃ m, n = m + 1 := ⟨n - 1, by omega⟩
 have e0 : ∀ j, cT (l.length : Int) s j (m + 1) 0 20 l = j 0 l := fun j => by rw [cT, if_neg (by simp; omega)]
 have e1 : ∀ y, dB (l.length : Int) s y (m + 1) 20 = some y := fun y => by rw [dB, if_neg (by simp; omega)]
 have e2 : (cT (l.length : Int) s (fun v10 v11 => (cP (m + 1) v11 v10 (l.length : Int) s).bind fun y12 => dB (l.length : Int) s y12 (m + 1) 20) (m + 1) 0 20 l) = some ((uQ s [] l).reverse) := by
  rw [e0, key]
  exact e1 _
 show (cT (l.length : Int) s _ (m + 1) 0 20 l).bind _ = _
 rw [e2]
 rfl
theorem Qs {s : bM} {z : Int} : ∀ {l R : List Int}, z ∈ uQ s R l → z ∈ R ∨ z ∈ l
 | [], R, h => .inl h
 | x :: l, R, h => by
  rcases Qs (l := l) h with h | h
  ·rcases Cc h with rfl | h
   ·exact .inr (by simp)
   ·exact .inl h
  ·exact .inr (by simp [h])
theorem Lr (s : bM) (x : Int) : ∀ (l R : List Int), uQ s R (l ++ [x]) = vI s x (uQ s R l)
 | [], R => rfl
 | y :: l, R => Lr s x l _
def Qf (s : bM) : List Int → Prop
 | [] => True
 | y :: l => (∀ z, z ∈ l → Kg (Dv s y) (Dv s z) = false) ∧ Qf s l
theorem Xp {a b : Int × Int} (h : Kg a b = true) : Kg b a = false := by
 rw [← Bool.not_eq_true, rM]
 rw [rM] at h
 omega
theorem Ql {s : bM} {x : Int} : ∀ {l : List Int}, Qf s l → Qf s (vI s x l)
 | [], _ => by rw [vI]; exact ⟨fun _ h => (nomatch h), trivial⟩
 | y :: l, ⟨h1, h2⟩ => by
  rw [vI]
  split
  ·rename_i hw
   refine ⟨fun z hz => ?_, Ql h2⟩
   rcases Cc hz with rfl | hz
   ·exact Xp hw
   ·exact h1 z hz
  ·rename_i hw
   have hw : Kg (Dv s x) (Dv s y) = false := by simpa using hw
   refine ⟨fun z hz => ?_, h1, h2⟩
   rcases List.mem_cons.1 hz with rfl | hz
   ·exact hw
   ·exact Mo hw (h1 z hz)
theorem Rg (s : bM) : ∀ (l R : List Int), Qf s R → Qf s (uQ s R l)
 | [], R, h => h
 | x :: l, R, h => Rg s l _ (Ql h)
section
variable {V : Type} (app : Int → Option V)
def Ot : List Int → Option Int
 | [] => none
 | i :: l => if (app i).isSome = true then some i else Ot l
theorem Ui {i : Int} : ∀ {l : List Int}, Ot app l = some i → i ∈ l ∧ (app i).isSome = true
 | [], h => nomatch h
 | y :: l, h => by
  rw [Ot] at h
  split at h
  ·rename_i hs; obtain rfl := Option.some.inj h; exact ⟨by simp, hs⟩
  ·obtain ⟨a, b⟩ := Ui h; exact ⟨by simp [a], b⟩
theorem Vt {s : bM} {x : Int} : ∀ {l : List Int}, Qf s l → Ot app (vI s x l) = if (app x).isSome = true then (match Ot app l with | none => some x | some b => if Kg (Dv s x) (Dv s b) = true then some b else some x) else Ot app l
 | [], _ => by
  rw [vI]
  simp only [Ot]
 | y :: l, ⟨h1, h2⟩ => by
  rw [vI]
  cases hw : Kg (Dv s x) (Dv s y)
  ·simp only [fT, if_false]
   rw [Ot]
   split
   ·cases hb : Ot app (y :: l) with
    | none => rfl
    | some b =>
     have hm := (Ui app hb).1
     have : Kg (Dv s x) (Dv s b) = false := by
      rcases List.mem_cons.1 hm with rfl | hm
      ·exact hw
      ·exact Mo hw (h1 b hm)
     simp [this]
   ·rfl
  ·simp only [if_true]
   rw [Ot, Ot]
   by_cases hy : (app y).isSome = true
   ·rw [if_pos hy, if_pos hy]
    simp [hw]
   ·rw [if_neg hy, if_neg hy]
    exact Vt h2
def Qi (s : bM) (l : List Int) : Option V × (Int × Int) := match Ot app l with | none => (none, (-1, -1)) | some b => (app b, Dv s b)
theorem bsv_ins {s : bM} {x : Int} (hx : 0 ≤ (Dv s x).1 ∧ 0 ≤ (Dv s x).2) {l : List Int} (h : Qf s l) : Qi app s (vI s x l) = if Kg (Dv s x) (Qi app s l).2 = true then Qi app s l else match app x with | none => Qi app s l | some v => (some v, Dv s x) := by
 unfold Qi
 rw [Vt app h]
 cases hb : Ot app l with
 | none =>
  have : Kg (Dv s x) (-1, -1) = false := by rw [← Bool.not_eq_true, rM]; simp; omega
  simp only [this, fT, if_false]
  cases ha : app x with
  | none => simp
  | some v => simp [ha]
 | some b =>
  cases ha : app x with
  | none => simp
  | some v =>
   simp only [Option.isSome_some, if_true]
   cases hw : Kg (Dv s x) (Dv s b)
   ·simp [ha]
   ·simp
end
end Go.Proofs.YtojkihhnioeggaaGreatDoor.S
