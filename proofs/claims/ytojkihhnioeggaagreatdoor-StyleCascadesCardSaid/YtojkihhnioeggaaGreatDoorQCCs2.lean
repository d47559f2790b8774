import Derived.Test.YtojkihhnioeggaaGreatDoorQCCs1
import Derived.WalkKit
import Derived.WalkSpells
import Derived.WalkLawsBesides
import Derived.Deep.QuietTactic
import Derived.BigQuiet
import Derived.BigRegion
import Derived.Lib.Hide
import Derived.Deep.RegionWith
set_option linter.unusedSimpArgs false
set_option linter.unusedVariables false
set_option linter.unusedSimpArgs false
set_option linter.unusedVariables false
namespace Go.Proofs.YtojkihhnioeggaaGreatDoor.S
open Go Go.Bm
def Bl (s : bK) (i : Int) : Int × Int := Ly ((idx s.Rules i).getD default)
structure Zp (s : bK) (i : Int) : Prop where
 lo : 0 ≤ i
 hi : i < s.Rules.length
theorem Ws {s : bK} (h : kO s) {i j : Int} (hi : Zp s i) (hj : Zp s j) (n : Nat) (hn : 60 ≤ n) : ∃ y, kZ n i j s = some y ∧ decide (y < 0) = Hp (Bl s i) (Bl s j) := by
 obtain ⟨a, ha, hma⟩ := zO s.Rules i hi.lo hi.hi
 obtain ⟨b, hb, hmb⟩ := zO s.Rules j hj.lo hj.hi
 obtain ⟨wa, _⟩ := Qs a (h.ok a hma).st n hn
 obtain ⟨wb, _⟩ := Qs b (h.ok b hmb).st n hn
 obtain ⟨y, hy1, hy2⟩ := comp_eq n (by omega) (Ly a).1 (Ly a).2 (Ly b).1 (Ly b).2
 refine ⟨y, ?_, ?_⟩
 ·unfold kZ
  rw [ha, hb]
  simp only [Option.bind_some]
  rw [wa, wb]
  simp only [Option.bind_some]
  rw [hy1]
  rfl
 ·rw [hy2]; unfold Bl; rw [ha, hb]; rfl
def tO (s : bK) (x : Int) : List Int → List Int
 | [] => [x]
 | y :: l => if Hp (Bl s x) (Bl s y) = true then y :: tO s x l else x :: y :: l
theorem zS {s : bK} {x z : Int} : ∀ {l : List Int}, z ∈ tO s x l → z = x ∨ z ∈ l
 | [], h => .inl (by simpa [tO] using h)
 | y :: l, h => by
  rw [tO] at h
  split at h
  ·rcases List.mem_cons.1 h with rfl | h
   ·exact .inr (by simp)
   ·rcases zS h with h | h
    ·exact .inl h
    ·exact .inr (by simp [h])
  ·simpa using h
theorem Es {s : bK} {x : Int} : ∀ {l : List Int}, (tO s x l).length = l.length + 1
 | [] => rfl
 | y :: l => by
  rw [tO]; split
  ·rw [List.length_cons, Es, List.length_cons]
  ·rfl
theorem tW {α : Type} [Inhabited α] {b : Bool} {x : Option α} : gd [b] x = if b = true then x else some default := by
 cases b <;> rfl
theorem Lz {s : bK} (h : kO s) (x : Int) (hx : Zp s x) (j : List Int → Option (List Int)) (p2 v33 : Int) (B : List Int) : ∀ (ra B : List Int) (n : Nat), (∀ y, y ∈ ra → Zp s y) → ra.length + 70 ≤ n → ra.length ≤ 100 →
  cD 0 s j p2 v33 n (ra.length : Int) (ra.reverse ++ x :: B) = j ((tO s x ra).reverse ++ B)
 | [], B, n, hr, hn, hz => by
  obtain ⟨n, rfl⟩ : ∃ m, n = m + 1 := ⟨n - 1, by omega⟩
  rw [cD]
  rfl
 | y :: ra, B, n, hr, hn, hz => by
  obtain ⟨n, rfl⟩ : ∃ m, n = m + 1 := ⟨n - 1, by omega⟩
  simp only [List.length_cons] at hn hz
  have hlen : ((y :: ra).reverse ++ x :: B).length = ra.length + 1 + (B.length + 1) := by simp; omega
  have c0 : decide ((((y :: ra).length : Nat) : Int) > 0) = true := by rw [decide_eq_true_eq, List.length_cons]; omega
  have i1 : uU (((y :: ra).length : Nat) : Int) ((y :: ra).reverse ++ x :: B).length = some (ra.length + 1) := by
   unfold uU; rw [if_pos ⟨by omega, by rw [hlen, List.length_cons]; omega⟩]; simp
  have hw : IntKind.wrap .i64 ((((y :: ra).length : Nat) : Int) - 1) = (ra.length : Int) := by rw [List.length_cons, Go.Bm.aU (by omega) (by omega)]; omega
  have i2 : uU (ra.length : Int) ((y :: ra).reverse ++ x :: B).length = some ra.length := by
   unfold uU; rw [if_pos ⟨by omega, by rw [hlen]; omega⟩]; simp
  have hl : (y :: ra).reverse ++ x :: B = ra.reverse ++ y :: x :: B := by simp
  have g1 : ((y :: ra).reverse ++ x :: B)[ra.length + 1]? = some x := by
   rw [List.getElem?_append_right (by simp)]; simp
  have g2 : ((y :: ra).reverse ++ x :: B)[ra.length]? = some y := by
   rw [hl, List.getElem?_append_right (by simp)]; simp
  obtain ⟨c, hc1, hc2⟩ := Ws h hx (hr y (by simp)) n (by omega)
  rw [cD, c0]
  simp only [tW, if_true, i1, Option.bind_some, g1, hw, i2, g2, hc1, hc2, Bool.true_and]
  rw [tO]
  cases hw' : Hp (Bl s x) (Bl s y)
  ·simp only [Bool.false_eq_true, if_false]
   rw [hl]; simp
  ·simp only [if_true]
   have s1 : List.set ((y :: ra).reverse ++ x :: B) (ra.length + 1) y = ra.reverse ++ y :: y :: B := by
    rw [hl, List.set_append_right _ _ (by simp)]; simp
   have s2 : (ra.reverse ++ y :: y :: B)[ra.length]? = some y := by
    rw [List.getElem?_append_right (by simp)]; simp
   have s3 : List.set (ra.reverse ++ y :: y :: B) ra.length x = ra.reverse ++ x :: y :: B := by
    rw [List.set_append_right _ _ (by simp)]; simp
   have i3 : uU (ra.length : Int) (ra.reverse ++ y :: y :: B).length = some ra.length := by
    unfold uU; rw [if_pos ⟨by omega, by simp; omega⟩]; simp
   rw [s1]
   simp only [i3, Option.bind_some, s2, s3]
   rw [Lz h x hx j p2 v33 B ra (y :: B) n (fun z hz => hr z (by simp [hz])) (by omega) (by omega)]
   simp
def sT (s : bK) : List Int → List Int → List Int
 | R, [] => R
 | R, x :: l => sT s (tO s x R) l
theorem Ox {s : bK} (h : kO s) (p2 : Int) (hp : p2 ≤ 100) : ∀ (l R : List Int) (n : Nat) (q : Int), (∀ y, y ∈ l → Zp s y) → (∀ y, y ∈ R → Zp s y) → q = R.length → q + l.length = p2 → l.length + 180 ≤ n →
  cC p2 0 s n q (R.reverse ++ l) = some ((sT s R l).reverse)
 | [], R, n, q, h1, h2, hq, hl, hn => by
  obtain ⟨n, rfl⟩ : ∃ m, n = m + 1 := ⟨n - 1, by simp at hn; omega⟩
  simp only [List.length_nil] at hl
  rw [cC, if_neg (by simp; omega), List.append_nil]; rfl
 | x :: l, R, n, q, h1, h2, hq, hl, hn => by
  obtain ⟨n, rfl⟩ : ∃ m, n = m + 1 := ⟨n - 1, by simp at hn; omega⟩
  simp only [List.length_cons] at hl hn
  have hw : IntKind.wrap .i64 (q + 1) = q + 1 := Go.Bm.aU (by omega) (by omega)
  rw [cC, if_pos (by simp; omega)]
  unfold aS
  subst hq
  refine (Lz h x (h1 x (by simp)) _ p2 _ [] R l n h2 (by omega) (by omega)).trans ?_
  rw [hw, Ox h p2 hp l (tO s x R) n _ (fun y hy => h1 y (by simp [hy])) (fun y hy => by
   rcases zS hy with rfl | hy
   ·exact h1 y (by simp)
   ·exact h2 y hy) (by rw [Es]; omega) (by omega) (by omega)]
  rfl
theorem sort_eq {s : bK} (h : kO s) (l : List Int) (hl : ∀ y, y ∈ l → Zp s y) (hz : l.length ≤ 6) (n : Nat) (hn : 400 ≤ n) : dE n l s = some ((sT s [] l).reverse) := by
 have key : cL n l 0 (l.length : Int) s = some ((sT s [] l).reverse) := by
  unfold cL
  rw [show IntKind.wrap .i64 (0 + 1) = 1 by decide]
  match l, hl, hz with
  | [], _, _ =>
   obtain ⟨m, rfl⟩ : ∃ m, n = m + 1 := ⟨n - 1, by omega⟩
   rfl
  | x :: l, hl, hz =>
   have := Ox h ((x :: l).length : Int) (by omega) l [x] n 1 (fun y hy => hl y (by simp [hy])) (fun y hy => hl y (by simp at hy; simp [hy])) rfl (by simp; omega) (by simp at hz; omega)
   exact this
 unfold dE gL aS
 obtain ⟨m, rfl⟩ : ∃ m, n = m + 1 := ⟨n - 1, by omega⟩
 have e0 : ∀ j, cN (l.length : Int) s j (m + 1) 0 20 l = j 0 l := fun j => by rw [cN, if_neg (by simp; omega)]
 have e1 : ∀ y, cU (l.length : Int) s y (m + 1) 20 = some y := fun y => by rw [cU, if_neg (by simp; omega)]
 have e2 : (cN (l.length : Int) s (fun v10 v11 => (cL (m + 1) v11 v10 (l.length : Int) s).bind fun y12 => cU (l.length : Int) s y12 (m + 1) 20) (m + 1) 0 20 l) = some ((sT s [] l).reverse) := by
  rw [e0, key]
  exact e1 _
 show (cN (l.length : Int) s _ (m + 1) 0 20 l).bind _ = _
 rw [e2]
 rfl
theorem Nx {s : bK} {z : Int} : ∀ {l R : List Int}, z ∈ sT s R l → z ∈ R ∨ z ∈ l
 | [], R, h => .inl h
 | x :: l, R, h => by
  rcases Nx (l := l) h with h | h
  ·rcases zS h with rfl | h
   ·exact .inr (by simp)
   ·exact .inl h
  ·exact .inr (by simp [h])
theorem Iy (s : bK) (x : Int) : ∀ (l R : List Int), sT s R (l ++ [x]) = tO s x (sT s R l)
 | [], R => rfl
 | y :: l, R => Iy s x l _
def Nl (s : bK) : List Int → Prop
 | [] => True
 | y :: l => (∀ z, z ∈ l → Hp (Bl s y) (Bl s z) = false) ∧ Nl s l
theorem Uj {a b : Int × Int} (h : Hp a b = true) : Hp b a = false := by
 rw [← Bool.not_eq_true, pZ]
 rw [pZ] at h
 omega
theorem Ns {s : bK} {x : Int} : ∀ {l : List Int}, Nl s l → Nl s (tO s x l)
 | [], _ => by rw [tO]; exact ⟨fun _ h => (nomatch h), trivial⟩
 | y :: l, ⟨h1, h2⟩ => by
  rw [tO]
  split
  ·rename_i hw
   refine ⟨fun z hz => ?_, Ns h2⟩
   rcases zS hz with rfl | hz
   ·exact Uj hw
   ·exact h1 z hz
  ·rename_i hw
   have hw : Hp (Bl s x) (Bl s y) = false := by simpa using hw
   refine ⟨fun z hz => ?_, h1, h2⟩
   rcases List.mem_cons.1 hz with rfl | hz
   ·exact hw
   ·exact Jv hw (h1 z hz)
theorem On (s : bK) : ∀ (l R : List Int), Nl s R → Nl s (sT s R l)
 | [], R, h => h
 | x :: l, R, h => On s l _ (Ns h)
section
variable {V : Type} (app : Int → Option V)
def Lx : List Int → Option Int
 | [] => none
 | i :: l => if (app i).isSome = true then some i else Lx l
theorem Rj {i : Int} : ∀ {l : List Int}, Lx app l = some i → i ∈ l ∧ (app i).isSome = true
 | [], h => nomatch h
 | y :: l, h => by
  rw [Lx] at h
  split at h
  ·rename_i hs; obtain rfl := Option.some.inj h; exact ⟨by simp, hs⟩
  ·obtain ⟨a, b⟩ := Rj h; exact ⟨by simp [a], b⟩
theorem Sm {s : bK} {x : Int} : ∀ {l : List Int}, Nl s l → Lx app (tO s x l) = if (app x).isSome = true then (match Lx app l with | none => some x | some b => if Hp (Bl s x) (Bl s b) = true then some b else some x) else Lx app l
 | [], _ => by
  rw [tO]
  simp only [Lx]
 | y :: l, ⟨h1, h2⟩ => by
  rw [tO]
  cases hw : Hp (Bl s x) (Bl s y)
  ·simp only [Bool.false_eq_true, if_false]
   rw [Lx]
   split
   ·cases hb : Lx app (y :: l) with
    | none => rfl
    | some b =>
     have hm := (Rj app hb).1
     have : Hp (Bl s x) (Bl s b) = false := by
      rcases List.mem_cons.1 hm with rfl | hm
      ·exact hw
      ·exact Jv hw (h1 b hm)
     simp [this]
   ·rfl
  ·simp only [if_true]
   rw [Lx, Lx]
   by_cases hy : (app y).isSome = true
   ·rw [if_pos hy, if_pos hy]
    simp [hw]
   ·rw [if_neg hy, if_neg hy]
    exact Sm h2
def Np (s : bK) (l : List Int) : Option V × (Int × Int) := match Lx app l with | none => (none, (-1, -1)) | some b => (app b, Bl s b)
theorem bsv_ins {s : bK} {x : Int} (hx : 0 ≤ (Bl s x).1 ∧ 0 ≤ (Bl s x).2) {l : List Int} (h : Nl s l) : Np app s (tO s x l) = if Hp (Bl s x) (Np app s l).2 = true then Np app s l else match app x with | none => Np app s l | some v => (some v, Bl s x) := by
 unfold Np
 rw [Sm app h]
 cases hb : Lx app l with
 | none =>
  have : Hp (Bl s x) (-1, -1) = false := by rw [← Bool.not_eq_true, pZ]; simp; omega
  simp only [this, Bool.false_eq_true, if_false]
  cases ha : app x with
  | none => simp
  | some v => simp [ha]
 | some b =>
  cases ha : app x with
  | none => simp
  | some v =>
   simp only [Option.isSome_some, if_true]
   cases hw : Hp (Bl s x) (Bl s b)
   ·simp [ha]
   ·simp
end
end Go.Proofs.YtojkihhnioeggaaGreatDoor.S
