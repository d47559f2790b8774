import Derived.Test.YtojkihhnioeggaaGreatDoorQRCs1
import Derived.WalkKit
import Derived.WalkSpells
import Derived.WalkLawsBesides
import Derived.Deep.QuietTactic
import Derived.BigQuiet
import Derived.BigRegion
import Derived.Lib.Hide
import Derived.Deep.RegionWith
set_option linter.unusedSimpArgs false
set_option linter.unusedVariables false
set_option linter.unusedSimpArgs false
set_option linter.unusedVariables false
namespace Go.Proofs.YtojkihhnioeggaaGreatDoor.S
open Go Go.Bm
def Ae (s : bE) (i : Int) : Int × Int := Km ((idx s.Rules i).getD default)
structure Vp (s : bE) (i : Int) : Prop where
 lo : 0 ≤ i
 hi : i < s.Rules.length
theorem Vg {s : bE} (h : iE s) {i j : Int} (hi : Vp s i) (hj : Vp s j) (n : Nat) (hn : 60 ≤ n) : ∃ y, kG n i j s = some y ∧ decide (y < 0) = Gi (Ae s i) (Ae s j) := by
 obtain ⟨a, ha, hma⟩ := vE s.Rules i hi.lo hi.hi
 obtain ⟨b, hb, hmb⟩ := vE s.Rules j hj.lo hj.hi
 obtain ⟨wa, _⟩ := Pe a (h.ok a hma).st n hn
 obtain ⟨wb, _⟩ := Pe b (h.ok b hmb).st n hn
 obtain ⟨y, hy1, hy2⟩ := Yw n (by omega) (Km a).1 (Km a).2 (Km b).1 (Km b).2
 refine ⟨y, ?_, ?_⟩
 ·unfold kG
  rw [ha, hb]
  simp only [Option.bind_some]
  rw [wa, wb]
  simp only [Option.bind_some]
  rw [hy1]
  rfl
 ·rw [hy2]; unfold Ae; rw [ha, hb]; rfl
def sX (s : bE) (x : Int) : List Int → List Int
 | [] => [x]
 | y :: l => if Gi (Ae s x) (Ae s y) = true then y :: sX s x l else x :: y :: l
theorem yO {s : bE} {x z : Int} : ∀ {l : List Int}, z ∈ sX s x l → z = x ∨ z ∈ l
 | [], h => .inl (by simpa [sX] using h)
 | y :: l, h => by
  rw [sX] at h
  split at h
  ·rcases List.mem_cons.1 h with rfl | h
   ·exact .inr (by simp)
   ·rcases yO h with h | h
    ·exact .inl h
    ·exact .inr (by simp [h])
  ·simpa using h
theorem Dm {s : bE} {x : Int} : ∀ {l : List Int}, (sX s x l).length = l.length + 1
 | [] => rfl
 | y :: l => by
  rw [sX]; split
  ·rw [List.length_cons, Dm, List.length_cons]
  ·rfl
theorem uQ {α : Type} [Inhabited α] {b : Bool} {x : Option α} : gd [b] x = if b = true then x else some default := by
 cases b <;> rfl
theorem Kn {s : bE} (h : iE s) (x : Int) (hx : Vp s x) (j : List Int → Option (List Int)) (p2 v33 : Int) (B : List Int) : ∀ (ra B : List Int) (n : Nat), (∀ y, y ∈ ra → Vp s y) → ra.length + 70 ≤ n → ra.length ≤ 100 →
  bW 0 s j p2 v33 n (ra.length : Int) (ra.reverse ++ x :: B) = j ((sX s x ra).reverse ++ B)
 | [], B, n, hr, hn, hz => by
  obtain ⟨n, rfl⟩ : ∃ m, n = m + 1 := ⟨n - 1, by omega⟩
  rw [bW]
  rfl
 | y :: ra, B, n, hr, hn, hz => by
  obtain ⟨n, rfl⟩ : ∃ m, n = m + 1 := ⟨n - 1, by omega⟩
  simp only [List.length_cons] at hn hz
  have hlen : ((y :: ra).reverse ++ x :: B).length = ra.length + 1 + (B.length + 1) := by simp; omega
  have c0 : decide ((((y :: ra).length : Nat) : Int) > 0) = true := by rw [decide_eq_true_eq, List.length_cons]; omega
  have i1 : uC (((y :: ra).length : Nat) : Int) ((y :: ra).reverse ++ x :: B).length = some (ra.length + 1) := by
   unfold uC; rw [if_pos ⟨by omega, by rw [hlen, List.length_cons]; omega⟩]; simp
  have hw : IntKind.wrap .i64 ((((y :: ra).length : Nat) : Int) - 1) = (ra.length : Int) := by rw [List.length_cons, Go.Bm.aS (by omega) (by omega)]; omega
  have i2 : uC (ra.length : Int) ((y :: ra).reverse ++ x :: B).length = some ra.length := by
   unfold uC; rw [if_pos ⟨by omega, by rw [hlen]; omega⟩]; simp
  have hl : (y :: ra).reverse ++ x :: B = ra.reverse ++ y :: x :: B := by simp
  have g1 : ((y :: ra).reverse ++ x :: B)[ra.length + 1]? = some x := by
   rw [List.getElem?_append_right (by simp)]; simp
  have g2 : ((y :: ra).reverse ++ x :: B)[ra.length]? = some y := by
   rw [hl, List.getElem?_append_right (by simp)]; simp
  obtain ⟨c, hc1, hc2⟩ := Vg h hx (hr y (by simp)) n (by omega)
  rw [bW, c0]
  simp only [uQ, if_true, i1, Option.bind_some, g1, hw, i2, g2, hc1, hc2, Bool.true_and]
  rw [sX]
  cases hw' : Gi (Ae s x) (Ae s y)
  ·simp only [Bool.false_eq_true, if_false]
   rw [hl]; simp
  ·simp only [if_true]
   have s1 : List.set ((y :: ra).reverse ++ x :: B) (ra.length + 1) y = ra.reverse ++ y :: y :: B := by
    rw [hl, List.set_append_right _ _ (by simp)]; simp
   have s2 : (ra.reverse ++ y :: y :: B)[ra.length]? = some y := by
    rw [List.getElem?_append_right (by simp)]; simp
   have s3 : List.set (ra.reverse ++ y :: y :: B) ra.length x = ra.reverse ++ x :: y :: B := by
    rw [List.set_append_right _ _ (by simp)]; simp
   have i3 : uC (ra.length : Int) (ra.reverse ++ y :: y :: B).length = some ra.length := by
    unfold uC; rw [if_pos ⟨by omega, by simp; omega⟩]; simp
   rw [s1]
   simp only [i3, Option.bind_some, s2, s3]
   rw [Kn h x hx j p2 v33 B ra (y :: B) n (fun z hz => hr z (by simp [hz])) (by omega) (by omega)]
   simp
def sH (s : bE) : List Int → List Int → List Int
 | R, [] => R
 | R, x :: l => sH s (sX s x R) l
theorem Nf {s : bE} (h : iE s) (p2 : Int) (hp : p2 ≤ 100) : ∀ (l R : List Int) (n : Nat) (q : Int), (∀ y, y ∈ l → Vp s y) → (∀ y, y ∈ R → Vp s y) → q = R.length → q + l.length = p2 → l.length + 180 ≤ n →
  bV p2 0 s n q (R.reverse ++ l) = some ((sH s R l).reverse)
 | [], R, n, q, h1, h2, hq, hl, hn => by
  obtain ⟨n, rfl⟩ : ∃ m, n = m + 1 := ⟨n - 1, by simp at hn; omega⟩
  simp only [List.length_nil] at hl
  rw [bV, if_neg (by simp; omega), List.append_nil]; rfl
 | x :: l, R, n, q, h1, h2, hq, hl, hn => by
  obtain ⟨n, rfl⟩ : ∃ m, n = m + 1 := ⟨n - 1, by simp at hn; omega⟩
  simp only [List.length_cons] at hl hn
  have hw : IntKind.wrap .i64 (q + 1) = q + 1 := Go.Bm.aS (by omega) (by omega)
  rw [bV, if_pos (by simp; omega)]
  unfold aR
  subst hq
  refine (Kn h x (h1 x (by simp)) _ p2 _ [] R l n h2 (by omega) (by omega)).trans ?_
  rw [hw, Nf h p2 hp l (sX s x R) n _ (fun y hy => h1 y (by simp [hy])) (fun y hy => by
   rcases yO hy with rfl | hy
   ·exact h1 y (by simp)
   ·exact h2 y hy) (by rw [Dm]; omega) (by omega) (by omega)]
  rfl
theorem Zv {s : bE} (h : iE s) (l : List Int) (hl : ∀ y, y ∈ l → Vp s y) (hz : l.length ≤ 6) (n : Nat) (hn : 400 ≤ n) : dB n l s = some ((sH s [] l).reverse) := by
 have key : cC n l 0 (l.length : Int) s = some ((sH s [] l).reverse) := by
  unfold cC
  rw [show IntKind.wrap .i64 (0 + 1) = 1 by decide]
  match l, hl, hz with
  | [], _, _ =>
   obtain ⟨m, rfl⟩ : ∃ m, n = m + 1 := ⟨n - 1, by omega⟩
   rfl
  | x :: l, hl, hz =>
   have := Nf h ((x :: l).length : Int) (by omega) l [x] n 1 (fun y hy => hl y (by simp [hy])) (fun y hy => hl y (by simp at hy; simp [hy])) rfl (by simp; omega) (by simp at hz; omega)
   exact this
 unfold dB fY aR
 obtain ⟨m, rfl⟩ : ∃ m, n = m + 1 := ⟨n - 1, by omega⟩
 have e0 : ∀ j, cH (l.length : Int) s j (m + 1) 0 20 l = j 0 l := fun j => by rw [cH, if_neg (by simp; omega)]
 have e1 : ∀ y, cU (l.length : Int) s y (m + 1) 20 = some y := fun y => by rw [cU, if_neg (by simp; omega)]
 have e2 : (cH (l.length : Int) s (fun v10 v11 => (cC (m + 1) v11 v10 (l.length : Int) s).bind fun y12 => cU (l.length : Int) s y12 (m + 1) 20) (m + 1) 0 20 l) = some ((sH s [] l).reverse) := by
  rw [e0, key]
  exact e1 _
 show (cH (l.length : Int) s _ (m + 1) 0 20 l).bind _ = _
 rw [e2]
 rfl
theorem Mk {s : bE} {z : Int} : ∀ {l R : List Int}, z ∈ sH s R l → z ∈ R ∨ z ∈ l
 | [], R, h => .inl h
 | x :: l, R, h => by
  rcases Mk (l := l) h with h | h
  ·rcases yO h with rfl | h
   ·exact .inr (by simp)
   ·exact .inl h
  ·exact .inr (by simp [h])
theorem Hl (s : bE) (x : Int) : ∀ (l R : List Int), sH s R (l ++ [x]) = sX s x (sH s R l)
 | [], R => rfl
 | y :: l, R => Hl s x l _
def Ma (s : bE) : List Int → Prop
 | [] => True
 | y :: l => (∀ z, z ∈ l → Gi (Ae s y) (Ae s z) = false) ∧ Ma s l
theorem Su {a b : Int × Int} (h : Gi a b = true) : Gi b a = false := by
 rw [← Bool.not_eq_true, pK]
 rw [pK] at h
 omega
theorem Mf {s : bE} {x : Int} : ∀ {l : List Int}, Ma s l → Ma s (sX s x l)
 | [], _ => by rw [sX]; exact ⟨fun _ h => (nomatch h), trivial⟩
 | y :: l, ⟨h1, h2⟩ => by
  rw [sX]
  split
  ·rename_i hw
   refine ⟨fun z hz => ?_, Mf h2⟩
   rcases yO hz with rfl | hz
   ·exact Su hw
   ·exact h1 z hz
  ·rename_i hw
   have hw : Gi (Ae s x) (Ae s y) = false := by simpa using hw
   refine ⟨fun z hz => ?_, h1, h2⟩
   rcases List.mem_cons.1 hz with rfl | hz
   ·exact hw
   ·exact Ij hw (h1 z hz)
theorem Mx (s : bE) : ∀ (l R : List Int), Ma s R → Ma s (sH s R l)
 | [], R, h => h
 | x :: l, R, h => Mx s l _ (Mf h)
section
variable {V : Type} (app : Int → Option V)
def Je : List Int → Option Int
 | [] => none
 | i :: l => if (app i).isSome = true then some i else Je l
theorem Iq {i : Int} : ∀ {l : List Int}, Je app l = some i → i ∈ l ∧ (app i).isSome = true
 | [], h => nomatch h
 | y :: l, h => by
  rw [Je] at h
  split at h
  ·rename_i hs; obtain rfl := Option.some.inj h; exact ⟨by simp, hs⟩
  ·obtain ⟨a, b⟩ := Iq h; exact ⟨by simp [a], b⟩
theorem Qy {s : bE} {x : Int} : ∀ {l : List Int}, Ma s l → Je app (sX s x l) = if (app x).isSome = true then (match Je app l with | none => some x | some b => if Gi (Ae s x) (Ae s b) = true then some b else some x) else Je app l
 | [], _ => by
  rw [sX]
  simp only [Je]
 | y :: l, ⟨h1, h2⟩ => by
  rw [sX]
  cases hw : Gi (Ae s x) (Ae s y)
  ·simp only [Bool.false_eq_true, if_false]
   rw [Je]
   split
   ·cases hb : Je app (y :: l) with
    | none => rfl
    | some b =>
     have hm := (Iq app hb).1
     have : Gi (Ae s x) (Ae s b) = false := by
      rcases List.mem_cons.1 hm with rfl | hm
      ·exact hw
      ·exact Ij hw (h1 b hm)
     simp [this]
   ·rfl
  ·simp only [if_true]
   rw [Je, Je]
   by_cases hy : (app y).isSome = true
   ·rw [if_pos hy, if_pos hy]
    simp [hw]
   ·rw [if_neg hy, if_neg hy]
    exact Qy h2
def Jf (s : bE) (l : List Int) : Option V × (Int × Int) := match Je app l with | none => (none, (-1, -1)) | some b => (app b, Ae s b)
theorem Yz {s : bE} {x : Int} (hx : 0 ≤ (Ae s x).1 ∧ 0 ≤ (Ae s x).2) {l : List Int} (h : Ma s l) : Jf app s (sX s x l) = if Gi (Ae s x) (Jf app s l).2 = true then Jf app s l else match app x with | none => Jf app s l | some v => (some v, Ae s x) := by
 unfold Jf
 rw [Qy app h]
 cases hb : Je app l with
 | none =>
  have : Gi (Ae s x) (-1, -1) = false := by rw [← Bool.not_eq_true, pK]; simp; omega
  simp only [this, Bool.false_eq_true, if_false]
  cases ha : app x with
  | none => simp
  | some v => simp [ha]
 | some b =>
  cases ha : app x with
  | none => simp
  | some v =>
   simp only [Option.isSome_some, if_true]
   cases hw : Gi (Ae s x) (Ae s b)
   ·simp [ha]
   ·simp
end
end Go.Proofs.YtojkihhnioeggaaGreatDoor.S
