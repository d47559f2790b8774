import Derived.Test.YtojkihhnioeggaaGreatDoorQGK0
import Derived.Test.YtojkihhnioeggaaGreatDoorQRc1
import Derived.WalkKit
import Derived.WalkSpells
import Derived.WalkLawsBesides
import Derived.Deep.QuietTactic
import Derived.BigQuiet
import Derived.BigRegion
import Derived.Lib.Hide
import Derived.Deep.RegionWith
set_option linter.unusedSimpArgs false
set_option linter.unusedVariables false
set_option linter.unusedSimpArgs false
set_option linter.unusedVariables false
namespace Go.Proofs.YtojkihhnioeggaaGreatDoor.S
open Go Go.Bm
theorem yX (L : List aY) (h : Qs L) (nm : ByteArray) (j : Unit → Option (aF × Bool)) (hj : ∃ r, j () = some r) : ∀ (k i : Nat), i + k = L.length → ∃ r, ∀ n, k + 21 ≤ n → hO L nm j n (i : Int) = some r ∧ gK L nm j n (i : Int) = some r
 | 0, i, hi => by
  obtain ⟨r, hr⟩ := hj
  refine ⟨r, fun n hn => ?_⟩
  obtain ⟨n, rfl⟩ : ∃ m, n = m + 1 := ⟨n - 1, by omega⟩
  exact ⟨by rw [hO, if_neg (by simp; omega), hr], by rw [gK, if_neg (by simp; omega), hr]⟩
 | k + 1, i, hi => by
  have hl := h.len
  have hlt : i < L.length := by omega
  have hw : IntKind.wrap .i64 ((i : Int) + 1) = ((i + 1 : Nat) : Int) := by rw [Go.Bm.bB (by omega) (by omega)]; omega
  obtain ⟨r, hr⟩ := yX L h nm j hj k (i + 1) (by omega)
  have hv := (h.ok L[i] (List.getElem_mem hlt)).val.cpy
  cases hq : dA L[i].Name nm
  ·refine ⟨r, fun n hn => ?_⟩
   obtain ⟨n, rfl⟩ : ∃ m, n = m + 1 := ⟨n - 1, by omega⟩
   rw [hO, gK, if_pos (by simp; omega), if_pos (by simp; omega), iP hlt]
   simp only [Option.bind_some, hq, Bool.false_eq_true, if_false, hw]
   exact hr n (by omega)
  ·refine ⟨(L[i].Value, true), fun n hn => ?_⟩
   obtain ⟨n, rfl⟩ : ∃ m, n = m + 1 := ⟨n - 1, by omega⟩
   rw [hO, gK, if_pos (by simp; omega), if_pos (by simp; omega), iP hlt]
   simp only [Option.bind_some, hq, if_true, hv n (by omega), and_self]
theorem Ou {L : List aY} (h : Qs L) (nm : ByteArray) : ∃ r, ∀ n, 60 ≤ n → qK n L nm = some r ∧ rW n L nm = some r := by
 have hl := h.len
 obtain ⟨r, hr⟩ := yX L h nm (fun (_ : Unit) => some ((aF.mk 0 0 (⟨#[]⟩ : ByteArray) ([] : List aF)), false)) ⟨_, rfl⟩ L.length 0 (by omega)
 exact ⟨r, fun n hn => hr n (by omega)⟩
theorem Sj {L : List aY} (h : Qs L) (nm : ByteArray) : ∃ b, ∀ n, 60 ≤ n → lM n L nm = some b ∧ lK n L nm = some b := by
 obtain ⟨r, hr⟩ := Ou h nm
 refine ⟨(r.1.Kind == 2) && (r.1.N == 1), fun n hn => ?_⟩
 unfold lM lK
 rw [(hr n hn).1, (hr n hn).2]
 exact ⟨rfl, rfl⟩
def Xv (L : List aY) (nm : ByteArray) : Bool := (lM 60 L nm).getD false
theorem Qy {L : List aY} (h : Qs L) (nm : ByteArray) (n : Nat) (hn : 60 ≤ n) : lM n L nm = some (Xv L nm) ∧ lK n L nm = some (Xv L nm) := by
 obtain ⟨b, hb⟩ := Sj h nm
 unfold Xv
 rw [(hb 60 (Nat.le_refl _)).1]
 exact hb n hn
def sts (x : aR) : Int := (if Xv x.Attrs (⟨#[100, 105, 115, 97, 98, 108, 101, 100]⟩ : ByteArray) = true then 8 else 0) + (if Xv x.Attrs (⟨#[99, 104, 101, 99, 107, 101, 100]⟩ : ByteArray) = true then 16 else 0)
def Hk (acc : List aP) (x : aR) : List aP := if (sts x != 0) = true then acc ++ [⟨x.ID, sts x⟩] else acc
theorem Mg (acc : List aP) (x : aR) : (Hk acc x).length ≤ acc.length + 1 := by
 unfold Hk; split <;> simp
theorem My {t : bD} (j : List aP → Option (List aP)) (hz : t.Nodes.length ≤ 400) (ho : ∀ x, x ∈ t.Nodes → Rv x) : ∀ (l pre : List aR) (n : Nat) (acc : List aP) (q : Int), t.Nodes = pre ++ l → q = pre.length → l.length + 100 < n → acc.length + l.length ≤ 1000 →
  eI t j n acc q = j (l.foldl Hk acc) ∧ eE t j n acc q = j (l.foldl Hk acc)
 | [], pre, n, acc, q, ht, hq, hn, ha => by
  obtain ⟨n, rfl⟩ : ∃ m, n = m + 1 := ⟨n - 1, by simp at hn; omega⟩
  have hlen : t.Nodes.length = pre.length := by rw [ht]; simp
  exact ⟨by rw [eI, if_neg (by simp; omega)]; rfl, by rw [eE, if_neg (by simp; omega)]; rfl⟩
 | x :: l, pre, n, acc, q, ht, hq, hn, ha => by
  obtain ⟨n, rfl⟩ : ∃ m, n = m + 1 := ⟨n - 1, by simp at hn; omega⟩
  have hlen : t.Nodes.length = pre.length + (l.length + 1) := by rw [ht]; simp
  have hw : IntKind.wrap .i64 (q + 1) = q + 1 := Go.Bm.bB (by omega) (by omega)
  have hx := ho x (by rw [ht]; simp)
  have hs := Mg acc x
  simp only [List.length_cons] at hn ha
  obtain ⟨h1, h2⟩ := My j hz ho l (pre ++ [x]) n (Hk acc x) (q + 1) (by rw [ht]; simp) (by simp; omega) (by omega) (by omega)
  obtain ⟨d1, d2⟩ := Qy hx.at_ (⟨#[100, 105, 115, 97, 98, 108, 101, 100]⟩ : ByteArray) n (by omega)
  obtain ⟨e1, e2⟩ := Qy hx.at_ (⟨#[99, 104, 101, 99, 107, 101, 100]⟩ : ByteArray) n (by omega)
  have w8 : IntKind.wrap .i64 ((0 : Int) + 8) = 8 := by decide
  have w24 : IntKind.wrap .i64 ((8 : Int) + 16) = 24 := by decide
  have w16 : IntKind.wrap .i64 ((0 : Int) + 16) = 16 := by decide
  have hap : ∀ (e : aP), oK 16 acc [e] = some (acc ++ [e]) := fun e => Cz (by simp; omega) (by decide)
  unfold Hk sts at h1 h2
  rw [eI, eE, if_pos (by simp; omega), if_pos (by simp; omega)]
  rw [List.foldl_cons]
  unfold Hk sts
  unfold aX
  rw [pW ht hq]
  simp only [Option.bind_some, d1, d2, e1, e2, hw]
  cases hd : Xv x.Attrs (⟨#[100, 105, 115, 97, 98, 108, 101, 100]⟩ : ByteArray) <;> cases he : Xv x.Attrs (⟨#[99, 104, 101, 99, 107, 101, 100]⟩ : ByteArray) <;> simp only [hd, he] at h1 h2 <;> simp [w8, w24, w16, hap, hd, he] at h1 h2 ⊢ <;> exact ⟨h1, h2⟩
theorem Uo {t : bD} {v : aK} (h : dK t v) (hv : sS 4 v) (n : Nat) (hn : Hh v + 3000 ≤ n) : gF n t = some (t.Nodes.foldl Hk []) ∧ jI n t = some (t.Nodes.foldl Hk []) := by
 have hl := h.len
 have hsz := h.size
 obtain ⟨h1, h2⟩ := My (t := t) (fun (v27 : List aP) => some v27) (by omega) (h.ok hv) t.Nodes [] n [] 0 rfl rfl (by omega) (by simp; omega)
 unfold gF jI
 rw [Jp h hv n hn, Np h hv n hn]
 exact ⟨h1, h2⟩
theorem zJ (y : List aP) (j : Unit → Option Bool) (hz : y.length ≤ 1000) : ∀ (k i n : Nat), i + k = y.length → k < n → dE y y j n (i : Int) = j ()
 | 0, i, n, hi, hn => by
  obtain ⟨n, rfl⟩ : ∃ m, n = m + 1 := ⟨n - 1, by omega⟩
  rw [dE, if_neg (by simp; omega)]
 | k + 1, i, n, hi, hn => by
  obtain ⟨n, rfl⟩ : ∃ m, n = m + 1 := ⟨n - 1, by omega⟩
  have hw : IntKind.wrap .i64 ((i : Int) + 1) = ((i + 1 : Nat) : Int) := by rw [Go.Bm.bB (by omega) (by omega)]; omega
  rw [dE, if_pos (by simp; omega), iP (by omega)]
  simp only [Option.bind_some, beq_self_eq_true, Bool.not_true, Bool.false_eq_true, if_false, hw]
  exact zJ y j hz k (i + 1) n (by omega) (by omega)
theorem vB : ∀ (l : List aR) (acc : List aP), (l.foldl Hk acc).length ≤ acc.length + l.length
 | [], acc => by simp
 | x :: l, acc => by
  have h1 := vB l (Hk acc x)
  have h2 := Mg acc x
  rw [List.foldl_cons, List.length_cons]
  omega
theorem Qt : nH 20000 = some true := by kernel_rfl
theorem Sh (n : Nat) (hn : 12000 ≤ n) (haw : nH n = some true) (l : List Int) : gA n l = some true := by
 have key : mQ (gA n l) fun r => r = true := by
  unfold gA
  refine aO (Uw n l) fun y1 h1 => aO (Sr n (by omega) h1) fun y2 ⟨⟨v, hv, hT⟩, h2⟩ => ?_
  have hf := hv.fuel4
  have hlen := hT.len
  have hsz := hT.size
  obtain ⟨f1, f2⟩ := Uo hT hv n (by omega)
  have hfl := vB y2.1.Nodes []
  have f0 : gF n (bD.mk 0 0 ([] : List aR)) = some [] := by
   obtain ⟨m, rfl⟩ : ∃ m, n = m + 10 := ⟨n - 10, by omega⟩
   kernel_rfl
  rw [f1, f2, f0, Jp hT hv n (by omega)]
  simp only [Option.bind_some, bne_self_eq_false, Bool.not_false, Dv, List.length_nil, Int.natCast_zero, Bool.or_self, Bool.false_eq_true, if_false]
  unfold aX
  refine ⟨true, (zJ _ _ (by simp at hfl; omega) _ 0 n (Nat.zero_add _) (by simp at hfl; omega)).trans (by rw [haw]; rfl), rfl⟩
 obtain ⟨r, hr, rfl⟩ := key
 exact hr
theorem Ii (l : List Int) : gA 20000 l = some true := Sh 20000 (by omega) Qt l
end Go.Proofs.YtojkihhnioeggaaGreatDoor.S
