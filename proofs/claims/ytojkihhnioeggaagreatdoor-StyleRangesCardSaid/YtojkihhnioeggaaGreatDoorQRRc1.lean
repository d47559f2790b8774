import Derived.Test.YtojkihhnioeggaaGreatDoorQRIn1
import Derived.WalkKit
import Derived.WalkSpells
import Derived.WalkLawsBesides
import Derived.Deep.QuietTactic
import Derived.BigQuiet
import Derived.BigRegion
import Derived.Lib.Hide
import Derived.Deep.RegionWith
set_option linter.unusedSimpArgs false
set_option linter.unusedVariables false
set_option linter.unusedSimpArgs false
set_option linter.unusedVariables false
namespace Go.Proofs.YtojkihhnioeggaaGreatDoor.S
open Go Go.Bm
theorem vQ : ∀ (n : Nat) (i : Int) (q : Nat), q < n → (oC i n)[q]? = some (i + q)
 | 0, _, _, h => by omega
 | n + 1, i, 0, _ => by simp [oC]
 | n + 1, i, q + 1, h => by
  rw [oC, List.getElem?_cons_succ, vQ n (i + 1) q (by omega)]
  congr 1
  omega
theorem cT.ids' {t : bA} {v : aG} (h : cT t v) : t.Nodes.map aP.ID = oC t.Root (gD v) := by rw [h.nodes, Cj]
theorem cT.nth {t : bA} {v : aG} (h : cT t v) {q : Nat} (hq : q < gD v) : ∃ x, t.Nodes[q]? = some x ∧ x ∈ t.Nodes ∧ x.ID = t.Root + q := by
 have e : (t.Nodes.map aP.ID)[q]? = some (t.Root + q) := by rw [h.ids', vQ _ _ _ hq]
 rw [List.getElem?_map] at e
 simp only [Option.map_eq_some_iff] at e
 obtain ⟨x, hx, hi⟩ := e
 exact ⟨x, hx, List.mem_of_getElem? hx, hi⟩
theorem yN {α : Type} {l : List α} {q : Nat} {x : α} (h : l[q]? = some x) : idx l (q : Int) = some x := by
 unfold idx
 rw [if_pos (by omega), Int.toNat_natCast]
 exact h
theorem cT.inj {t : bA} {v : aG} (h : cT t v) {x y : aP} (hx : x ∈ t.Nodes) (hy : y ∈ t.Nodes) (e : x.ID = y.ID) : x = y := by
 have h1 := mQ h.nodup hx
 have h2 := mQ h.nodup hy
 rw [e, h2] at h1
 exact (Option.some.inj h1).symm
theorem cT.rng {t : bA} {v : aG} (h : cT t v) {x : aP} (hx : x ∈ t.Nodes) : t.Root ≤ x.ID ∧ x.ID < t.Root + gD v := by
 have : x.ID ∈ t.Nodes.map aP.ID := List.mem_map.2 ⟨x, hx, rfl⟩
 rw [h.ids'] at this
 exact xZ.1 this
theorem cT.prt {t : bA} {v : aG} (h : cT t v) {x : aP} (hx : x ∈ t.Nodes) : (x.ID = t.Root ∧ x.Parent = 0) ∨ (t.Root < x.ID ∧ t.Root ≤ x.Parent ∧ x.Parent < x.ID) := by
 rw [h.nodes] at hx
 exact Rm v _ _ x hx
theorem Fs {t : bA} {v : aG} (h : cT t v) (i : Int) (j : Unit → Option Int) : ∀ (k q n : Nat), q + k = gD v → k < n → (i < t.Root ∨ t.Root + q ≤ i) → kW t i j n (q : Int) = if t.Root ≤ i ∧ i < t.Root + gD v then some (i - t.Root) else j ()
 | 0, q, n, hq, hn, hi => by
  obtain ⟨n, rfl⟩ : ∃ m, n = m + 1 := ⟨n - 1, by omega⟩
  have hl := h.len
  rw [kW, if_neg (by simp; omega), if_neg (by omega)]
 | k + 1, q, n, hq, hn, hi => by
  obtain ⟨n, rfl⟩ : ∃ m, n = m + 1 := ⟨n - 1, by omega⟩
  have hl := h.len
  have hsz := h.size
  obtain ⟨x, hx, _, hxi⟩ := h.nth (q := q) (by omega)
  have hw : IntKind.wrap .i64 ((q : Int) + 1) = ((q + 1 : Nat) : Int) := by rw [Go.Bm.aS (by omega) (by omega)]; omega
  rw [kW, if_pos (by simp; omega), yN hx]
  simp only [Option.bind_some, hw]
  by_cases e : x.ID = i
  ·rw [if_pos (by simpa using e), if_pos (by omega)]
   congr 1
   omega
  ·rw [if_neg (by simpa using e)]
   exact Fs h i j k (q + 1) n (by omega) (by omega) (by omega)
theorem Fq {t : bA} {v : aG} (h : cT t v) (n : Nat) (hn : 410 ≤ n) (i : Int) : mR n t i = some (if t.Root ≤ i ∧ i < t.Root + gD v then i - t.Root else -1) := by
 have hsz := h.size
 unfold mR aR
 refine (Fs h i _ (gD v) 0 n (by omega) (by omega) (by omega)).trans ?_
 split <;> rfl
theorem Rg {t : bA} {v : aG} (h : cT t v) {x : aP} (hx : x ∈ t.Nodes) : idx t.Nodes (x.ID - t.Root) = some x := by
 have hr := h.rng hx
 obtain ⟨y, hy, hym, hyi⟩ := h.nth (q := (x.ID - t.Root).toNat) (by omega)
 have : y = x := h.inj hym hx (by omega)
 subst this
 rw [show y.ID - t.Root = (((y.ID - t.Root).toNat : Nat) : Int) by omega]
 exact yN hy
theorem yX {t : bA} {v : aG} (h : cT t v) (n : Nat) (hn : 410 ≤ n) {x : aP} (hx : x ∈ t.Nodes) : jN n t x.ID = some x := by
 have hr := h.rng hx
 unfold jN
 rw [Fq h n hn, if_pos hr]
 simp only [Option.bind_some]
 rw [if_neg (by simp; omega), Rg h hx]
 rfl
theorem Qu {i p : Int} {v : aG} {pre l : List aG} {k : aG} (hk : v.Kids = pre ++ k :: l) {x : aP} (hx : x ∈ vK (i + 1 + cA pre) i k) : x ∈ vK i p v := by
 rw [mM, hk]
 have : ∀ (pre : List aG) (s : Int), x ∈ vK (s + cA pre) i k → x ∈ kO s i (pre ++ k :: l) := by
  intro pre
  induction pre with
  | nil => intro s hx; rw [List.nil_append, kO]; rw [cA] at hx; simp at hx; simp [hx]
  | cons v pre ih =>
   intro s hx
   rw [List.cons_append, kO]
   rw [cA] at hx
   refine List.mem_append_right _ (ih (s + gD v) ?_)
   rw [show s + (gD v : Int) + (cA pre : Int) = s + ((gD v + cA pre : Nat) : Int) by omega]
   exact hx
 exact List.mem_cons_of_mem _ (this pre (i + 1) hx)
theorem Rj {i p : Int} {v : aG} {pre l : List aG} {k : aG} (ht : v.Kids = pre ++ k :: l) {q : Int} (hq : q = pre.length) : idx (hd i p v).Kids q = some (i + 1 + cA pre) := by
 refine jQ (pre := rN (i + 1) pre) (l := rN (i + 1 + cA pre + gD k) l) ?_ (by rw [pL]; exact hq)
 show rN (i + 1) v.Kids = _
 rw [ht, tE, rN]
theorem Cn (i p : Int) (v : aG) : (hd i p v).Kids.length = v.Kids.length := by show (rN _ _).length = _; rw [pL]
theorem Im (t : bA) (self : bA → Int → List Int → Option (List Int)) (v : aG) (i p : Int) (L0 : List Int) (j : List Int → Option (List Int)) (hz : gD v ≤ 1000) (hs : ∀ pre k l, v.Kids = pre ++ k :: l → self t (i + 1 + cA pre) (L0 ++ oC i (1 + cA pre)) = some ((L0 ++ oC i (1 + cA pre)) ++ oC (i + 1 + cA pre) (gD k))) : ∀ (l pre : List aG) (n : Nat) (q : Int), v.Kids = pre ++ l → q = pre.length → l.length < n →
  kU (hd i p v) self t j n q (L0 ++ oC i (1 + cA pre)) = j (L0 ++ oC i (1 + cA v.Kids))
 | [], pre, n, q, ht, hq, hn => by
  obtain ⟨n, rfl⟩ : ∃ m, n = m + 1 := ⟨n - 1, by simp at hn; omega⟩
  have hlen : (hd i p v).Kids.length = pre.length := by rw [Cn, ht]; simp
  rw [kU, if_neg (by simp only [hlen]; simp; omega), ht, List.append_nil]
 | k :: l, pre, n, q, ht, hq, hn => by
  obtain ⟨n, rfl⟩ : ∃ m, n = m + 1 := ⟨n - 1, by simp at hn; omega⟩
  have hlen : (hd i p v).Kids.length = pre.length + (l.length + 1) := by rw [Cn, ht]; simp
  have hkl := oO v.Kids
  have hsz := lV v
  have hv : cA v.Kids = cA pre + (gD k + cA l) := by rw [ht, lI, cA]
  have hpl : pre.length ≤ 1000 := by have := oO pre; omega
  have hw : IntKind.wrap .i64 (q + 1) = q + 1 := Go.Bm.aS (by omega) (by omega)
  rw [kU, if_pos (by simp only [hlen]; simp; omega), Rj ht hq]
  simp only [Option.bind_some]
  rw [hs pre k l ht]
  simp only [Option.bind_some, hw]
  have e : L0 ++ oC i (1 + cA pre) ++ oC (i + 1 + cA pre) (gD k) = L0 ++ oC i (1 + cA (pre ++ [k])) := by
   rw [lI, cA, cA, show 1 + (cA pre + (gD k + 0)) = (1 + cA pre) + gD k by omega, vU (1 + cA pre) (gD k) i, show i + ((1 + cA pre : Nat) : Int) = i + 1 + (cA pre : Int) by omega, List.append_assoc]
  rw [e]
  exact Im t self v i p L0 j hz hs l (pre ++ [k]) n (q + 1) (by rw [ht]; simp) (by simp; omega) (by simp at hn; omega)
theorem Hx {t : bA} {v0 : aG} (h : cT t v0) (v : aG) : ∀ (n : Nat) (i p : Int) (L : List Int), (∀ x, x ∈ vK i p v → x ∈ t.Nodes) → Fy v + 420 ≤ n → gD v ≤ 1000 → L.length + gD v ≤ 5000 → lL n t i L = some (L ++ oC i (gD v)) := by
 induction v using kD with
 | h v ih =>
  intro n i p L hM hn hz hL
  have hfu := xB v
  have hsz := lV v
  obtain ⟨n, rfl⟩ : ∃ m, n = m + 1 := ⟨n - 1, by omega⟩
  rw [lL, sC, wX (by simp; omega) (by decide)]
  simp only [Option.bind_some]
  have hl : jN n t i = some (hd i p v) := yX h n (by omega) (x := hd i p v) (hM (hd i p v) (by rw [mM]; simp))
  rw [hl]
  simp only [Option.bind_some]
  unfold aR
  have := Im t (fun a0 a1 a2 => lL n a0 a1 a2) v i p L (fun v12 => some v12) hz (fun pre k l hk => by
   have hmem : k ∈ v.Kids := by rw [hk]; simp
   have hv : cA v.Kids = cA pre + (gD k + cA l) := by rw [hk, lI, cA]
   exact ih k hmem n _ i _ (fun x hx => hM x (Qu hk hx)) (by have := qA hmem; omega) (by have := sJ hmem; omega) (by rw [List.length_append, lR]; omega)) v.Kids [] n 0 rfl rfl (by omega)
  rw [show oC i (1 + cA []) = [i] from rfl] at this
  exact this.trans (by rw [hsz])
theorem Dw (t : bA) (self : bA → Int → Option aG) (v : aG) (i p : Int) (j : List aG → Option aG) (hz : gD v ≤ 1000) (hs : ∀ pre k l, v.Kids = pre ++ k :: l → self t (i + 1 + cA pre) = some k) : ∀ (l pre : List aG) (n : Nat) (q : Int), v.Kids = pre ++ l → q = pre.length → l.length < n →
  iR (hd i p v) self t j n q pre = j v.Kids
 | [], pre, n, q, ht, hq, hn => by
  obtain ⟨n, rfl⟩ : ∃ m, n = m + 1 := ⟨n - 1, by simp at hn; omega⟩
  have hlen : (hd i p v).Kids.length = pre.length := by rw [Cn, ht]; simp
  rw [iR, if_neg (by simp only [hlen]; simp; omega), ht, List.append_nil]
 | k :: l, pre, n, q, ht, hq, hn => by
  obtain ⟨n, rfl⟩ : ∃ m, n = m + 1 := ⟨n - 1, by simp at hn; omega⟩
  have hlen : (hd i p v).Kids.length = pre.length + (l.length + 1) := by rw [Cn, ht]; simp
  have hkl := oO v.Kids
  have hsz := lV v
  have hv : cA v.Kids = cA pre + (gD k + cA l) := by rw [ht, lI, cA]
  have hpl : pre.length ≤ 1000 := by have := oO pre; omega
  have hw : IntKind.wrap .i64 (q + 1) = q + 1 := Go.Bm.aS (by omega) (by omega)
  rw [iR, if_pos (by simp only [hlen]; simp; omega), Rj ht hq]
  simp only [Option.bind_some]
  rw [hs pre k l ht]
  simp only [Option.bind_some, hw]
  rw [wX (by simp; omega) (by decide)]
  simp only [Option.bind_some]
  exact Dw t self v i p j hz hs l (pre ++ [k]) n (q + 1) (by rw [ht]; simp) (by simp; omega) (by simp at hn; omega)
theorem Ki {t : bA} {v0 : aG} (h : cT t v0) (v : aG) : ∀ (n : Nat) (i p : Int), (∀ x, x ∈ vK i p v → x ∈ t.Nodes) → Fy v + 420 ≤ n → gD v ≤ 1000 → lB n t i = some v := by
 induction v using kD with
 | h v ih =>
  intro n i p hM hn hz
  have hfu := xB v
  have hsz := lV v
  obtain ⟨n, rfl⟩ : ∃ m, n = m + 1 := ⟨n - 1, by omega⟩
  rw [lB, pF]
  have hl : jN n t i = some (hd i p v) := yX h n (by omega) (x := hd i p v) (hM (hd i p v) (by rw [mM]; simp))
  rw [hl]
  simp only [Option.bind_some]
  unfold aR
  exact (Dw t (fun a0 a1 => lB n a0 a1) v i p _ hz (fun pre k l hk => by
   have hmem : k ∈ v.Kids := by rw [hk]; simp
   exact ih k hmem n _ i (fun x hx => hM x (Qu hk hx)) (by have := qA hmem; omega) (by have := sJ hmem; omega)) v.Kids [] n 0 rfl rfl (by omega)).trans (by cases v; rfl)
theorem We {t : bA} {v : aG} (h : cT t v) (j : Unit → Option Bool) : ∀ (k q n : Nat) (last : Int), q + k = gD v → k < n → last < t.Root + q → iL t j n last (q : Int) = j ()
 | 0, q, n, last, hq, hn, hl => by
  obtain ⟨n, rfl⟩ : ∃ m, n = m + 1 := ⟨n - 1, by omega⟩
  have hlen := h.len
  rw [iL, if_neg (by simp; omega)]
 | k + 1, q, n, last, hq, hn, hl => by
  obtain ⟨n, rfl⟩ : ∃ m, n = m + 1 := ⟨n - 1, by omega⟩
  have hlen := h.len
  have hsz := h.size
  have hnx := h.next
  obtain ⟨x, hx, _, hxi⟩ := h.nth (q := q) (by omega)
  have hw : IntKind.wrap .i64 ((q : Int) + 1) = ((q + 1 : Nat) : Int) := by rw [Go.Bm.aS (by omega) (by omega)]; omega
  have c1 : decide (x.ID ≤ last) = false := by simp; omega
  have c2 : decide (x.ID ≥ t.Next) = false := by simp; omega
  rw [iL, if_pos (by simp; omega), yN hx]
  simp only [Option.bind_some, hw, c1, Bool.not_false, Js, c2, Bool.or_self, Bool.false_eq_true, if_false]
  exact We h j k (q + 1) n x.ID (by omega) (by omega) (by omega)
theorem Uw (x : aP) (j : Unit → Option Bool) (y12 v56 v42 : Int) (t : bA) (hz : x.Kids.length ≤ 1000) (hd : x.Kids.Nodup) (w : Nat) (hw' : w < x.Kids.length) : ∀ (k q n : Nat), q + k = w → k < n → kF (w : Int) x j y12 v56 v42 t n (q : Int) = j ()
 | 0, q, n, hq, hn => by
  obtain ⟨n, rfl⟩ : ∃ m, n = m + 1 := ⟨n - 1, by omega⟩
  rw [kF, if_neg (by simp; omega)]
 | k + 1, q, n, hq, hn => by
  obtain ⟨n, rfl⟩ : ∃ m, n = m + 1 := ⟨n - 1, by omega⟩
  have hw : IntKind.wrap .i64 ((q : Int) + 1) = ((q + 1 : Nat) : Int) := by rw [Go.Bm.aS (by omega) (by omega)]; omega
  have hq2 : q < x.Kids.length := by omega
  have hne : (x.Kids[q] == x.Kids[w]) = false := by
   rw [beq_eq_false_iff_ne]
   exact (List.pairwise_iff_getElem.1 hd) q w hq2 hw' (by omega)
  rw [kF, if_pos (by simp; omega), dS hq2, dS hw']
  simp only [Option.bind_some, hw, hne, Bool.false_eq_true, if_false]
  exact Uw x j y12 v56 v42 t hz hd w hw' k (q + 1) n (by omega) (by omega)
theorem Vn {t : bA} {v : aG} (h : cT t v) (x : aP) (y12 v42 : Int) (j : Int → Option Bool) (hz : x.Kids.length ≤ 500) (hd : x.Kids.Nodup) (hk : ∀ c, c ∈ x.Kids → ∃ y, y ∈ t.Nodes ∧ y.ID = c ∧ y.Parent = x.ID) : ∀ (k q n : Nat) (c : Int), q + k = x.Kids.length → k + 520 < n → 0 ≤ c → c + k ≤ 1000000 → kA x t y12 v42 j n c (q : Int) = j (c + k)
 | 0, q, n, c, hq, hn, h0, h1 => by
  obtain ⟨n, rfl⟩ : ∃ m, n = m + 1 := ⟨n - 1, by omega⟩
  rw [kA, if_neg (by simp; omega)]
  simp
 | k + 1, q, n, c, hq, hn, h0, h1 => by
  obtain ⟨n, rfl⟩ : ∃ m, n = m + 1 := ⟨n - 1, by omega⟩
  have hw : IntKind.wrap .i64 ((q : Int) + 1) = ((q + 1 : Nat) : Int) := by rw [Go.Bm.aS (by omega) (by omega)]; omega
  have hwc : IntKind.wrap .i64 (c + 1) = c + 1 := Go.Bm.aS (by omega) (by omega)
  have hq2 : q < x.Kids.length := by omega
  obtain ⟨y, hy, hyi, hyp⟩ := hk x.Kids[q] (List.getElem_mem hq2)
  have hr := h.rng hy
  have hsz := h.size
  rw [kA, if_pos (by simp; omega)]
  unfold aR
  rw [dS hq2]
  simp only [Option.bind_some]
  rw [← hyi, Fq h n (by omega), if_pos hr]
  have c1 : decide (y.ID - t.Root < 0) = false := by simp; omega
  simp only [Option.bind_some, c1, Bool.not_false, Js, Rg h hy, hyp, bne_self_eq_false, Bool.or_self, Bool.false_eq_true, if_false, hw, hwc]
  rw [show (0 : Int) = ((0 : Nat) : Int) from rfl, Uw x _ y12 c v42 t (by omega) hd q hq2 q 0 n (by omega) (by omega)]
  rw [Vn h x y12 v42 j hz hd hk k (q + 1) n (c + 1) (by omega) (by omega) (by omega) (by omega)]
  congr 1
  omega
theorem Wd {t : bA} {v : aG} (h : cT t v) (j : Int → Option Bool) : ∀ (l pre : List aP) (n : Nat) (c q : Int), t.Nodes = pre ++ l → q = pre.length → c = (pre.flatMap aP.Kids).length → l.length + 1000 < n → iI t 0 j n c q = j ((t.Nodes.flatMap aP.Kids).length : Int)
 | [], pre, n, c, q, ht, hq, hc, hn => by
  obtain ⟨n, rfl⟩ : ∃ m, n = m + 1 := ⟨n - 1, by simp at hn; omega⟩
  have hlen : t.Nodes.length = pre.length := by rw [ht]; simp
  rw [iI, if_neg (by simp; omega), hc, ht, List.append_nil]
 | x :: l, pre, n, c, q, ht, hq, hc, hn => by
  obtain ⟨n, rfl⟩ : ∃ m, n = m + 1 := ⟨n - 1, by simp at hn; omega⟩
  have hlen : t.Nodes.length = pre.length + (l.length + 1) := by rw [ht]; simp
  have hl := h.len
  have hsz := h.size
  have hroot := h.root
  have hw : IntKind.wrap .i64 (q + 1) = q + 1 := Go.Bm.aS (by omega) (by omega)
  obtain ⟨k1, k2, k3⟩ := Nv v t.Root 0
  rw [← h.nodes] at k1 k2 k3
  have hx : x ∈ t.Nodes := by rw [ht]; simp
  have e1 : t.Nodes.flatMap aP.Kids = pre.flatMap aP.Kids ++ (x.Kids ++ l.flatMap aP.Kids) := by rw [ht, List.flatMap_append, List.flatMap_cons]
  rw [e1] at k1 k3
  have hd : x.Kids.Nodup := (List.nodup_append.1 (List.nodup_append.1 k1).2.1).1
  have hkl : x.Kids.length + 1 ≤ gD v ∧ (pre.flatMap aP.Kids).length + x.Kids.length + 1 ≤ gD v := by simp only [List.length_append] at k3; omega
  have hid : x.ID = t.Root + pre.length := by
   obtain ⟨y, hy, _, hyi⟩ := h.nth (q := pre.length) (by omega)
   rw [ht, List.getElem?_append_right (Nat.le_refl _), Nat.sub_self, List.getElem?_cons_zero] at hy
   rw [Option.some.inj hy]; exact hyi
  have hpar : (x.Parent == 0) = (q == 0) := by
   rw [Bool.eq_iff_iff, beq_iff_eq, beq_iff_eq]
   have := h.prt hx
   omega
  have c2 : decide ((x.Kids.length : Int) > (t.Nodes.length : Int)) = false := by simp; omega
  rw [iI, if_pos (by simp; omega)]
  unfold aR
  rw [jQ ht hq]
  simp only [Option.bind_some, hpar, bne_self_eq_false, Bool.false_eq_true, if_false, c2, hw]
  refine (Vn h x 0 q _ (by omega) hd (fun y hy => by
   rw [h.nodes] at hx ⊢
   exact Qc v _ _ x y hx hy) x.Kids.length 0 n c (by omega) (by omega) (by omega) (by omega)).trans ?_
  exact Wd h j l (pre ++ [x]) n _ (q + 1) (by rw [ht]; simp) (by simp; omega) (by rw [List.flatMap_append, List.length_append, hc]; simp) (by simp at hn; omega)
theorem Hi {t : bA} {v : aG} (h : cT t v) (hv : oT 4 v) (n : Nat) (hn : Fy v + 3000 ≤ n) : qS n t = some 0 := by
 have hl := h.len
 have hsz := h.size
 have hroot := h.root
 have hnx := h.next
 have hp := tJ v
 unfold qS yI
 have c : ((((decide (t.Next < 2)) || (decide (t.Next > 1099511627776))) || (decide ((List.length t.Nodes : Int) < 1))) || (decide ((List.length t.Nodes : Int) > 400))) = false := by
  simp only [Bool.or_eq_false_iff, decide_eq_false_iff_not]
  omega
 have hs : (if ((((decide (t.Next < 2)) || (decide (t.Next > 1099511627776))) || (decide ((List.length t.Nodes : Int) < 1))) || (decide ((List.length t.Nodes : Int) > 400))) = true then some false else (aR (fun (_ : Unit) => (mR n t t.Root).bind fun (y12 : Int) => (if (decide (y12 < 0)) = true then some false else (aR (fun (v74 : Int) => (if (v74 != (IntKind.wrap .i64 ((List.length t.Nodes : Int) - 1))) = true then some false else (lL n t t.Root ([] : List Int)).bind fun (y75 : (List Int)) => some ((List.length y75 : Int) == (List.length t.Nodes : Int)))) (fun (j13 : Int → Option Bool) => iI t y12 j13 n 0 0)))) (fun (j1 : Unit → Option Bool) => iL t j1 n 0 0))) = some true := by
  rw [c]
  simp only [Bool.false_eq_true, if_false]
  unfold aR
  refine (We h _ (gD v) 0 n 0 (by omega) (by omega) (by omega)).trans ?_
  rw [Fq h n (by omega), if_pos (by omega)]
  simp only [Option.bind_some, Int.sub_self]
  rw [if_neg (by simp)]
  refine (Wd h _ t.Nodes [] n 0 0 rfl rfl rfl (by omega)).trans ?_
  obtain ⟨k1, k2, k3⟩ := Nv v t.Root 0
  rw [← h.nodes] at k1 k2 k3
  have hw : IntKind.wrap .i64 ((List.length t.Nodes : Int) - 1) = ((t.Nodes.flatMap aP.Kids).length : Int) := by rw [Go.Bm.aS (by omega) (by omega)]; omega
  rw [hw, bne_self_eq_false]
  simp only [Bool.false_eq_true, if_false]
  rw [Hx h v n t.Root 0 [] (fun x hx => by rw [h.nodes]; exact hx) (by omega) (by omega) (by simp; omega)]
  simp only [Option.bind_some, List.nil_append, lR, hl, beq_self_eq_true]
 rw [hs]
 simp only [Option.bind_some, Bool.not_true, Bool.false_eq_true, if_false]
 rw [Ki h v n t.Root 0 (fun x hx => by rw [h.nodes]; exact hx) (by omega) (by omega)]
 simp only [Option.bind_some]
 rw [Ao hv n (by omega)]
 rfl
end Go.Proofs.YtojkihhnioeggaaGreatDoor.S
