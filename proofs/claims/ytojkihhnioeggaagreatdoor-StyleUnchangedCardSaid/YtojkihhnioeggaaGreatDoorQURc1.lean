import Derived.Test.YtojkihhnioeggaaGreatDoorQUIn1
import Derived.WalkKit
import Derived.WalkSpells
import Derived.WalkLawsBesides
import Derived.Deep.QuietTactic
import Derived.BigQuiet
import Derived.BigRegion
import Derived.Lib.Hide
import Derived.Deep.RegionWith
set_option linter.unusedSimpArgs false
set_option linter.unusedVariables false
set_option linter.unusedSimpArgs false
set_option linter.unusedVariables false
namespace Go.Proofs.YtojkihhnioeggaaGreatDoor.S
open Go Go.Bm
theorem tS : ∀ (n : Nat) (i : Int) (q : Nat), q < n → (nV i n)[q]? = some (i + q)
 | 0, _, _, h => by omega
 | n + 1, i, 0, _ => by simp [nV]
 | n + 1, i, q + 1, h => by
  rw [nV, List.getElem?_cons_succ, tS n (i + 1) q (by omega)]
  congr 1
  omega
theorem cM.ids' {t : bA} {v : aJ} (h : cM t v) : t.Nodes.map aP.ID = nV t.Root (fW v) := by rw [h.nodes, Cz]
theorem cM.nth {t : bA} {v : aJ} (h : cM t v) {q : Nat} (hq : q < fW v) : ∃ x, t.Nodes[q]? = some x ∧ x ∈ t.Nodes ∧ x.ID = t.Root + q := by
 have e : (t.Nodes.map aP.ID)[q]? = some (t.Root + q) := by rw [h.ids', tS _ _ _ hq]
 rw [List.getElem?_map] at e
 simp only [Option.map_eq_some_iff] at e
 obtain ⟨x, hx, hi⟩ := e
 exact ⟨x, hx, List.mem_of_getElem? hx, hi⟩
theorem wM {α : Type} {l : List α} {q : Nat} {x : α} (h : l[q]? = some x) : idx l (q : Int) = some x := by
 unfold idx
 rw [if_pos (by omega), Int.toNat_natCast]
 exact h
theorem cM.inj {t : bA} {v : aJ} (h : cM t v) {x y : aP} (hx : x ∈ t.Nodes) (hy : y ∈ t.Nodes) (e : x.ID = y.ID) : x = y := by
 have h1 := kP h.nodup hx
 have h2 := kP h.nodup hy
 rw [e, h2] at h1
 exact (Option.some.inj h1).symm
theorem cM.rng {t : bA} {v : aJ} (h : cM t v) {x : aP} (hx : x ∈ t.Nodes) : t.Root ≤ x.ID ∧ x.ID < t.Root + fW v := by
 have : x.ID ∈ t.Nodes.map aP.ID := List.mem_map.2 ⟨x, hx, rfl⟩
 rw [h.ids'] at this
 exact yR.1 this
theorem cM.prt {t : bA} {v : aJ} (h : cM t v) {x : aP} (hx : x ∈ t.Nodes) : (x.ID = t.Root ∧ x.Parent = 0) ∨ (t.Root < x.ID ∧ t.Root ≤ x.Parent ∧ x.Parent < x.ID) := by
 rw [h.nodes] at hx
 exact So v _ _ x hx
theorem Gu {t : bA} {v : aJ} (h : cM t v) (i : Int) (j : Unit → Option Int) : ∀ (k q n : Nat), q + k = fW v → k < n → (i < t.Root ∨ t.Root + q ≤ i) → lA t i j n (q : Int) = if t.Root ≤ i ∧ i < t.Root + fW v then some (i - t.Root) else j ()
 | 0, q, n, hq, hn, hi => by
  obtain ⟨n, rfl⟩ : ∃ m, n = m + 1 := ⟨n - 1, by omega⟩
  have hl := h.len
  rw [lA, if_neg (by simp; omega), if_neg (by omega)]
 | k + 1, q, n, hq, hn, hi => by
  obtain ⟨n, rfl⟩ : ∃ m, n = m + 1 := ⟨n - 1, by omega⟩
  have hl := h.len
  have hsz := h.size
  obtain ⟨x, hx, _, hxi⟩ := h.nth (q := q) (by omega)
  have hw : IntKind.wrap .i64 ((q : Int) + 1) = ((q + 1 : Nat) : Int) := by rw [Go.Bm.aT (by omega) (by omega)]; omega
  rw [lA, if_pos (by simp; omega), wM hx]
  simp only [Option.bind_some, hw]
  by_cases e : x.ID = i
  ·rw [if_pos (by simpa using e), if_pos (by omega)]
   congr 1
   omega
  ·rw [if_neg (by simpa using e)]
   exact Gu h i j k (q + 1) n (by omega) (by omega) (by omega)
theorem Gs {t : bA} {v : aJ} (h : cM t v) (n : Nat) (hn : 410 ≤ n) (i : Int) : mW n t i = some (if t.Root ≤ i ∧ i < t.Root + fW v then i - t.Root else -1) := by
 have hsz := h.size
 unfold mW aS
 refine (Gu h i _ (fW v) 0 n (by omega) (by omega) (by omega)).trans ?_
 split <;> rfl
theorem Sj {t : bA} {v : aJ} (h : cM t v) {x : aP} (hx : x ∈ t.Nodes) : idx t.Nodes (x.ID - t.Root) = some x := by
 have hr := h.rng hx
 obtain ⟨y, hy, hym, hyi⟩ := h.nth (q := (x.ID - t.Root).toNat) (by omega)
 have : y = x := h.inj hym hx (by omega)
 subst this
 rw [show y.ID - t.Root = (((y.ID - t.Root).toNat : Nat) : Int) by omega]
 exact wM hy
theorem zT {t : bA} {v : aJ} (h : cM t v) (n : Nat) (hn : 410 ≤ n) {x : aP} (hx : x ∈ t.Nodes) : jU n t x.ID = some x := by
 have hr := h.rng hx
 unfold jU
 rw [Gs h n hn, if_pos hr]
 simp only [Option.bind_some]
 rw [if_neg (by simp; omega), Sj h hx]
 rfl
theorem Rw {i p : Int} {v : aJ} {pre l : List aJ} {k : aJ} (hk : v.Kids = pre ++ k :: l) {x : aP} (hx : x ∈ vX (i + 1 + cI pre) i k) : x ∈ vX i p v := by
 rw [mR, hk]
 have : ∀ (pre : List aJ) (s : Int), x ∈ vX (s + cI pre) i k → x ∈ kT s i (pre ++ k :: l) := by
  intro pre
  induction pre with
  | nil => intro s hx; rw [List.nil_append, kT]; rw [cI] at hx; simp at hx; simp [hx]
  | cons v pre ih =>
   intro s hx
   rw [List.cons_append, kT]
   rw [cI] at hx
   refine List.mem_append_right _ (ih (s + fW v) ?_)
   rw [show s + (fW v : Int) + (cI pre : Int) = s + ((fW v + cI pre : Nat) : Int) by omega]
   exact hx
 exact List.mem_cons_of_mem _ (this pre (i + 1) hx)
theorem Sm {i p : Int} {v : aJ} {pre l : List aJ} {k : aJ} (ht : v.Kids = pre ++ k :: l) {q : Int} (hq : q = pre.length) : idx (hd i p v).Kids q = some (i + 1 + cI pre) := by
 refine jX (pre := rV (i + 1) pre) (l := rV (i + 1 + cI pre + fW k) l) ?_ (by rw [pR]; exact hq)
 show rV (i + 1) v.Kids = _
 rw [ht, tT, rV]
theorem Dd (i p : Int) (v : aJ) : (hd i p v).Kids.length = v.Kids.length := by show (rV _ _).length = _; rw [pR]
theorem Jl (t : bA) (self : bA → Int → List Int → Option (List Int)) (v : aJ) (i p : Int) (L0 : List Int) (j : List Int → Option (List Int)) (hz : fW v ≤ 1000) (hs : ∀ pre k l, v.Kids = pre ++ k :: l → self t (i + 1 + cI pre) (L0 ++ nV i (1 + cI pre)) = some ((L0 ++ nV i (1 + cI pre)) ++ nV (i + 1 + cI pre) (fW k))) : ∀ (l pre : List aJ) (n : Nat) (q : Int), v.Kids = pre ++ l → q = pre.length → l.length < n →
  kY (hd i p v) self t j n q (L0 ++ nV i (1 + cI pre)) = j (L0 ++ nV i (1 + cI v.Kids))
 | [], pre, n, q, ht, hq, hn => by
  obtain ⟨n, rfl⟩ : ∃ m, n = m + 1 := ⟨n - 1, by simp at hn; omega⟩
  have hlen : (hd i p v).Kids.length = pre.length := by rw [Dd, ht]; simp
  rw [kY, if_neg (by simp only [hlen]; simp; omega), ht, List.append_nil]
 | k :: l, pre, n, q, ht, hq, hn => by
  obtain ⟨n, rfl⟩ : ∃ m, n = m + 1 := ⟨n - 1, by simp at hn; omega⟩
  have hlen : (hd i p v).Kids.length = pre.length + (l.length + 1) := by rw [Dd, ht]; simp
  have hkl := oW v.Kids
  have hsz := lZ v
  have hv : cI v.Kids = cI pre + (fW k + cI l) := by rw [ht, lL, cI]
  have hpl : pre.length ≤ 1000 := by have := oW pre; omega
  have hw : IntKind.wrap .i64 (q + 1) = q + 1 := Go.Bm.aT (by omega) (by omega)
  rw [kY, if_pos (by simp only [hlen]; simp; omega), Sm ht hq]
  simp only [Option.bind_some]
  rw [hs pre k l ht]
  simp only [Option.bind_some, hw]
  have e : L0 ++ nV i (1 + cI pre) ++ nV (i + 1 + cI pre) (fW k) = L0 ++ nV i (1 + cI (pre ++ [k])) := by
   rw [lL, cI, cI, show 1 + (cI pre + (fW k + 0)) = (1 + cI pre) + fW k by omega, wH (1 + cI pre) (fW k) i, show i + ((1 + cI pre : Nat) : Int) = i + 1 + (cI pre : Int) by omega, List.append_assoc]
  rw [e]
  exact Jl t self v i p L0 j hz hs l (pre ++ [k]) n (q + 1) (by rw [ht]; simp) (by simp; omega) (by simp at hn; omega)
theorem Ix {t : bA} {v0 : aJ} (h : cM t v0) (v : aJ) : ∀ (n : Nat) (i p : Int) (L : List Int), (∀ x, x ∈ vX i p v → x ∈ t.Nodes) → Bn v + 420 ≤ n → fW v ≤ 1000 → L.length + fW v ≤ 5000 → lP n t i L = some (L ++ nV i (fW v)) := by
 induction v using kL with
 | h v ih =>
  intro n i p L hM hn hz hL
  have hfu := xT v
  have hsz := lZ v
  obtain ⟨n, rfl⟩ : ∃ m, n = m + 1 := ⟨n - 1, by omega⟩
  rw [lP, sM, tV (by simp; omega) (by decide)]
  simp only [Option.bind_some]
  have hl : jU n t i = some (hd i p v) := zT h n (by omega) (x := hd i p v) (hM (hd i p v) (by rw [mR]; simp))
  rw [hl]
  simp only [Option.bind_some]
  unfold aS
  have := Jl t (fun a0 a1 a2 => lP n a0 a1 a2) v i p L (fun v12 => some v12) hz (fun pre k l hk => by
   have hmem : k ∈ v.Kids := by rw [hk]; simp
   have hv : cI v.Kids = cI pre + (fW k + cI l) := by rw [hk, lL, cI]
   exact ih k hmem n _ i _ (fun x hx => hM x (Rw hk hx)) (by have := qG hmem; omega) (by have := sR hmem; omega) (by rw [List.length_append, kB]; omega)) v.Kids [] n 0 rfl rfl (by omega)
  rw [show nV i (1 + cI []) = [i] from rfl] at this
  exact this.trans (by rw [hsz])
theorem Eo (t : bA) (self : bA → Int → Option aJ) (v : aJ) (i p : Int) (j : List aJ → Option aJ) (hz : fW v ≤ 1000) (hs : ∀ pre k l, v.Kids = pre ++ k :: l → self t (i + 1 + cI pre) = some k) : ∀ (l pre : List aJ) (n : Nat) (q : Int), v.Kids = pre ++ l → q = pre.length → l.length < n →
  iU (hd i p v) self t j n q pre = j v.Kids
 | [], pre, n, q, ht, hq, hn => by
  obtain ⟨n, rfl⟩ : ∃ m, n = m + 1 := ⟨n - 1, by simp at hn; omega⟩
  have hlen : (hd i p v).Kids.length = pre.length := by rw [Dd, ht]; simp
  rw [iU, if_neg (by simp only [hlen]; simp; omega), ht, List.append_nil]
 | k :: l, pre, n, q, ht, hq, hn => by
  obtain ⟨n, rfl⟩ : ∃ m, n = m + 1 := ⟨n - 1, by simp at hn; omega⟩
  have hlen : (hd i p v).Kids.length = pre.length + (l.length + 1) := by rw [Dd, ht]; simp
  have hkl := oW v.Kids
  have hsz := lZ v
  have hv : cI v.Kids = cI pre + (fW k + cI l) := by rw [ht, lL, cI]
  have hpl : pre.length ≤ 1000 := by have := oW pre; omega
  have hw : IntKind.wrap .i64 (q + 1) = q + 1 := Go.Bm.aT (by omega) (by omega)
  rw [iU, if_pos (by simp only [hlen]; simp; omega), Sm ht hq]
  simp only [Option.bind_some]
  rw [hs pre k l ht]
  simp only [Option.bind_some, hw]
  rw [tV (by simp; omega) (by decide)]
  simp only [Option.bind_some]
  exact Eo t self v i p j hz hs l (pre ++ [k]) n (q + 1) (by rw [ht]; simp) (by simp; omega) (by simp at hn; omega)
theorem Lb {t : bA} {v0 : aJ} (h : cM t v0) (v : aJ) : ∀ (n : Nat) (i p : Int), (∀ x, x ∈ vX i p v → x ∈ t.Nodes) → Bn v + 420 ≤ n → fW v ≤ 1000 → lE n t i = some v := by
 induction v using kL with
 | h v ih =>
  intro n i p hM hn hz
  have hfu := xT v
  have hsz := lZ v
  obtain ⟨n, rfl⟩ : ∃ m, n = m + 1 := ⟨n - 1, by omega⟩
  rw [lE, pK]
  have hl : jU n t i = some (hd i p v) := zT h n (by omega) (x := hd i p v) (hM (hd i p v) (by rw [mR]; simp))
  rw [hl]
  simp only [Option.bind_some]
  unfold aS
  exact (Eo t (fun a0 a1 => lE n a0 a1) v i p _ hz (fun pre k l hk => by
   have hmem : k ∈ v.Kids := by rw [hk]; simp
   exact ih k hmem n _ i (fun x hx => hM x (Rw hk hx)) (by have := qG hmem; omega) (by have := sR hmem; omega)) v.Kids [] n 0 rfl rfl (by omega)).trans (by cases v; rfl)
theorem Xg {t : bA} {v : aJ} (h : cM t v) (j : Unit → Option Bool) : ∀ (k q n : Nat) (last : Int), q + k = fW v → k < n → last < t.Root + q → iP t j n last (q : Int) = j ()
 | 0, q, n, last, hq, hn, hl => by
  obtain ⟨n, rfl⟩ : ∃ m, n = m + 1 := ⟨n - 1, by omega⟩
  have hlen := h.len
  rw [iP, if_neg (by simp; omega)]
 | k + 1, q, n, last, hq, hn, hl => by
  obtain ⟨n, rfl⟩ : ∃ m, n = m + 1 := ⟨n - 1, by omega⟩
  have hlen := h.len
  have hsz := h.size
  have hnx := h.next
  obtain ⟨x, hx, _, hxi⟩ := h.nth (q := q) (by omega)
  have hw : IntKind.wrap .i64 ((q : Int) + 1) = ((q + 1 : Nat) : Int) := by rw [Go.Bm.aT (by omega) (by omega)]; omega
  have c1 : decide (x.ID ≤ last) = false := by simp; omega
  have c2 : decide (x.ID ≥ t.Next) = false := by simp; omega
  rw [iP, if_pos (by simp; omega), wM hx]
  simp only [Option.bind_some, hw, c1, Bool.not_false, Km, c2, Bool.or_self, Bool.false_eq_true, if_false]
  exact Xg h j k (q + 1) n x.ID (by omega) (by omega) (by omega)
theorem Vv (x : aP) (j : Unit → Option Bool) (y12 v56 v42 : Int) (t : bA) (hz : x.Kids.length ≤ 1000) (hd : x.Kids.Nodup) (w : Nat) (hw' : w < x.Kids.length) : ∀ (k q n : Nat), q + k = w → k < n → kM (w : Int) x j y12 v56 v42 t n (q : Int) = j ()
 | 0, q, n, hq, hn => by
  obtain ⟨n, rfl⟩ : ∃ m, n = m + 1 := ⟨n - 1, by omega⟩
  rw [kM, if_neg (by simp; omega)]
 | k + 1, q, n, hq, hn => by
  obtain ⟨n, rfl⟩ : ∃ m, n = m + 1 := ⟨n - 1, by omega⟩
  have hw : IntKind.wrap .i64 ((q : Int) + 1) = ((q + 1 : Nat) : Int) := by rw [Go.Bm.aT (by omega) (by omega)]; omega
  have hq2 : q < x.Kids.length := by omega
  have hne : (x.Kids[q] == x.Kids[w]) = false := by
   rw [beq_eq_false_iff_ne]
   exact (List.pairwise_iff_getElem.1 hd) q w hq2 hw' (by omega)
  rw [kM, if_pos (by simp; omega), dU hq2, dU hw']
  simp only [Option.bind_some, hw, hne, Bool.false_eq_true, if_false]
  exact Vv x j y12 v56 v42 t hz hd w hw' k (q + 1) n (by omega) (by omega)
theorem Wo {t : bA} {v : aJ} (h : cM t v) (x : aP) (y12 v42 : Int) (j : Int → Option Bool) (hz : x.Kids.length ≤ 500) (hd : x.Kids.Nodup) (hk : ∀ c, c ∈ x.Kids → ∃ y, y ∈ t.Nodes ∧ y.ID = c ∧ y.Parent = x.ID) : ∀ (k q n : Nat) (c : Int), q + k = x.Kids.length → k + 520 < n → 0 ≤ c → c + k ≤ 1000000 → kI x t y12 v42 j n c (q : Int) = j (c + k)
 | 0, q, n, c, hq, hn, h0, h1 => by
  obtain ⟨n, rfl⟩ : ∃ m, n = m + 1 := ⟨n - 1, by omega⟩
  rw [kI, if_neg (by simp; omega)]
  simp
 | k + 1, q, n, c, hq, hn, h0, h1 => by
  obtain ⟨n, rfl⟩ : ∃ m, n = m + 1 := ⟨n - 1, by omega⟩
  have hw : IntKind.wrap .i64 ((q : Int) + 1) = ((q + 1 : Nat) : Int) := by rw [Go.Bm.aT (by omega) (by omega)]; omega
  have hwc : IntKind.wrap .i64 (c + 1) = c + 1 := Go.Bm.aT (by omega) (by omega)
  have hq2 : q < x.Kids.length := by omega
  obtain ⟨y, hy, hyi, hyp⟩ := hk x.Kids[q] (List.getElem_mem hq2)
  have hr := h.rng hy
  have hsz := h.size
  rw [kI, if_pos (by simp; omega)]
  unfold aS
  rw [dU hq2]
  simp only [Option.bind_some]
  rw [← hyi, Gs h n (by omega), if_pos hr]
  have c1 : decide (y.ID - t.Root < 0) = false := by simp; omega
  simp only [Option.bind_some, c1, Bool.not_false, Km, Sj h hy, hyp, bne_self_eq_false, Bool.or_self, Bool.false_eq_true, if_false, hw, hwc]
  rw [show (0 : Int) = ((0 : Nat) : Int) from rfl, Vv x _ y12 c v42 t (by omega) hd q hq2 q 0 n (by omega) (by omega)]
  rw [Wo h x y12 v42 j hz hd hk k (q + 1) n (c + 1) (by omega) (by omega) (by omega) (by omega)]
  congr 1
  omega
theorem Xf {t : bA} {v : aJ} (h : cM t v) (j : Int → Option Bool) : ∀ (l pre : List aP) (n : Nat) (c q : Int), t.Nodes = pre ++ l → q = pre.length → c = (pre.flatMap aP.Kids).length → l.length + 1000 < n → iM t 0 j n c q = j ((t.Nodes.flatMap aP.Kids).length : Int)
 | [], pre, n, c, q, ht, hq, hc, hn => by
  obtain ⟨n, rfl⟩ : ∃ m, n = m + 1 := ⟨n - 1, by simp at hn; omega⟩
  have hlen : t.Nodes.length = pre.length := by rw [ht]; simp
  rw [iM, if_neg (by simp; omega), hc, ht, List.append_nil]
 | x :: l, pre, n, c, q, ht, hq, hc, hn => by
  obtain ⟨n, rfl⟩ : ∃ m, n = m + 1 := ⟨n - 1, by simp at hn; omega⟩
  have hlen : t.Nodes.length = pre.length + (l.length + 1) := by rw [ht]; simp
  have hl := h.len
  have hsz := h.size
  have hroot := h.root
  have hw : IntKind.wrap .i64 (q + 1) = q + 1 := Go.Bm.aT (by omega) (by omega)
  obtain ⟨k1, k2, k3⟩ := Ov v t.Root 0
  rw [← h.nodes] at k1 k2 k3
  have hx : x ∈ t.Nodes := by rw [ht]; simp
  have e1 : t.Nodes.flatMap aP.Kids = pre.flatMap aP.Kids ++ (x.Kids ++ l.flatMap aP.Kids) := by rw [ht, List.flatMap_append, List.flatMap_cons]
  rw [e1] at k1 k3
  have hd : x.Kids.Nodup := (List.nodup_append.1 (List.nodup_append.1 k1).2.1).1
  have hkl : x.Kids.length + 1 ≤ fW v ∧ (pre.flatMap aP.Kids).length + x.Kids.length + 1 ≤ fW v := by simp only [List.length_append] at k3; omega
  have hid : x.ID = t.Root + pre.length := by
   obtain ⟨y, hy, _, hyi⟩ := h.nth (q := pre.length) (by omega)
   rw [ht, List.getElem?_append_right (Nat.le_refl _), Nat.sub_self, List.getElem?_cons_zero] at hy
   rw [Option.some.inj hy]; exact hyi
  have hpar : (x.Parent == 0) = (q == 0) := by
   rw [Bool.eq_iff_iff, beq_iff_eq, beq_iff_eq]
   have := h.prt hx
   omega
  have c2 : decide ((x.Kids.length : Int) > (t.Nodes.length : Int)) = false := by simp; omega
  rw [iM, if_pos (by simp; omega)]
  unfold aS
  rw [jX ht hq]
  simp only [Option.bind_some, hpar, bne_self_eq_false, Bool.false_eq_true, if_false, c2, hw]
  refine (Wo h x 0 q _ (by omega) hd (fun y hy => by
   rw [h.nodes] at hx ⊢
   exact Rc v _ _ x y hx hy) x.Kids.length 0 n c (by omega) (by omega) (by omega) (by omega)).trans ?_
  exact Xf h j l (pre ++ [x]) n _ (q + 1) (by rw [ht]; simp) (by simp; omega) (by rw [List.flatMap_append, List.length_append, hc]; simp) (by simp at hn; omega)
theorem Ih {t : bA} {v : aJ} (h : cM t v) (hv : nZ 4 v) (n : Nat) (hn : Bn v + 3000 ≤ n) : qZ n t = some 0 := by
 have hl := h.len
 have hsz := h.size
 have hroot := h.root
 have hnx := h.next
 have hp := tY v
 unfold qZ zB
 have c : ((((decide (t.Next < 2)) || (decide (t.Next > 1099511627776))) || (decide ((List.length t.Nodes : Int) < 1))) || (decide ((List.length t.Nodes : Int) > 400))) = false := by
  simp only [Bool.or_eq_false_iff, decide_eq_false_iff_not]
  omega
 have hs : (if ((((decide (t.Next < 2)) || (decide (t.Next > 1099511627776))) || (decide ((List.length t.Nodes : Int) < 1))) || (decide ((List.length t.Nodes : Int) > 400))) = true then some false else (aS (fun (_ : Unit) => (mW n t t.Root).bind fun (y12 : Int) => (if (decide (y12 < 0)) = true then some false else (aS (fun (v74 : Int) => (if (v74 != (IntKind.wrap .i64 ((List.length t.Nodes : Int) - 1))) = true then some false else (lP n t t.Root ([] : List Int)).bind fun (y75 : (List Int)) => some ((List.length y75 : Int) == (List.length t.Nodes : Int)))) (fun (j13 : Int → Option Bool) => iM t y12 j13 n 0 0)))) (fun (j1 : Unit → Option Bool) => iP t j1 n 0 0))) = some true := by
  rw [c]
  simp only [Bool.false_eq_true, if_false]
  unfold aS
  refine (Xg h _ (fW v) 0 n 0 (by omega) (by omega) (by omega)).trans ?_
  rw [Gs h n (by omega), if_pos (by omega)]
  simp only [Option.bind_some, Int.sub_self]
  rw [if_neg (by simp)]
  refine (Xf h _ t.Nodes [] n 0 0 rfl rfl rfl (by omega)).trans ?_
  obtain ⟨k1, k2, k3⟩ := Ov v t.Root 0
  rw [← h.nodes] at k1 k2 k3
  have hw : IntKind.wrap .i64 ((List.length t.Nodes : Int) - 1) = ((t.Nodes.flatMap aP.Kids).length : Int) := by rw [Go.Bm.aT (by omega) (by omega)]; omega
  rw [hw, bne_self_eq_false]
  simp only [Bool.false_eq_true, if_false]
  rw [Ix h v n t.Root 0 [] (fun x hx => by rw [h.nodes]; exact hx) (by omega) (by omega) (by simp; omega)]
  simp only [Option.bind_some, List.nil_append, kB, hl, beq_self_eq_true]
 rw [hs]
 simp only [Option.bind_some, Bool.not_true, Bool.false_eq_true, if_false]
 rw [Lb h v n t.Root 0 (fun x hx => by rw [h.nodes]; exact hx) (by omega) (by omega)]
 simp only [Option.bind_some]
 rw [Bh hv n (by omega)]
 rfl
end Go.Proofs.YtojkihhnioeggaaGreatDoor.S
