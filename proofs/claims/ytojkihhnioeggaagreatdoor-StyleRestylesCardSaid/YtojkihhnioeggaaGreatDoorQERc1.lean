import Derived.Test.YtojkihhnioeggaaGreatDoorQEIn1
import Derived.WalkLawsBesides
import Derived.Deep.QuietTactic
import Derived.BigQuiet
import Derived.BigRegion
import Derived.Lib.Hide
import Derived.Deep.RegionWith
set_option linter.unusedSimpArgs false
set_option linter.all false
set_option linter.unusedVariables false
namespace Go.Proofs.YtojkihhnioeggaaGreatDoor.S
open Go Go.Bm
theorem tJ : ∀ (n : Nat) (i : Int) (q : Nat), q < n → (oV i n)[q]? = some (i + q)
 | 0, _, _, h => by omega
 | n + 1, i, 0, _ => by simp [oV]
 | n + 1, i, q + 1, h => by
  rw [oV, List.getElem?_cons_succ, tJ n (i + 1) q (by omega)]
  congr 1
  omega
theorem cR.ids' {t : bA} {v : aN} (h : cR t v) : t.Nodes.map aU.ID = oV t.Root (eU v) := by rw [h.nodes, Gb]
theorem cR.nth {t : bA} {v : aN} (h : cR t v) {q : Nat} (hq : q < eU v) : ∃ x, t.Nodes[q]? = some x ∧ x ∈ t.Nodes ∧ x.ID = t.Root + q := by
 have e : (t.Nodes.map aU.ID)[q]? = some (t.Root + q) := by rw [h.ids', tJ _ _ _ hq]
 rw [List.getElem?_map] at e
 simp only [Option.map_eq_some_iff] at e
 obtain ⟨x, hx, hi⟩ := e
 exact ⟨x, hx, List.mem_of_getElem? hx, hi⟩
theorem vW {α : Type} {l : List α} {q : Nat} {x : α} (h : l[q]? = some x) : idx l (q : Int) = some x := by
 unfold idx
 rw [if_pos (by omega), Int.toNat_natCast]
 exact h
theorem cR.inj {t : bA} {v : aN} (h : cR t v) {x y : aU} (hx : x ∈ t.Nodes) (hy : y ∈ t.Nodes) (e : x.ID = y.ID) : x = y := by
 have h1 := lW h.nodup hx
 have h2 := lW h.nodup hy
 rw [e, h2] at h1
 exact (Option.some.inj h1).symm
theorem cR.rng {t : bA} {v : aN} (h : cR t v) {x : aU} (hx : x ∈ t.Nodes) : t.Root ≤ x.ID ∧ x.ID < t.Root + eU v := by
 have : x.ID ∈ t.Nodes.map aU.ID := List.mem_map.2 ⟨x, hx, rfl⟩
 rw [h.ids'] at this
 exact Bd.1 this
theorem cR.prt {t : bA} {v : aN} (h : cR t v) {x : aU} (hx : x ∈ t.Nodes) : (x.ID = t.Root ∧ x.Parent = 0) ∨ (t.Root < x.ID ∧ t.Root ≤ x.Parent ∧ x.Parent < x.ID) := by
 rw [h.nodes] at hx
 exact Wj v _ _ x hx
theorem Jt {t : bA} {v : aN} (h : cR t v) (i : Int) (j : Unit → Option Int) : ∀ (k q n : Nat), q + k = eU v → k < n → (i < t.Root ∨ t.Root + q ≤ i) → jD t i j n (q : Int) = if t.Root ≤ i ∧ i < t.Root + eU v then some (i - t.Root) else j ()
 | 0, q, n, hq, hn, hi => by
  obtain ⟨n, rfl⟩ := nS n (by omega)
  have hl := h.len
  rw [jD, if_neg (by simp; omega), if_neg (by omega)]
 | k + 1, q, n, hq, hn, hi => by
  obtain ⟨n, rfl⟩ := nS n (by omega)
  have hl := h.len
  have ah := h.size
  obtain ⟨x, hx, _, hxi⟩ := h.nth (q := q) (by omega)
  have hw : w6 ((q : Int) + 1) = ((q + 1 : Nat) : Int) := by rw [wS (by omega) (by omega)]; omega
  rw [jD, if_pos (by simp; omega), vW hx]
  simp only [oB, hw]
  by_cases e : x.ID = i
  ·rw [if_pos (by simpa using e), if_pos (by omega)]
   congr 1
   omega
  ·rw [if_neg (by simpa using e)]
   exact Jt h i j k (q + 1) n (by omega) (by omega) (by omega)
theorem Cm {t : bA} {v : aN} (h : cR t v) (n : Nat) (hn : 410 ≤ n) (i : Int) : jT n t i = some (if t.Root ≤ i ∧ i < t.Root + eU v then i - t.Root else -1) := by
 have ah := h.size
 unfold jT aS
 refine (Jt h i _ (eU v) 0 n (by omega) (by omega) (by omega)).trans ?_
 split <;> rfl
theorem Ok {t : bA} {v : aN} (h : cR t v) {x : aU} (hx : x ∈ t.Nodes) : idx t.Nodes (x.ID - t.Root) = some x := by
 have hr := h.rng hx
 obtain ⟨y, hy, hym, hyi⟩ := h.nth (q := (x.ID - t.Root).toNat) (by omega)
 have : y = x := h.inj hym hx (by omega)
 subst this
 rw [show y.ID - t.Root = (((y.ID - t.Root).toNat : Nat) : Int) by omega]
 exact vW hy
theorem yS {t : bA} {v : aN} (h : cR t v) (n : Nat) (hn : 410 ≤ n) {x : aU} (hx : x ∈ t.Nodes) : iL n t x.ID = some x := by
 have hr := h.rng hx
 unfold iL
 rw [Cm h n hn, if_pos hr]
 simp only [oB]
 rw [if_neg (by simp; omega), Ok h hx]
 rfl
theorem Vn {i p : Int} {v : aN} {pre l : List aN} {k : aN} (hk : v.Kids = pre ++ k :: l) {x : aU} (hx : x ∈ yA (i + 1 + bY pre) i k) : x ∈ yA i p v := by
 rw [oE, hk]
 have : ∀ (pre : List aN) (s : Int), x ∈ yA (s + bY pre) i k → x ∈ mI s i (pre ++ k :: l) := by
  intro pre
  induction pre with
  | nil => intro s hx; rw [List.nil_append, mI]; rw [bY] at hx; simp at hx; simp [hx]
  | cons v pre ih =>
   intro s hx
   rw [List.cons_append, mI]
   rw [bY] at hx
   refine List.mem_append_right _ (ih (s + eU v) ?_)
   rw [show s + (eU v : Int) + (bY pre : Int) = s + ((eU v + bY pre : Nat) : Int) by omega]
   exact hx
 exact List.mem_cons_of_mem _ (this pre (i + 1) hx)
theorem Wh {i p : Int} {v : aN} {pre l : List aN} {k : aN} (ht : v.Kids = pre ++ k :: l) {q : Int} (hq : q = pre.length) : idx (hd i p v).Kids q = some (i + 1 + bY pre) := by
 refine kI (pre := tV (i + 1) pre) (l := tV (i + 1 + bY pre + eU k) l) ?_ (by rw [rN]; exact hq)
 show tV (i + 1) v.Kids = _
 rw [ht, vP, tV]
theorem Gg (i p : Int) (v : aN) : (hd i p v).Kids.length = v.Kids.length := by show (tV _ _).length = _; rw [rN]
theorem Ms (t : bA) (self : bA → Int → List Int → Option (List Int)) (v : aN) (i p : Int) (L0 : List Int) (j : List Int → Option (List Int)) (hz : eU v ≤ 1000) (hs : ∀ pre k l, v.Kids = pre ++ k :: l → self t (i + 1 + bY pre) (L0 ++ oV i (1 + bY pre)) = some ((L0 ++ oV i (1 + bY pre)) ++ oV (i + 1 + bY pre) (eU k))) : ∀ (l pre : List aN) (n : Nat) (q : Int), v.Kids = pre ++ l → q = pre.length → l.length < n →
  jB (hd i p v) self t j n q (L0 ++ oV i (1 + bY pre)) = j (L0 ++ oV i (1 + bY v.Kids))
 | [], pre, n, q, ht, hq, hn => by
  obtain ⟨n, rfl⟩ := nS n (by simp at hn; omega)
  have ab : (hd i p v).Kids.length = pre.length := by rw [Gg, ht]; simp
  rw [jB, if_neg (by simp only [ab]; simp; omega), ht, List.append_nil]
 | k :: l, pre, n, q, ht, hq, hn => by
  obtain ⟨n, rfl⟩ := nS n (by simp at hn; omega)
  have ab : (hd i p v).Kids.length = pre.length + (l.length + 1) := by rw [Gg, ht]; simp
  have hkl := qW v.Kids
  have ah := jF v
  have hv : bY v.Kids = bY pre + (eU k + bY l) := by rw [ht, iF, bY]
  have hpl : pre.length ≤ 1000 := by have := qW pre; omega
  have hw : w6 (q + 1) = q + 1 := wS (by omega) (by omega)
  rw [jB, if_pos (by simp only [ab]; simp; omega), Wh ht hq]
  simp only [oB]
  rw [hs pre k l ht]
  simp only [oB, hw]
  have e : L0 ++ oV i (1 + bY pre) ++ oV (i + 1 + bY pre) (eU k) = L0 ++ oV i (1 + bY (pre ++ [k])) := by
   rw [iF, bY, bY, show 1 + (bY pre + (eU k + 0)) = (1 + bY pre) + eU k by omega, yK (1 + bY pre) (eU k) i, show i + ((1 + bY pre : Nat) : Int) = i + 1 + (bY pre : Int) by omega, List.append_assoc]
  rw [e]
  exact Ms t self v i p L0 j hz hs l (pre ++ [k]) n (q + 1) (by rw [ht]; simp) (by simp; omega) (by simp at hn; omega)
theorem Md {t : bA} {v0 : aN} (h : cR t v0) (v : aN) : ∀ (n : Nat) (i p : Int) (L : List Int), (∀ x, x ∈ yA i p v → x ∈ t.Nodes) → Cq v + 420 ≤ n → eU v ≤ 1000 → L.length + eU v ≤ 5000 → jA n t i L = some (L ++ oV i (eU v)) := by
 induction v using kU with
 | h v ih =>
  intro n i p L hM hn hz hL
  have hfu := vX v
  have ah := jF v
  obtain ⟨n, rfl⟩ := nS n (by omega)
  rw [jA, nK, xG (by simp; omega) (by decide)]
  simp only [oB]
  have hl : iL n t i = some (hd i p v) := yS h n (by omega) (x := hd i p v) (hM (hd i p v) (by rw [oE]; simp))
  rw [hl]
  simp only [oB]
  unfold aS
  have := Ms t (fun a0 a1 a2 => jA n a0 a1 a2) v i p L (fun v12 => some v12) hz (fun pre k l hk => by
   have ai : k ∈ v.Kids := by rw [hk]; simp
   have hv : bY v.Kids = bY pre + (eU k + bY l) := by rw [hk, iF, bY]
   exact ih k ai n _ i _ (fun x hx => hM x (Vn hk hx)) (by have := qU ai; omega) (by have := sT ai; omega) (by rw [List.length_append, jX]; omega)) v.Kids [] n 0 rfl rfl (by omega)
  rw [show oV i (1 + bY []) = [i] from rfl] at this
  exact this.trans (by rw [ah])
theorem Hv (t : bA) (self : bA → Int → Option aN) (v : aN) (i p : Int) (j : List aN → Option aN) (hz : eU v ≤ 1000) (hs : ∀ pre k l, v.Kids = pre ++ k :: l → self t (i + 1 + bY pre) = some k) : ∀ (l pre : List aN) (n : Nat) (q : Int), v.Kids = pre ++ l → q = pre.length → l.length < n →
  fX (hd i p v) self t j n q pre = j v.Kids
 | [], pre, n, q, ht, hq, hn => by
  obtain ⟨n, rfl⟩ := nS n (by simp at hn; omega)
  have ab : (hd i p v).Kids.length = pre.length := by rw [Gg, ht]; simp
  rw [fX, if_neg (by simp only [ab]; simp; omega), ht, List.append_nil]
 | k :: l, pre, n, q, ht, hq, hn => by
  obtain ⟨n, rfl⟩ := nS n (by simp at hn; omega)
  have ab : (hd i p v).Kids.length = pre.length + (l.length + 1) := by rw [Gg, ht]; simp
  have hkl := qW v.Kids
  have ah := jF v
  have hv : bY v.Kids = bY pre + (eU k + bY l) := by rw [ht, iF, bY]
  have hpl : pre.length ≤ 1000 := by have := qW pre; omega
  have hw : w6 (q + 1) = q + 1 := wS (by omega) (by omega)
  rw [fX, if_pos (by simp only [ab]; simp; omega), Wh ht hq]
  simp only [oB]
  rw [hs pre k l ht]
  simp only [oB, hw]
  rw [xG (by simp; omega) (by decide)]
  simp only [oB]
  exact Hv t self v i p j hz hs l (pre ++ [k]) n (q + 1) (by rw [ht]; simp) (by simp; omega) (by simp at hn; omega)
theorem Oo {t : bA} {v0 : aN} (h : cR t v0) (v : aN) : ∀ (n : Nat) (i p : Int), (∀ x, x ∈ yA i p v → x ∈ t.Nodes) → Cq v + 420 ≤ n → eU v ≤ 1000 → iC n t i = some v := by
 induction v using kU with
 | h v ih =>
  intro n i p hM hn hz
  have hfu := vX v
  have ah := jF v
  obtain ⟨n, rfl⟩ := nS n (by omega)
  rw [iC, kR]
  have hl : iL n t i = some (hd i p v) := yS h n (by omega) (x := hd i p v) (hM (hd i p v) (by rw [oE]; simp))
  rw [hl]
  simp only [oB]
  unfold aS
  exact (Hv t (fun a0 a1 => iC n a0 a1) v i p _ hz (fun pre k l hk => by
   have ai : k ∈ v.Kids := by rw [hk]; simp
   exact ih k ai n _ i (fun x hx => hM x (Vn hk hx)) (by have := qU ai; omega) (by have := sT ai; omega)) v.Kids [] n 0 rfl rfl (by omega)).trans (by cases v; rfl)
theorem shp_L0 {t : bA} {v : aN} (h : cR t v) (j : Unit → Option Bool) : ∀ (k q n : Nat) (last : Int), q + k = eU v → k < n → last < t.Root + q → gK t j n last (q : Int) = j ()
 | 0, q, n, last, hq, hn, hl => by
  obtain ⟨n, rfl⟩ := nS n (by omega)
  have ab := h.len
  rw [gK, if_neg (by simp; omega)]
 | k + 1, q, n, last, hq, hn, hl => by
  obtain ⟨n, rfl⟩ := nS n (by omega)
  have ab := h.len
  have ah := h.size
  have hnx := h.next
  obtain ⟨x, hx, _, hxi⟩ := h.nth (q := q) (by omega)
  have hw : w6 ((q : Int) + 1) = ((q + 1 : Nat) : Int) := by rw [wS (by omega) (by omega)]; omega
  have c1 : decide (x.ID ≤ last) = false := by simp; omega
  have c2 : decide (x.ID ≥ t.Next) = false := by simp; omega
  rw [gK, if_pos (by simp; omega), vW hx]
  simp only [oB, hw, c1, Bool.not_false, Ip, c2, Bool.or_self, fT, if_false]
  exact shp_L0 h j k (q + 1) n x.ID (by omega) (by omega) (by omega)
theorem Zl (x : aU) (j : Unit → Option Bool) (y12 v56 v42 : Int) (t : bA) (hz : x.Kids.length ≤ 1000) (hd : x.Kids.Nodup) (w : Nat) (hw' : w < x.Kids.length) : ∀ (k q n : Nat), q + k = w → k < n → iP (w : Int) x j y12 v56 v42 t n (q : Int) = j ()
 | 0, q, n, hq, hn => by
  obtain ⟨n, rfl⟩ := nS n (by omega)
  rw [iP, if_neg (by simp; omega)]
 | k + 1, q, n, hq, hn => by
  obtain ⟨n, rfl⟩ := nS n (by omega)
  have hw : w6 ((q : Int) + 1) = ((q + 1 : Nat) : Int) := by rw [wS (by omega) (by omega)]; omega
  have hq2 : q < x.Kids.length := by omega
  have hne : (x.Kids[q] == x.Kids[w]) = false := by
   rw [beq_eq_false_iff_ne]
   exact (List.pairwise_iff_getElem.1 hd) q w hq2 hw' (by omega)
  rw [iP, if_pos (by simp; omega), dR hq2, dR hw']
  simp only [oB, hw, hne, fT, if_false]
  exact Zl x j y12 v56 v42 t hz hd w hw' k (q + 1) n (by omega) (by omega)
theorem aA3 {t : bA} {v : aN} (h : cR t v) (x : aU) (y12 v42 : Int) (j : Int → Option Bool) (hz : x.Kids.length ≤ 500) (hd : x.Kids.Nodup) (hk : ∀ c, c ∈ x.Kids → ∃ y, y ∈ t.Nodes ∧ y.ID = c ∧ y.Parent = x.ID) : ∀ (k q n : Nat) (c : Int), q + k = x.Kids.length → k + 520 < n → 0 ≤ c → c + k ≤ 1000000 → iK x t y12 v42 j n c (q : Int) = j (c + k)
 | 0, q, n, c, hq, hn, h0, h1 => by
  obtain ⟨n, rfl⟩ := nS n (by omega)
  rw [iK, if_neg (by simp; omega)]
  simp
 | k + 1, q, n, c, hq, hn, h0, h1 => by
  obtain ⟨n, rfl⟩ := nS n (by omega)
  have hw : w6 ((q : Int) + 1) = ((q + 1 : Nat) : Int) := by rw [wS (by omega) (by omega)]; omega
  have hwc : w6 (c + 1) = c + 1 := wS (by omega) (by omega)
  have hq2 : q < x.Kids.length := by omega
  obtain ⟨y, hy, hyi, hyp⟩ := hk x.Kids[q] (List.getElem_mem hq2)
  have hr := h.rng hy
  have ah := h.size
  rw [iK, if_pos (by simp; omega)]
  unfold aS
  rw [dR hq2]
  simp only [oB]
  rw [← hyi, Cm h n (by omega), if_pos hr]
  have c1 : decide (y.ID - t.Root < 0) = false := by simp; omega
  simp only [oB, c1, Bool.not_false, Ip, Ok h hy, hyp, bne_self_eq_false, Bool.or_self, fT, if_false, hw, hwc]
  rw [show (0 : Int) = ((0 : Nat) : Int) from rfl, Zl x _ y12 c v42 t (by omega) hd q hq2 q 0 n (by omega) (by omega)]
  rw [aA3 h x y12 v42 j hz hd hk k (q + 1) n (c + 1) (by omega) (by omega) (by omega) (by omega)]
  congr 1
  omega
theorem shp_L1 {t : bA} {v : aN} (h : cR t v) (j : Int → Option Bool) : ∀ (l pre : List aU) (n : Nat) (c q : Int), t.Nodes = pre ++ l → q = pre.length → c = (pre.flatMap aU.Kids).length → l.length + 1000 < n → gH t 0 j n c q = j ((t.Nodes.flatMap aU.Kids).length : Int)
 | [], pre, n, c, q, ht, hq, hc, hn => by
  obtain ⟨n, rfl⟩ := nS n (by simp at hn; omega)
  have ab : t.Nodes.length = pre.length := by rw [ht]; simp
  rw [gH, if_neg (by simp; omega), hc, ht, List.append_nil]
 | x :: l, pre, n, c, q, ht, hq, hc, hn => by
  obtain ⟨n, rfl⟩ := nS n (by simp at hn; omega)
  have ab : t.Nodes.length = pre.length + (l.length + 1) := by rw [ht]; simp
  have hl := h.len
  have ah := h.size
  have av := h.root
  have hw : w6 (q + 1) = q + 1 := wS (by omega) (by omega)
  obtain ⟨k1, k2, k3⟩ := Sd v t.Root 0
  rw [← h.nodes] at k1 k2 k3
  have hx : x ∈ t.Nodes := by rw [ht]; simp
  have e1 : t.Nodes.flatMap aU.Kids = pre.flatMap aU.Kids ++ (x.Kids ++ l.flatMap aU.Kids) := by rw [ht, List.flatMap_append, List.flatMap_cons]
  rw [e1] at k1 k3
  have hd : x.Kids.Nodup := (List.nodup_append.1 (List.nodup_append.1 k1).2.1).1
  have hkl : x.Kids.length + 1 ≤ eU v ∧ (pre.flatMap aU.Kids).length + x.Kids.length + 1 ≤ eU v := by simp only [List.length_append] at k3; omega
  have am : x.ID = t.Root + pre.length := by
   obtain ⟨y, hy, _, hyi⟩ := h.nth (q := pre.length) (by omega)
   rw [ht, List.getElem?_append_right (Nat.le_refl _), Nat.sub_self, List.getElem?_cons_zero] at hy
   rw [Option.some.inj hy]; exact hyi
  have hpar : (x.Parent == 0) = (q == 0) := by
   rw [Bool.eq_iff_iff, beq_iff_eq, beq_iff_eq]
   have := h.prt hx
   omega
  have c2 : decide ((x.Kids.length : Int) > (t.Nodes.length : Int)) = false := by simp; omega
  rw [gH, if_pos (by simp; omega)]
  unfold aS
  rw [kI ht hq]
  simp only [oB, hpar, bne_self_eq_false, fT, if_false, c2, hw]
  refine (aA3 h x 0 q _ (by omega) hd (fun y hy => by
   rw [h.nodes] at hx ⊢
   exact Us v _ _ x y hx hy) x.Kids.length 0 n c (by omega) (by omega) (by omega) (by omega)).trans ?_
  exact shp_L1 h j l (pre ++ [x]) n _ (q + 1) (by rw [ht]; simp) (by simp; omega) (by rw [List.flatMap_append, List.length_append, hc]; simp) (by simp at hn; omega)
theorem Dg {t : bA} {v : aN} (h : cR t v) (hv : VG v) (n : Nat) (hn : Cq v + 3000 ≤ n) : mJ n t = some 0 := by
 have hl := h.len
 have ah := h.size
 have av := h.root
 have hnx := h.next
 have hp := vU v
 unfold mJ rO
 have c : ((((decide (t.Next < 2)) || (decide (t.Next > 1099511627776))) || (decide ((List.length t.Nodes : Int) < 1))) || (decide ((List.length t.Nodes : Int) > 400))) = false := by
  simp only [Bool.or_eq_false_iff, decide_eq_false_iff_not]
  omega
 have hs : (if ((((decide (t.Next < 2)) || (decide (t.Next > 1099511627776))) || (decide ((List.length t.Nodes : Int) < 1))) || (decide ((List.length t.Nodes : Int) > 400))) = true then some false else (aS (fun (_ : Unit) => (jT n t t.Root).bind fun (y12 : Int) => (if (decide (y12 < 0)) = true then some false else (aS (fun (v74 : Int) => (if (v74 != (w6 ((List.length t.Nodes : Int) - 1))) = true then some false else (jA n t t.Root ([] : List Int)).bind fun (y75 : (List Int)) => some ((List.length y75 : Int) == (List.length t.Nodes : Int)))) (fun (j13 : Int → Option Bool) => gH t y12 j13 n 0 0)))) (fun (j1 : Unit → Option Bool) => gK t j1 n 0 0))) = some true := by
  rw [c]
  simp only [fT, if_false]
  unfold aS
  refine (shp_L0 h _ (eU v) 0 n 0 (by omega) (by omega) (by omega)).trans ?_
  rw [Cm h n (by omega), if_pos (by omega)]
  simp only [oB, Int.sub_self]
  rw [if_neg (by simp)]
  refine (shp_L1 h _ t.Nodes [] n 0 0 rfl rfl rfl (by omega)).trans ?_
  obtain ⟨k1, k2, k3⟩ := Sd v t.Root 0
  rw [← h.nodes] at k1 k2 k3
  have hw : w6 ((List.length t.Nodes : Int) - 1) = ((t.Nodes.flatMap aU.Kids).length : Int) := by rw [wS (by omega) (by omega)]; omega
  rw [hw, bne_self_eq_false]
  simp only [fT, if_false]
  rw [Md h v n t.Root 0 [] (fun x hx => by rw [h.nodes]; exact hx) (by omega) (by omega) (by simp; omega)]
  simp only [oB, List.nil_append, jX, hl, beq_self_eq_true]
 rw [hs]
 simp only [oB, Bool.not_true, fT, if_false]
 rw [Oo h v n t.Root 0 (fun x hx => by rw [h.nodes]; exact hx) (by omega) (by omega)]
 simp only [oB]
 rw [Ee hv n (by omega)]
 rfl
end Go.Proofs.YtojkihhnioeggaaGreatDoor.S
