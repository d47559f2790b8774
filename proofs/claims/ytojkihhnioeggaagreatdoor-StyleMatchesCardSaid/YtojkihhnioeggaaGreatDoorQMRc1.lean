import Derived.Test.YtojkihhnioeggaaGreatDoorQMIn1
import Derived.WalkKit
import Derived.WalkSpells
import Derived.WalkLawsBesides
import Derived.Deep.QuietTactic
import Derived.BigQuiet
import Derived.BigRegion
import Derived.Lib.Hide
import Derived.Deep.RegionWith
set_option linter.unusedSimpArgs false
set_option linter.unusedVariables false
set_option linter.unusedSimpArgs false
set_option linter.unusedVariables false
namespace Go.Proofs.YtojkihhnioeggaaGreatDoor.S
open Go Go.Bm
theorem Ni : ∀ (n : Nat) (i : Int) (q : Nat), q < n → (qQ i n)[q]? = some (i + q)
 | 0, _, _, h => by omega
 | n + 1, i, 0, _ => by simp [qQ]
 | n + 1, i, q + 1, h => by
  rw [qQ, List.getElem?_cons_succ, Ni n (i + 1) q (by omega)]
  congr 1
  omega
theorem cS.ids' {t : bC} {v : aL} (h : cS t v) : t.Nodes.map aR.ID = qQ t.Root (gP v) := by rw [h.nodes, Bh]
theorem cS.nth {t : bC} {v : aL} (h : cS t v) {q : Nat} (hq : q < gP v) : ∃ x, t.Nodes[q]? = some x ∧ x ∈ t.Nodes ∧ x.ID = t.Root + q := by
 have e : (t.Nodes.map aR.ID)[q]? = some (t.Root + q) := by rw [h.ids', Ni _ _ _ hq]
 rw [List.getElem?_map] at e
 simp only [Option.map_eq_some_iff] at e
 obtain ⟨x, hx, hi⟩ := e
 exact ⟨x, hx, List.mem_of_getElem? hx, hi⟩
theorem Ii {α : Type} {l : List α} {q : Nat} {x : α} (h : l[q]? = some x) : idx l (q : Int) = some x := by
 unfold idx
 rw [if_pos (by omega), Int.toNat_natCast]
 exact h
theorem cS.inj {t : bC} {v : aL} (h : cS t v) {x y : aR} (hx : x ∈ t.Nodes) (hy : y ∈ t.Nodes) (e : x.ID = y.ID) : x = y := by
 have h1 := mM h.nodup hx
 have h2 := mM h.nodup hy
 rw [e, h2] at h1
 exact (Option.some.inj h1).symm
theorem cS.rng {t : bC} {v : aL} (h : cS t v) {x : aR} (hx : x ∈ t.Nodes) : t.Root ≤ x.ID ∧ x.ID < t.Root + gP v := by
 have : x.ID ∈ t.Nodes.map aR.ID := List.mem_map.2 ⟨x, hx, rfl⟩
 rw [h.ids'] at this
 exact Ay.1 this
theorem cS.prt {t : bC} {v : aL} (h : cS t v) {x : aR} (hx : x ∈ t.Nodes) : (x.ID = t.Root ∧ x.Parent = 0) ∨ (t.Root < x.ID ∧ t.Root ≤ x.Parent ∧ x.Parent < x.ID) := by
 rw [h.nodes] at hx
 exact Ny v _ _ x hx
theorem Cg {t : bC} {v : aL} (h : cS t v) (i : Int) (j : Unit → Option Int) : ∀ (k q n : Nat), q + k = gP v → k < n → (i < t.Root ∨ t.Root + q ≤ i) → gX t i j n (q : Int) = if t.Root ≤ i ∧ i < t.Root + gP v then some (i - t.Root) else j ()
 | 0, q, n, hq, hn, hi => by
  obtain ⟨n, rfl⟩ : ∃ m, n = m + 1 := ⟨n - 1, by omega⟩
  have hl := h.len
  rw [gX, if_neg (by simp; omega), if_neg (by omega)]
 | k + 1, q, n, hq, hn, hi => by
  obtain ⟨n, rfl⟩ : ∃ m, n = m + 1 := ⟨n - 1, by omega⟩
  have hl := h.len
  have hsz := h.size
  obtain ⟨x, hx, _, hxi⟩ := h.nth (q := q) (by omega)
  have hw : IntKind.wrap .i64 ((q : Int) + 1) = ((q + 1 : Nat) : Int) := by rw [Go.Bm.bB (by omega) (by omega)]; omega
  rw [gX, if_pos (by simp; omega), Ii hx]
  simp only [Option.bind_some, hw]
  by_cases e : x.ID = i
  ·rw [if_pos (by simpa using e), if_pos (by omega)]
   congr 1
   omega
  ·rw [if_neg (by simpa using e)]
   exact Cg h i j k (q + 1) n (by omega) (by omega) (by omega)
theorem uZ {t : bC} {v : aL} (h : cS t v) (n : Nat) (hn : 410 ≤ n) (i : Int) : iD n t i = some (if t.Root ≤ i ∧ i < t.Root + gP v then i - t.Root else -1) := by
 have hsz := h.size
 unfold iD aV
 refine (Cg h i _ (gP v) 0 n (by omega) (by omega) (by omega)).trans ?_
 split <;> rfl
theorem Ok {t : bC} {v : aL} (h : cS t v) {x : aR} (hx : x ∈ t.Nodes) : idx t.Nodes (x.ID - t.Root) = some x := by
 have hr := h.rng hx
 obtain ⟨y, hy, hym, hyi⟩ := h.nth (q := (x.ID - t.Root).toNat) (by omega)
 have : y = x := h.inj hym hx (by omega)
 subst this
 rw [show y.ID - t.Root = (((y.ID - t.Root).toNat : Nat) : Int) by omega]
 exact Ii hy
theorem Av {t : bC} {v : aL} (h : cS t v) (n : Nat) (hn : 410 ≤ n) {x : aR} (hx : x ∈ t.Nodes) : iT n t x.ID = some x := by
 have hr := h.rng hx
 unfold iT
 rw [uZ h n hn, if_pos hr]
 simp only [Option.bind_some]
 rw [if_neg (by simp; omega), Ok h hx]
 rfl
theorem Nt {i p : Int} {v : aL} {pre l : List aL} {k : aL} (hk : v.Kids = pre ++ k :: l) {x : aR} (hx : x ∈ uH (i + 1 + bX pre) i k) : x ∈ uH i p v := by
 rw [mB, hk]
 have : ∀ (pre : List aL) (s : Int), x ∈ uH (s + bX pre) i k → x ∈ kL s i (pre ++ k :: l) := by
  intro pre
  induction pre with
  | nil => intro s hx; rw [List.nil_append, kL]; rw [bX] at hx; simp at hx; simp [hx]
  | cons v pre ih =>
   intro s hx
   rw [List.cons_append, kL]
   rw [bX] at hx
   refine List.mem_append_right _ (ih (s + gP v) ?_)
   rw [show s + (gP v : Int) + (bX pre : Int) = s + ((gP v + bX pre : Nat) : Int) by omega]
   exact hx
 exact List.mem_cons_of_mem _ (this pre (i + 1) hx)
theorem Nz {i p : Int} {v : aL} {pre l : List aL} {k : aL} (ht : v.Kids = pre ++ k :: l) {q : Int} (hq : q = pre.length) : idx (hd i p v).Kids q = some (i + 1 + bX pre) := by
 refine pZ (pre := qW (i + 1) pre) (l := qW (i + 1 + bX pre + gP k) l) ?_ (by rw [oZ]; exact hq)
 show qW (i + 1) v.Kids = _
 rw [ht, sO, qW]
theorem Bd (i p : Int) (v : aL) : (hd i p v).Kids.length = v.Kids.length := by show (qW _ _).length = _; rw [oZ]
theorem Ha (t : bC) (self : bC → Int → List Int → Option (List Int)) (v : aL) (i p : Int) (L0 : List Int) (j : List Int → Option (List Int)) (hz : gP v ≤ 1000) (hs : ∀ pre k l, v.Kids = pre ++ k :: l → self t (i + 1 + bX pre) (L0 ++ qQ i (1 + bX pre)) = some ((L0 ++ qQ i (1 + bX pre)) ++ qQ (i + 1 + bX pre) (gP k))) : ∀ (l pre : List aL) (n : Nat) (q : Int), v.Kids = pre ++ l → q = pre.length → l.length < n →
  hY (hd i p v) self t j n q (L0 ++ qQ i (1 + bX pre)) = j (L0 ++ qQ i (1 + bX v.Kids))
 | [], pre, n, q, ht, hq, hn => by
  obtain ⟨n, rfl⟩ : ∃ m, n = m + 1 := ⟨n - 1, by simp at hn; omega⟩
  have hlen : (hd i p v).Kids.length = pre.length := by rw [Bd, ht]; simp
  rw [hY, if_neg (by simp only [hlen]; simp; omega), ht, List.append_nil]
 | k :: l, pre, n, q, ht, hq, hn => by
  obtain ⟨n, rfl⟩ : ∃ m, n = m + 1 := ⟨n - 1, by simp at hn; omega⟩
  have hlen : (hd i p v).Kids.length = pre.length + (l.length + 1) := by rw [Bd, ht]; simp
  have hkl := nU v.Kids
  have hsz := lL v
  have hv : bX v.Kids = bX pre + (gP k + bX l) := by rw [ht, kT, bX]
  have hpl : pre.length ≤ 1000 := by have := nU pre; omega
  have hw : IntKind.wrap .i64 (q + 1) = q + 1 := Go.Bm.bB (by omega) (by omega)
  rw [hY, if_pos (by simp only [hlen]; simp; omega), Nz ht hq]
  simp only [Option.bind_some]
  rw [hs pre k l ht]
  simp only [Option.bind_some, hw]
  have e : L0 ++ qQ i (1 + bX pre) ++ qQ (i + 1 + bX pre) (gP k) = L0 ++ qQ i (1 + bX (pre ++ [k])) := by
   rw [kT, bX, bX, show 1 + (bX pre + (gP k + 0)) = (1 + bX pre) + gP k by omega, Bp (1 + bX pre) (gP k) i, show i + ((1 + bX pre : Nat) : Int) = i + 1 + (bX pre : Int) by omega, List.append_assoc]
  rw [e]
  exact Ha t self v i p L0 j hz hs l (pre ++ [k]) n (q + 1) (by rw [ht]; simp) (by simp; omega) (by simp at hn; omega)
theorem Pm {t : bC} {v0 : aL} (h : cS t v0) (v : aL) : ∀ (n : Nat) (i p : Int) (L : List Int), (∀ x, x ∈ uH i p v → x ∈ t.Nodes) → Fi v + 420 ≤ n → gP v ≤ 1000 → L.length + gP v ≤ 5000 → iI n t i L = some (L ++ qQ i (gP v)) := by
 induction v using jY with
 | h v ih =>
  intro n i p L hM hn hz hL
  have hfu := wT v
  have hsz := lL v
  obtain ⟨n, rfl⟩ : ∃ m, n = m + 1 := ⟨n - 1, by omega⟩
  rw [iI, lI, Hl (by simp; omega) (by decide)]
  simp only [Option.bind_some]
  have hl : iT n t i = some (hd i p v) := Av h n (by omega) (x := hd i p v) (hM (hd i p v) (by rw [mB]; simp))
  rw [hl]
  simp only [Option.bind_some]
  unfold aV
  have := Ha t (fun a0 a1 a2 => iI n a0 a1 a2) v i p L (fun v12 => some v12) hz (fun pre k l hk => by
   have hmem : k ∈ v.Kids := by rw [hk]; simp
   have hv : bX v.Kids = bX pre + (gP k + bX l) := by rw [hk, kT, bX]
   exact ih k hmem n _ i _ (fun x hx => hM x (Nt hk hx)) (by have := qE hmem; omega) (by have := rQ hmem; omega) (by rw [List.length_append, vH]; omega)) v.Kids [] n 0 rfl rfl (by omega)
  rw [show qQ i (1 + bX []) = [i] from rfl] at this
  exact this.trans (by rw [hsz])
theorem Ca (t : bC) (self : bC → Int → Option aL) (v : aL) (i p : Int) (j : List aL → Option aL) (hz : gP v ≤ 1000) (hs : ∀ pre k l, v.Kids = pre ++ k :: l → self t (i + 1 + bX pre) = some k) : ∀ (l pre : List aL) (n : Nat) (q : Int), v.Kids = pre ++ l → q = pre.length → l.length < n →
  fD (hd i p v) self t j n q pre = j v.Kids
 | [], pre, n, q, ht, hq, hn => by
  obtain ⟨n, rfl⟩ : ∃ m, n = m + 1 := ⟨n - 1, by simp at hn; omega⟩
  have hlen : (hd i p v).Kids.length = pre.length := by rw [Bd, ht]; simp
  rw [fD, if_neg (by simp only [hlen]; simp; omega), ht, List.append_nil]
 | k :: l, pre, n, q, ht, hq, hn => by
  obtain ⟨n, rfl⟩ : ∃ m, n = m + 1 := ⟨n - 1, by simp at hn; omega⟩
  have hlen : (hd i p v).Kids.length = pre.length + (l.length + 1) := by rw [Bd, ht]; simp
  have hkl := nU v.Kids
  have hsz := lL v
  have hv : bX v.Kids = bX pre + (gP k + bX l) := by rw [ht, kT, bX]
  have hpl : pre.length ≤ 1000 := by have := nU pre; omega
  have hw : IntKind.wrap .i64 (q + 1) = q + 1 := Go.Bm.bB (by omega) (by omega)
  rw [fD, if_pos (by simp only [hlen]; simp; omega), Nz ht hq]
  simp only [Option.bind_some]
  rw [hs pre k l ht]
  simp only [Option.bind_some, hw]
  rw [Hl (by simp; omega) (by decide)]
  simp only [Option.bind_some]
  exact Ca t self v i p j hz hs l (pre ++ [k]) n (q + 1) (by rw [ht]; simp) (by simp; omega) (by simp at hn; omega)
theorem Is {t : bC} {v0 : aL} (h : cS t v0) (v : aL) : ∀ (n : Nat) (i p : Int), (∀ x, x ∈ uH i p v → x ∈ t.Nodes) → Fi v + 420 ≤ n → gP v ≤ 1000 → gD n t i = some v := by
 induction v using jY with
 | h v ih =>
  intro n i p hM hn hz
  have hfu := wT v
  have hsz := lL v
  obtain ⟨n, rfl⟩ : ∃ m, n = m + 1 := ⟨n - 1, by omega⟩
  rw [gD, jB]
  have hl : iT n t i = some (hd i p v) := Av h n (by omega) (x := hd i p v) (hM (hd i p v) (by rw [mB]; simp))
  rw [hl]
  simp only [Option.bind_some]
  unfold aV
  exact (Ca t (fun a0 a1 => gD n a0 a1) v i p _ hz (fun pre k l hk => by
   have hmem : k ∈ v.Kids := by rw [hk]; simp
   exact ih k hmem n _ i (fun x hx => hM x (Nt hk hx)) (by have := qE hmem; omega) (by have := rQ hmem; omega)) v.Kids [] n 0 rfl rfl (by omega)).trans (by cases v; rfl)
theorem Ri {t : bC} {v : aL} (h : cS t v) (j : Unit → Option Bool) : ∀ (k q n : Nat) (last : Int), q + k = gP v → k < n → last < t.Root + q → fH t j n last (q : Int) = j ()
 | 0, q, n, last, hq, hn, hl => by
  obtain ⟨n, rfl⟩ : ∃ m, n = m + 1 := ⟨n - 1, by omega⟩
  have hlen := h.len
  rw [fH, if_neg (by simp; omega)]
 | k + 1, q, n, last, hq, hn, hl => by
  obtain ⟨n, rfl⟩ : ∃ m, n = m + 1 := ⟨n - 1, by omega⟩
  have hlen := h.len
  have hsz := h.size
  have hnx := h.next
  obtain ⟨x, hx, _, hxi⟩ := h.nth (q := q) (by omega)
  have hw : IntKind.wrap .i64 ((q : Int) + 1) = ((q + 1 : Nat) : Int) := by rw [Go.Bm.bB (by omega) (by omega)]; omega
  have c1 : decide (x.ID ≤ last) = false := by simp; omega
  have c2 : decide (x.ID ≥ t.Next) = false := by simp; omega
  rw [fH, if_pos (by simp; omega), Ii hx]
  simp only [Option.bind_some, hw, c1, Bool.not_false, Am, c2, Bool.or_self, Bool.false_eq_true, if_false]
  exact Ri h j k (q + 1) n x.ID (by omega) (by omega) (by omega)
theorem Tr (x : aR) (j : Unit → Option Bool) (y12 v56 v42 : Int) (t : bC) (hz : x.Kids.length ≤ 1000) (hd : x.Kids.Nodup) (w : Nat) (hw' : w < x.Kids.length) : ∀ (k q n : Nat), q + k = w → k < n → gG (w : Int) x j y12 v56 v42 t n (q : Int) = j ()
 | 0, q, n, hq, hn => by
  obtain ⟨n, rfl⟩ : ∃ m, n = m + 1 := ⟨n - 1, by omega⟩
  rw [gG, if_neg (by simp; omega)]
 | k + 1, q, n, hq, hn => by
  obtain ⟨n, rfl⟩ : ∃ m, n = m + 1 := ⟨n - 1, by omega⟩
  have hw : IntKind.wrap .i64 ((q : Int) + 1) = ((q + 1 : Nat) : Int) := by rw [Go.Bm.bB (by omega) (by omega)]; omega
  have hq2 : q < x.Kids.length := by omega
  have hne : (x.Kids[q] == x.Kids[w]) = false := by
   rw [beq_eq_false_iff_ne]
   exact (List.pairwise_iff_getElem.1 hd) q w hq2 hw' (by omega)
  rw [gG, if_pos (by simp; omega), hZ hq2, hZ hw']
  simp only [Option.bind_some, hw, hne, Bool.false_eq_true, if_false]
  exact Tr x j y12 v56 v42 t hz hd w hw' k (q + 1) n (by omega) (by omega)
theorem Sd {t : bC} {v : aL} (h : cS t v) (x : aR) (y12 v42 : Int) (j : Int → Option Bool) (hz : x.Kids.length ≤ 500) (hd : x.Kids.Nodup) (hk : ∀ c, c ∈ x.Kids → ∃ y, y ∈ t.Nodes ∧ y.ID = c ∧ y.Parent = x.ID) : ∀ (k q n : Nat) (c : Int), q + k = x.Kids.length → k + 520 < n → 0 ≤ c → c + k ≤ 1000000 → gF x t y12 v42 j n c (q : Int) = j (c + k)
 | 0, q, n, c, hq, hn, h0, h1 => by
  obtain ⟨n, rfl⟩ : ∃ m, n = m + 1 := ⟨n - 1, by omega⟩
  rw [gF, if_neg (by simp; omega)]
  simp
 | k + 1, q, n, c, hq, hn, h0, h1 => by
  obtain ⟨n, rfl⟩ : ∃ m, n = m + 1 := ⟨n - 1, by omega⟩
  have hw : IntKind.wrap .i64 ((q : Int) + 1) = ((q + 1 : Nat) : Int) := by rw [Go.Bm.bB (by omega) (by omega)]; omega
  have hwc : IntKind.wrap .i64 (c + 1) = c + 1 := Go.Bm.bB (by omega) (by omega)
  have hq2 : q < x.Kids.length := by omega
  obtain ⟨y, hy, hyi, hyp⟩ := hk x.Kids[q] (List.getElem_mem hq2)
  have hr := h.rng hy
  have hsz := h.size
  rw [gF, if_pos (by simp; omega)]
  unfold aV
  rw [hZ hq2]
  simp only [Option.bind_some]
  rw [← hyi, uZ h n (by omega), if_pos hr]
  have c1 : decide (y.ID - t.Root < 0) = false := by simp; omega
  simp only [Option.bind_some, c1, Bool.not_false, Am, Ok h hy, hyp, bne_self_eq_false, Bool.or_self, Bool.false_eq_true, if_false, hw, hwc]
  rw [show (0 : Int) = ((0 : Nat) : Int) from rfl, Tr x _ y12 c v42 t (by omega) hd q hq2 q 0 n (by omega) (by omega)]
  rw [Sd h x y12 v42 j hz hd hk k (q + 1) n (c + 1) (by omega) (by omega) (by omega) (by omega)]
  congr 1
  omega
theorem Rp {t : bC} {v : aL} (h : cS t v) (j : Int → Option Bool) : ∀ (l pre : List aR) (n : Nat) (c q : Int), t.Nodes = pre ++ l → q = pre.length → c = (pre.flatMap aR.Kids).length → l.length + 1000 < n → fJ t 0 j n c q = j ((t.Nodes.flatMap aR.Kids).length : Int)
 | [], pre, n, c, q, ht, hq, hc, hn => by
  obtain ⟨n, rfl⟩ : ∃ m, n = m + 1 := ⟨n - 1, by simp at hn; omega⟩
  have hlen : t.Nodes.length = pre.length := by rw [ht]; simp
  rw [fJ, if_neg (by simp; omega), hc, ht, List.append_nil]
 | x :: l, pre, n, c, q, ht, hq, hc, hn => by
  obtain ⟨n, rfl⟩ : ∃ m, n = m + 1 := ⟨n - 1, by simp at hn; omega⟩
  have hlen : t.Nodes.length = pre.length + (l.length + 1) := by rw [ht]; simp
  have hl := h.len
  have hsz := h.size
  have hroot := h.root
  have hw : IntKind.wrap .i64 (q + 1) = q + 1 := Go.Bm.bB (by omega) (by omega)
  obtain ⟨k1, k2, k3⟩ := Lr v t.Root 0
  rw [← h.nodes] at k1 k2 k3
  have hx : x ∈ t.Nodes := by rw [ht]; simp
  have e1 : t.Nodes.flatMap aR.Kids = pre.flatMap aR.Kids ++ (x.Kids ++ l.flatMap aR.Kids) := by rw [ht, List.flatMap_append, List.flatMap_cons]
  rw [e1] at k1 k3
  have hd : x.Kids.Nodup := (List.nodup_append.1 (List.nodup_append.1 k1).2.1).1
  have hkl : x.Kids.length + 1 ≤ gP v ∧ (pre.flatMap aR.Kids).length + x.Kids.length + 1 ≤ gP v := by simp only [List.length_append] at k3; omega
  have hid : x.ID = t.Root + pre.length := by
   obtain ⟨y, hy, _, hyi⟩ := h.nth (q := pre.length) (by omega)
   rw [ht, List.getElem?_append_right (Nat.le_refl _), Nat.sub_self, List.getElem?_cons_zero] at hy
   rw [Option.some.inj hy]; exact hyi
  have hpar : (x.Parent == 0) = (q == 0) := by
   rw [Bool.eq_iff_iff, beq_iff_eq, beq_iff_eq]
   have := h.prt hx
   omega
  have c2 : decide ((x.Kids.length : Int) > (t.Nodes.length : Int)) = false := by simp; omega
  rw [fJ, if_pos (by simp; omega)]
  unfold aV
  rw [pZ ht hq]
  simp only [Option.bind_some, hpar, bne_self_eq_false, Bool.false_eq_true, if_false, c2, hw]
  refine (Sd h x 0 q _ (by omega) hd (fun y hy => by
   rw [h.nodes] at hx ⊢
   exact Nd v _ _ x y hx hy) x.Kids.length 0 n c (by omega) (by omega) (by omega) (by omega)).trans ?_
  exact Rp h j l (pre ++ [x]) n _ (q + 1) (by rw [ht]; simp) (by simp; omega) (by rw [List.flatMap_append, List.length_append, hc]; simp) (by simp at hn; omega)
theorem Fu {t : bC} {v : aL} (h : cS t v) (hv : qX 4 v) (n : Nat) (hn : Fi v + 3000 ≤ n) : nV n t = some 0 := by
 have hl := h.len
 have hsz := h.size
 have hroot := h.root
 have hnx := h.next
 have hp := sH v
 unfold nV pA
 have c : ((((decide (t.Next < 2)) || (decide (t.Next > 1099511627776))) || (decide ((List.length t.Nodes : Int) < 1))) || (decide ((List.length t.Nodes : Int) > 400))) = false := by
  simp only [Bool.or_eq_false_iff, decide_eq_false_iff_not]
  omega
 have hs : (if ((((decide (t.Next < 2)) || (decide (t.Next > 1099511627776))) || (decide ((List.length t.Nodes : Int) < 1))) || (decide ((List.length t.Nodes : Int) > 400))) = true then some false else (aV (fun (_ : Unit) => (iD n t t.Root).bind fun (y12 : Int) => (if (decide (y12 < 0)) = true then some false else (aV (fun (v74 : Int) => (if (v74 != (IntKind.wrap .i64 ((List.length t.Nodes : Int) - 1))) = true then some false else (iI n t t.Root ([] : List Int)).bind fun (y75 : (List Int)) => some ((List.length y75 : Int) == (List.length t.Nodes : Int)))) (fun (j13 : Int → Option Bool) => fJ t y12 j13 n 0 0)))) (fun (j1 : Unit → Option Bool) => fH t j1 n 0 0))) = some true := by
  rw [c]
  simp only [Bool.false_eq_true, if_false]
  unfold aV
  refine (Ri h _ (gP v) 0 n 0 (by omega) (by omega) (by omega)).trans ?_
  rw [uZ h n (by omega), if_pos (by omega)]
  simp only [Option.bind_some, Int.sub_self]
  rw [if_neg (by simp)]
  refine (Rp h _ t.Nodes [] n 0 0 rfl rfl rfl (by omega)).trans ?_
  obtain ⟨k1, k2, k3⟩ := Lr v t.Root 0
  rw [← h.nodes] at k1 k2 k3
  have hw : IntKind.wrap .i64 ((List.length t.Nodes : Int) - 1) = ((t.Nodes.flatMap aR.Kids).length : Int) := by rw [Go.Bm.bB (by omega) (by omega)]; omega
  rw [hw, bne_self_eq_false]
  simp only [Bool.false_eq_true, if_false]
  rw [Pm h v n t.Root 0 [] (fun x hx => by rw [h.nodes]; exact hx) (by omega) (by omega) (by simp; omega)]
  simp only [Option.bind_some, List.nil_append, vH, hl, beq_self_eq_true]
 rw [hs]
 simp only [Option.bind_some, Bool.not_true, Bool.false_eq_true, if_false]
 rw [Is h v n t.Root 0 (fun x hx => by rw [h.nodes]; exact hx) (by omega) (by omega)]
 simp only [Option.bind_some]
 rw [zR hv n (by omega)]
 rfl
end Go.Proofs.YtojkihhnioeggaaGreatDoor.S
