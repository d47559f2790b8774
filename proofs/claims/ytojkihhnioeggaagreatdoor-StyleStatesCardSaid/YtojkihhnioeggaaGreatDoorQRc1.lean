import Derived.Test.YtojkihhnioeggaaGreatDoorQIn1
import Derived.WalkKit
import Derived.WalkSpells
import Derived.WalkLawsBesides
import Derived.Deep.QuietTactic
import Derived.BigQuiet
import Derived.BigRegion
import Derived.Lib.Hide
import Derived.Deep.RegionWith
set_option linter.unusedSimpArgs false
set_option linter.unusedVariables false
set_option linter.unusedSimpArgs false
set_option linter.unusedVariables false
namespace Go.Proofs.YtojkihhnioeggaaGreatDoor.S
open Go Go.Bm
theorem Mk : ∀ (n : Nat) (i : Int) (q : Nat), q < n → (pV i n)[q]? = some (i + q)
 | 0, _, _, h => by omega
 | n + 1, i, 0, _ => by simp [pV]
 | n + 1, i, q + 1, h => by
  rw [pV, List.getElem?_cons_succ, Mk n (i + 1) q (by omega)]
  congr 1
  omega
theorem dK.ids' {t : bD} {v : aK} (h : dK t v) : t.Nodes.map aR.ID = pV t.Root (gM v) := by rw [h.nodes, Ai]
theorem dK.nth {t : bD} {v : aK} (h : dK t v) {q : Nat} (hq : q < gM v) : ∃ x, t.Nodes[q]? = some x ∧ x ∈ t.Nodes ∧ x.ID = t.Root + q := by
 have e : (t.Nodes.map aR.ID)[q]? = some (t.Root + q) := by rw [h.ids', Mk _ _ _ hq]
 rw [List.getElem?_map] at e
 simp only [Option.map_eq_some_iff] at e
 obtain ⟨x, hx, hi⟩ := e
 exact ⟨x, hx, List.mem_of_getElem? hx, hi⟩
theorem Gg {α : Type} {l : List α} {q : Nat} {x : α} (h : l[q]? = some x) : idx l (q : Int) = some x := by
 unfold idx
 rw [if_pos (by omega), Int.toNat_natCast]
 exact h
theorem dK.inj {t : bD} {v : aK} (h : dK t v) {x y : aR} (hx : x ∈ t.Nodes) (hy : y ∈ t.Nodes) (e : x.ID = y.ID) : x = y := by
 have h1 := uS h.nodup hx
 have h2 := uS h.nodup hy
 rw [e, h2] at h1
 exact (Option.some.inj h1).symm
theorem dK.rng {t : bD} {v : aK} (h : dK t v) {x : aR} (hx : x ∈ t.Nodes) : t.Root ≤ x.ID ∧ x.ID < t.Root + gM v := by
 have : x.ID ∈ t.Nodes.map aR.ID := List.mem_map.2 ⟨x, hx, rfl⟩
 rw [h.ids'] at this
 exact Ac.1 this
theorem dK.prt {t : bD} {v : aK} (h : dK t v) {x : aR} (hx : x ∈ t.Nodes) : (x.ID = t.Root ∧ x.Parent = 0) ∨ (t.Root < x.ID ∧ t.Root ≤ x.Parent ∧ x.Parent < x.ID) := by
 rw [h.nodes] at hx
 exact Mf v _ _ x hx
theorem Dm {t : bD} {v : aK} (h : dK t v) (i : Int) (j : Unit → Option Int) : ∀ (k q n : Nat), q + k = gM v → k < n → (i < t.Root ∨ t.Root + q ≤ i) → gQ t i j n (q : Int) = if t.Root ≤ i ∧ i < t.Root + gM v then some (i - t.Root) else j ()
 | 0, q, n, hq, hn, hi => by
  obtain ⟨n, rfl⟩ : ∃ m, n = m + 1 := ⟨n - 1, by omega⟩
  have hl := h.len
  rw [gQ, if_neg (by simp; omega), if_neg (by omega)]
 | k + 1, q, n, hq, hn, hi => by
  obtain ⟨n, rfl⟩ : ∃ m, n = m + 1 := ⟨n - 1, by omega⟩
  have hl := h.len
  have hsz := h.size
  obtain ⟨x, hx, _, hxi⟩ := h.nth (q := q) (by omega)
  have hw : IntKind.wrap .i64 ((q : Int) + 1) = ((q + 1 : Nat) : Int) := by rw [Go.Bm.bB (by omega) (by omega)]; omega
  rw [gQ, if_pos (by simp; omega), Gg hx]
  simp only [Option.bind_some, hw]
  by_cases e : x.ID = i
  ·rw [if_pos (by simpa using e), if_pos (by omega)]
   congr 1
   omega
  ·rw [if_neg (by simpa using e)]
   exact Dm h i j k (q + 1) n (by omega) (by omega) (by omega)
theorem Be {t : bD} {v : aK} (h : dK t v) (n : Nat) (hn : 410 ≤ n) (i : Int) : iS n t i = some (if t.Root ≤ i ∧ i < t.Root + gM v then i - t.Root else -1) := by
 have hsz := h.size
 unfold iS aX
 refine (Dm h i _ (gM v) 0 n (by omega) (by omega) (by omega)).trans ?_
 split <;> rfl
theorem Mx {t : bD} {v : aK} (h : dK t v) {x : aR} (hx : x ∈ t.Nodes) : idx t.Nodes (x.ID - t.Root) = some x := by
 have hr := h.rng hx
 obtain ⟨y, hy, hym, hyi⟩ := h.nth (q := (x.ID - t.Root).toNat) (by omega)
 have : y = x := h.inj hym hx (by omega)
 subst this
 rw [show y.ID - t.Root = (((y.ID - t.Root).toNat : Nat) : Int) by omega]
 exact Gg hy
theorem Ma {t : bD} {v : aK} (h : dK t v) (n : Nat) (hn : 410 ≤ n) {x : aR} (hx : x ∈ t.Nodes) : kC n t x.ID = some x := by
 have hr := h.rng hx
 unfold kC
 rw [Be h n hn, if_pos hr]
 simp only [Option.bind_some]
 rw [if_neg (by simp; omega), Mx h hx]
 rfl
theorem Mz {i p : Int} {v : aK} {pre l : List aK} {k : aK} (hk : v.Kids = pre ++ k :: l) {x : aR} (hx : x ∈ sY (i + 1 + bR pre) i k) : x ∈ sY i p v := by
 rw [lJ, hk]
 have : ∀ (pre : List aK) (s : Int), x ∈ sY (s + bR pre) i k → x ∈ jX s i (pre ++ k :: l) := by
  intro pre
  induction pre with
  | nil => intro s hx; rw [List.nil_append, jX]; rw [bR] at hx; simp at hx; simp [hx]
  | cons v pre ih =>
   intro s hx
   rw [List.cons_append, jX]
   rw [bR] at hx
   refine List.mem_append_right _ (ih (s + gM v) ?_)
   rw [show s + (gM v : Int) + (bR pre : Int) = s + ((gM v + bR pre : Nat) : Int) by omega]
   exact hx
 exact List.mem_cons_of_mem _ (this pre (i + 1) hx)
theorem Mo {i p : Int} {v : aK} {pre l : List aK} {k : aK} (ht : v.Kids = pre ++ k :: l) {q : Int} (hq : q = pre.length) : idx (hd i p v).Kids q = some (i + 1 + bR pre) := by
 refine pW (pre := qG (i + 1) pre) (l := qG (i + 1 + bR pre + gM k) l) ?_ (by rw [nW]; exact hq)
 show qG (i + 1) v.Kids = _
 rw [ht, rL, qG]
theorem Ab (i p : Int) (v : aK) : (hd i p v).Kids.length = v.Kids.length := by show (qG _ _).length = _; rw [nW]
theorem Fa (t : bD) (self : bD → Int → List Int → Option (List Int)) (v : aK) (i p : Int) (L0 : List Int) (j : List Int → Option (List Int)) (hz : gM v ≤ 1000) (hs : ∀ pre k l, v.Kids = pre ++ k :: l → self t (i + 1 + bR pre) (L0 ++ pV i (1 + bR pre)) = some ((L0 ++ pV i (1 + bR pre)) ++ pV (i + 1 + bR pre) (gM k))) : ∀ (l pre : List aK) (n : Nat) (q : Int), v.Kids = pre ++ l → q = pre.length → l.length < n →
  gP (hd i p v) self t j n q (L0 ++ pV i (1 + bR pre)) = j (L0 ++ pV i (1 + bR v.Kids))
 | [], pre, n, q, ht, hq, hn => by
  obtain ⟨n, rfl⟩ : ∃ m, n = m + 1 := ⟨n - 1, by simp at hn; omega⟩
  have hlen : (hd i p v).Kids.length = pre.length := by rw [Ab, ht]; simp
  rw [gP, if_neg (by simp only [hlen]; simp; omega), ht, List.append_nil]
 | k :: l, pre, n, q, ht, hq, hn => by
  obtain ⟨n, rfl⟩ : ∃ m, n = m + 1 := ⟨n - 1, by simp at hn; omega⟩
  have hlen : (hd i p v).Kids.length = pre.length + (l.length + 1) := by rw [Ab, ht]; simp
  have hkl := nG v.Kids
  have hsz := kX v
  have hv : bR v.Kids = bR pre + (gM k + bR l) := by rw [ht, kE, bR]
  have hpl : pre.length ≤ 1000 := by have := nG pre; omega
  have hw : IntKind.wrap .i64 (q + 1) = q + 1 := Go.Bm.bB (by omega) (by omega)
  rw [gP, if_pos (by simp only [hlen]; simp; omega), Mo ht hq]
  simp only [Option.bind_some]
  rw [hs pre k l ht]
  simp only [Option.bind_some, hw]
  have e : L0 ++ pV i (1 + bR pre) ++ pV (i + 1 + bR pre) (gM k) = L0 ++ pV i (1 + bR (pre ++ [k])) := by
   rw [kE, bR, bR, show 1 + (bR pre + (gM k + 0)) = (1 + bR pre) + gM k by omega, zW (1 + bR pre) (gM k) i, show i + ((1 + bR pre : Nat) : Int) = i + 1 + (bR pre : Int) by omega, List.append_assoc]
  rw [e]
  exact Fa t self v i p L0 j hz hs l (pre ++ [k]) n (q + 1) (by rw [ht]; simp) (by simp; omega) (by simp at hn; omega)
theorem Ok {t : bD} {v0 : aK} (h : dK t v0) (v : aK) : ∀ (n : Nat) (i p : Int) (L : List Int), (∀ x, x ∈ sY i p v → x ∈ t.Nodes) → Hh v + 420 ≤ n → gM v ≤ 1000 → L.length + gM v ≤ 5000 → hY n t i L = some (L ++ pV i (gM v)) := by
 induction v using jJ with
 | h v ih =>
  intro n i p L hM hn hz hL
  have hfu := wC v
  have hsz := kX v
  obtain ⟨n, rfl⟩ : ∃ m, n = m + 1 := ⟨n - 1, by omega⟩
  rw [hY, kQ, Cz (by simp; omega) (by decide)]
  simp only [Option.bind_some]
  have hl : kC n t i = some (hd i p v) := Ma h n (by omega) (x := hd i p v) (hM (hd i p v) (by rw [lJ]; simp))
  rw [hl]
  simp only [Option.bind_some]
  unfold aX
  have := Fa t (fun a0 a1 a2 => hY n a0 a1 a2) v i p L (fun v12 => some v12) hz (fun pre k l hk => by
   have hmem : k ∈ v.Kids := by rw [hk]; simp
   have hv : bR v.Kids = bR pre + (gM k + bR l) := by rw [hk, kE, bR]
   exact ih k hmem n _ i _ (fun x hx => hM x (Mz hk hx)) (by have := pA hmem; omega) (by have := qL hmem; omega) (by rw [List.length_append, uJ]; omega)) v.Kids [] n 0 rfl rfl (by omega)
  rw [show pV i (1 + bR []) = [i] from rfl] at this
  exact this.trans (by rw [hsz])
theorem Bg (t : bD) (self : bD → Int → Option aK) (v : aK) (i p : Int) (j : List aK → Option aK) (hz : gM v ≤ 1000) (hs : ∀ pre k l, v.Kids = pre ++ k :: l → self t (i + 1 + bR pre) = some k) : ∀ (l pre : List aK) (n : Nat) (q : Int), v.Kids = pre ++ l → q = pre.length → l.length < n →
  eV (hd i p v) self t j n q pre = j v.Kids
 | [], pre, n, q, ht, hq, hn => by
  obtain ⟨n, rfl⟩ : ∃ m, n = m + 1 := ⟨n - 1, by simp at hn; omega⟩
  have hlen : (hd i p v).Kids.length = pre.length := by rw [Ab, ht]; simp
  rw [eV, if_neg (by simp only [hlen]; simp; omega), ht, List.append_nil]
 | k :: l, pre, n, q, ht, hq, hn => by
  obtain ⟨n, rfl⟩ : ∃ m, n = m + 1 := ⟨n - 1, by simp at hn; omega⟩
  have hlen : (hd i p v).Kids.length = pre.length + (l.length + 1) := by rw [Ab, ht]; simp
  have hkl := nG v.Kids
  have hsz := kX v
  have hv : bR v.Kids = bR pre + (gM k + bR l) := by rw [ht, kE, bR]
  have hpl : pre.length ≤ 1000 := by have := nG pre; omega
  have hw : IntKind.wrap .i64 (q + 1) = q + 1 := Go.Bm.bB (by omega) (by omega)
  rw [eV, if_pos (by simp only [hlen]; simp; omega), Mo ht hq]
  simp only [Option.bind_some]
  rw [hs pre k l ht]
  simp only [Option.bind_some, hw]
  rw [Cz (by simp; omega) (by decide)]
  simp only [Option.bind_some]
  exact Bg t self v i p j hz hs l (pre ++ [k]) n (q + 1) (by rw [ht]; simp) (by simp; omega) (by simp at hn; omega)
theorem Fw {t : bD} {v0 : aK} (h : dK t v0) (v : aK) : ∀ (n : Nat) (i p : Int), (∀ x, x ∈ sY i p v → x ∈ t.Nodes) → Hh v + 420 ≤ n → gM v ≤ 1000 → fU n t i = some v := by
 induction v using jJ with
 | h v ih =>
  intro n i p hM hn hz
  have hfu := wC v
  have hsz := kX v
  obtain ⟨n, rfl⟩ : ∃ m, n = m + 1 := ⟨n - 1, by omega⟩
  rw [fU, iM]
  have hl : kC n t i = some (hd i p v) := Ma h n (by omega) (x := hd i p v) (hM (hd i p v) (by rw [lJ]; simp))
  rw [hl]
  simp only [Option.bind_some]
  unfold aX
  exact (Bg t (fun a0 a1 => fU n a0 a1) v i p _ hz (fun pre k l hk => by
   have hmem : k ∈ v.Kids := by rw [hk]; simp
   exact ih k hmem n _ i (fun x hx => hM x (Mz hk hx)) (by have := pA hmem; omega) (by have := qL hmem; omega)) v.Kids [] n 0 rfl rfl (by omega)).trans (by cases v; rfl)
theorem Px {t : bD} {v : aK} (h : dK t v) (j : Unit → Option Bool) : ∀ (k q n : Nat) (last : Int), q + k = gM v → k < n → last < t.Root + q → fD t j n last (q : Int) = j ()
 | 0, q, n, last, hq, hn, hl => by
  obtain ⟨n, rfl⟩ : ∃ m, n = m + 1 := ⟨n - 1, by omega⟩
  have hlen := h.len
  rw [fD, if_neg (by simp; omega)]
 | k + 1, q, n, last, hq, hn, hl => by
  obtain ⟨n, rfl⟩ : ∃ m, n = m + 1 := ⟨n - 1, by omega⟩
  have hlen := h.len
  have hsz := h.size
  have hnx := h.next
  obtain ⟨x, hx, _, hxi⟩ := h.nth (q := q) (by omega)
  have hw : IntKind.wrap .i64 ((q : Int) + 1) = ((q + 1 : Nat) : Int) := by rw [Go.Bm.bB (by omega) (by omega)]; omega
  have c1 : decide (x.ID ≤ last) = false := by simp; omega
  have c2 : decide (x.ID ≥ t.Next) = false := by simp; omega
  rw [fD, if_pos (by simp; omega), Gg hx]
  simp only [Option.bind_some, hw, c1, Bool.not_false, Dv, c2, Bool.or_self, Bool.false_eq_true, if_false]
  exact Px h j k (q + 1) n x.ID (by omega) (by omega) (by omega)
theorem Sn (x : aR) (j : Unit → Option Bool) (y12 v56 v42 : Int) (t : bD) (hz : x.Kids.length ≤ 1000) (hd : x.Kids.Nodup) (w : Nat) (hw' : w < x.Kids.length) : ∀ (k q n : Nat), q + k = w → k < n → gD (w : Int) x j y12 v56 v42 t n (q : Int) = j ()
 | 0, q, n, hq, hn => by
  obtain ⟨n, rfl⟩ : ∃ m, n = m + 1 := ⟨n - 1, by omega⟩
  rw [gD, if_neg (by simp; omega)]
 | k + 1, q, n, hq, hn => by
  obtain ⟨n, rfl⟩ : ∃ m, n = m + 1 := ⟨n - 1, by omega⟩
  have hw : IntKind.wrap .i64 ((q : Int) + 1) = ((q + 1 : Nat) : Int) := by rw [Go.Bm.bB (by omega) (by omega)]; omega
  have hq2 : q < x.Kids.length := by omega
  have hne : (x.Kids[q] == x.Kids[w]) = false := by
   rw [beq_eq_false_iff_ne]
   exact (List.pairwise_iff_getElem.1 hd) q w hq2 hw' (by omega)
  rw [gD, if_pos (by simp; omega), iP hq2, iP hw']
  simp only [Option.bind_some, hw, hne, Bool.false_eq_true, if_false]
  exact Sn x j y12 v56 v42 t hz hd w hw' k (q + 1) n (by omega) (by omega)
theorem Qz {t : bD} {v : aK} (h : dK t v) (x : aR) (y12 v42 : Int) (j : Int → Option Bool) (hz : x.Kids.length ≤ 500) (hd : x.Kids.Nodup) (hk : ∀ c, c ∈ x.Kids → ∃ y, y ∈ t.Nodes ∧ y.ID = c ∧ y.Parent = x.ID) : ∀ (k q n : Nat) (c : Int), q + k = x.Kids.length → k + 520 < n → 0 ≤ c → c + k ≤ 1000000 → gE x t y12 v42 j n c (q : Int) = j (c + k)
 | 0, q, n, c, hq, hn, h0, h1 => by
  obtain ⟨n, rfl⟩ : ∃ m, n = m + 1 := ⟨n - 1, by omega⟩
  rw [gE, if_neg (by simp; omega)]
  simp
 | k + 1, q, n, c, hq, hn, h0, h1 => by
  obtain ⟨n, rfl⟩ : ∃ m, n = m + 1 := ⟨n - 1, by omega⟩
  have hw : IntKind.wrap .i64 ((q : Int) + 1) = ((q + 1 : Nat) : Int) := by rw [Go.Bm.bB (by omega) (by omega)]; omega
  have hwc : IntKind.wrap .i64 (c + 1) = c + 1 := Go.Bm.bB (by omega) (by omega)
  have hq2 : q < x.Kids.length := by omega
  obtain ⟨y, hy, hyi, hyp⟩ := hk x.Kids[q] (List.getElem_mem hq2)
  have hr := h.rng hy
  have hsz := h.size
  rw [gE, if_pos (by simp; omega)]
  unfold aX
  rw [iP hq2]
  simp only [Option.bind_some]
  rw [← hyi, Be h n (by omega), if_pos hr]
  have c1 : decide (y.ID - t.Root < 0) = false := by simp; omega
  simp only [Option.bind_some, c1, Bool.not_false, Dv, Mx h hy, hyp, bne_self_eq_false, Bool.or_self, Bool.false_eq_true, if_false, hw, hwc]
  rw [show (0 : Int) = ((0 : Nat) : Int) from rfl, Sn x _ y12 c v42 t (by omega) hd q hq2 q 0 n (by omega) (by omega)]
  rw [Qz h x y12 v42 j hz hd hk k (q + 1) n (c + 1) (by omega) (by omega) (by omega) (by omega)]
  congr 1
  omega
theorem Rx {t : bD} {v : aK} (h : dK t v) (j : Int → Option Bool) : ∀ (l pre : List aR) (n : Nat) (c q : Int), t.Nodes = pre ++ l → q = pre.length → c = (pre.flatMap aR.Kids).length → l.length + 1000 < n → fF t 0 j n c q = j ((t.Nodes.flatMap aR.Kids).length : Int)
 | [], pre, n, c, q, ht, hq, hc, hn => by
  obtain ⟨n, rfl⟩ : ∃ m, n = m + 1 := ⟨n - 1, by simp at hn; omega⟩
  have hlen : t.Nodes.length = pre.length := by rw [ht]; simp
  rw [fF, if_neg (by simp; omega), hc, ht, List.append_nil]
 | x :: l, pre, n, c, q, ht, hq, hc, hn => by
  obtain ⟨n, rfl⟩ : ∃ m, n = m + 1 := ⟨n - 1, by simp at hn; omega⟩
  have hlen : t.Nodes.length = pre.length + (l.length + 1) := by rw [ht]; simp
  have hl := h.len
  have hsz := h.size
  have hroot := h.root
  have hw : IntKind.wrap .i64 (q + 1) = q + 1 := Go.Bm.bB (by omega) (by omega)
  obtain ⟨k1, k2, k3⟩ := Ke v t.Root 0
  rw [← h.nodes] at k1 k2 k3
  have hx : x ∈ t.Nodes := by rw [ht]; simp
  have e1 : t.Nodes.flatMap aR.Kids = pre.flatMap aR.Kids ++ (x.Kids ++ l.flatMap aR.Kids) := by rw [ht, List.flatMap_append, List.flatMap_cons]
  rw [e1] at k1 k3
  have hd : x.Kids.Nodup := (List.nodup_append.1 (List.nodup_append.1 k1).2.1).1
  have hkl : x.Kids.length + 1 ≤ gM v ∧ (pre.flatMap aR.Kids).length + x.Kids.length + 1 ≤ gM v := by simp only [List.length_append] at k3; omega
  have hid : x.ID = t.Root + pre.length := by
   obtain ⟨y, hy, _, hyi⟩ := h.nth (q := pre.length) (by omega)
   rw [ht, List.getElem?_append_right (Nat.le_refl _), Nat.sub_self, List.getElem?_cons_zero] at hy
   rw [Option.some.inj hy]; exact hyi
  have hpar : (x.Parent == 0) = (q == 0) := by
   rw [Bool.eq_iff_iff, beq_iff_eq, beq_iff_eq]
   have := h.prt hx
   omega
  have c2 : decide ((x.Kids.length : Int) > (t.Nodes.length : Int)) = false := by simp; omega
  rw [fF, if_pos (by simp; omega)]
  unfold aX
  rw [pW ht hq]
  simp only [Option.bind_some, hpar, bne_self_eq_false, Bool.false_eq_true, if_false, c2, hw]
  refine (Qz h x 0 q _ (by omega) hd (fun y hy => by
   rw [h.nodes] at hx ⊢
   exact Mm v _ _ x y hx hy) x.Kids.length 0 n c (by omega) (by omega) (by omega) (by omega)).trans ?_
  exact Rx h j l (pre ++ [x]) n _ (q + 1) (by rw [ht]; simp) (by simp; omega) (by rw [List.flatMap_append, List.length_append, hc]; simp) (by simp at hn; omega)
theorem Np {t : bD} {v : aK} (h : dK t v) (hv : sS 4 v) (n : Nat) (hn : Hh v + 3000 ≤ n) : nI n t = some 0 := by
 have hl := h.len
 have hsz := h.size
 have hroot := h.root
 have hnx := h.next
 have hp := rM v
 unfold nI oF
 have c : ((((decide (t.Next < 2)) || (decide (t.Next > 1099511627776))) || (decide ((List.length t.Nodes : Int) < 1))) || (decide ((List.length t.Nodes : Int) > 400))) = false := by
  simp only [Bool.or_eq_false_iff, decide_eq_false_iff_not]
  omega
 have hs : (if ((((decide (t.Next < 2)) || (decide (t.Next > 1099511627776))) || (decide ((List.length t.Nodes : Int) < 1))) || (decide ((List.length t.Nodes : Int) > 400))) = true then some false else (aX (fun (_ : Unit) => (iS n t t.Root).bind fun (y12 : Int) => (if (decide (y12 < 0)) = true then some false else (aX (fun (v74 : Int) => (if (v74 != (IntKind.wrap .i64 ((List.length t.Nodes : Int) - 1))) = true then some false else (hY n t t.Root ([] : List Int)).bind fun (y75 : (List Int)) => some ((List.length y75 : Int) == (List.length t.Nodes : Int)))) (fun (j13 : Int → Option Bool) => fF t y12 j13 n 0 0)))) (fun (j1 : Unit → Option Bool) => fD t j1 n 0 0))) = some true := by
  rw [c]
  simp only [Bool.false_eq_true, if_false]
  unfold aX
  refine (Px h _ (gM v) 0 n 0 (by omega) (by omega) (by omega)).trans ?_
  rw [Be h n (by omega), if_pos (by omega)]
  simp only [Option.bind_some, Int.sub_self]
  rw [if_neg (by simp)]
  refine (Rx h _ t.Nodes [] n 0 0 rfl rfl rfl (by omega)).trans ?_
  obtain ⟨k1, k2, k3⟩ := Ke v t.Root 0
  rw [← h.nodes] at k1 k2 k3
  have hw : IntKind.wrap .i64 ((List.length t.Nodes : Int) - 1) = ((t.Nodes.flatMap aR.Kids).length : Int) := by rw [Go.Bm.bB (by omega) (by omega)]; omega
  rw [hw, bne_self_eq_false]
  simp only [Bool.false_eq_true, if_false]
  rw [Ok h v n t.Root 0 [] (fun x hx => by rw [h.nodes]; exact hx) (by omega) (by omega) (by simp; omega)]
  simp only [Option.bind_some, List.nil_append, uJ, hl, beq_self_eq_true]
 rw [hs]
 simp only [Option.bind_some, Bool.not_true, Bool.false_eq_true, if_false]
 rw [Fw h v n t.Root 0 (fun x hx => by rw [h.nodes]; exact hx) (by omega) (by omega)]
 simp only [Option.bind_some]
 rw [yM hv n (by omega)]
 rfl
end Go.Proofs.YtojkihhnioeggaaGreatDoor.S
