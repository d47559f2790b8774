/- StyleInherits, the plain law. -/
import Derived.Test.YtojkihhnioeggaaDoorIn2
import Derived.WalkKit
import Derived.WalkSpells
import Derived.WalkLawsBesides
import Derived.Deep.QuietTactic
import Derived.BigQuiet
import Derived.BigRegion
import Derived.Lib.Hide
import Derived.Deep.RegionWith
set_option linter.unusedSimpArgs false
set_option linter.unusedVariables false
set_option linter.unusedSimpArgs false
set_option linter.unusedVariables false
namespace Go.Proofs.YtojkihhnioeggaaDoor.S
open Go Go.Bm
theorem look_app {β : Type} {M : List (Int × β)} {k q : Int} {s : β} (h : q ≠ k) : (M ++ [(k, s)]).lookup q = M.lookup q := by
  rw [List.lookup_append, List.lookup_cons, beq_eq_false_iff_ne.2 h]
  simp
theorem look_new {β : Type} {M : List (Int × β)} {k : Int} {s : β} (h : k ∉ M.map Prod.fst) : (M ++ [(k, s)]).lookup k = some s := by
  rw [List.lookup_append, look_none fun p hp e => h (List.mem_map.2 ⟨p, hp, e⟩), List.lookup_cons, beq_self_eq_true]
  rfl
theorem mget_some {β : Type} [Inhabited β] {M : List (Int × β)} {k : Int} {s : β} (h : M.lookup k = some s) : mget k M = s := by
  unfold mget; rw [h]; rfl
theorem TreeOf.par {t : GTree} {v : GView} (h : TreeOf t v) {x : GNode} (hx : x ∈ t.Nodes) : (x.ID = t.Root ∧ x.Parent = 0) ∨ (t.Root < x.ID ∧ t.Root ≤ x.Parent ∧ x.Parent < x.ID) := by
  rw [h.nodes] at hx
  exact nds_par v _ _ x hx
theorem TreeOf.ids {t : GTree} {v : GView} (h : TreeOf t v) : t.Nodes.map GNode.ID = iot t.Root (vsz v) := by rw [h.nodes, nds_ids]
theorem TreeOf.node {t : GTree} {v : GView} (h : TreeOf t v) {i : Int} (hi : t.Root ≤ i ∧ i < t.Root + vsz v) : ∃ x, x ∈ t.Nodes ∧ x.ID = i := by
  have : i ∈ t.Nodes.map GNode.ID := by rw [h.ids]; exact iot_mem.2 hi
  obtain ⟨x, hx, e⟩ := List.mem_map.1 this
  exact ⟨x, hx, e⟩
theorem TreeOf.idlt {t : GTree} {v : GView} (h : TreeOf t v) {x : GNode} (hx : x ∈ t.Nodes) : t.Root ≤ x.ID ∧ x.ID < t.Root + vsz v := by
  have : x.ID ∈ t.Nodes.map GNode.ID := List.mem_map.2 ⟨x, hx, rfl⟩
  rw [h.ids] at this
  exact iot_mem.1 this
def Gd (K a b : Int) (M : List (Int × A22_Int)) (x : GNode) : Prop := ∃ s, M.lookup x.ID = some s ∧ Sty (if (K == x.Kind) = true then b else if x.Parent = 0 then a else (mget x.Parent M).x2) (if (K == x.Kind) = true then 5 else 0) s
theorem csc_loop {t : GTree} {v : GView} (h : TreeOf t v) (S : Gshape) (hS : S.states = []) (hN : S.nodes = nmap t.Nodes) (K sz : Int) (m : GMode) (hK : 1 ≤ K) {a b : Int} (ha : ∀ n, theme_Size n m 16 = some a) (hb : ∀ n, theme_Size n m sz = some b) (j : List (Int × A22_Int) → Option ((List GStyled) × Int)) :
    ∀ (k i n : Nat) (M : List (Int × A22_Int)), i + k = vsz v → k + 100 < n → M.map Prod.fst = iot t.Root i → (∀ x, x ∈ t.Nodes → x.ID < t.Root + i → Gd K a b M x) →
    ∃ M', style_Cascade_L1 (iot t.Root (vsz v)) S (GSheet.mk [rul K sz]) [0] (GTheme.mk ([] : List GToken)) m t j n (i : Int) M = j M' ∧ ∀ x, x ∈ t.Nodes → Gd K a b M' x
  | 0, i, n, M, hi, hn, hM, hg => by
    obtain ⟨n, rfl⟩ : ∃ m, n = m + 1 := ⟨n - 1, by omega⟩
    refine ⟨M, ?_, fun x hx => hg x hx (by have := h.idlt hx; omega)⟩
    rw [style_Cascade_L1, if_neg (by simp [iot_len]; omega)]
  | k + 1, i, n, M, hi, hn, hM, hg => by
    obtain ⟨n, rfl⟩ : ∃ m, n = m + 1 := ⟨n - 1, by omega⟩
    have hsz := h.size
    have hroot := h.root
    have hw : IntKind.wrap .i64 ((i : Int) + 1) = ((i + 1 : Nat) : Int) := by rw [Go.Bm.wrap_small (by omega) (by omega)]; omega
    obtain ⟨x, hx, hxi⟩ := h.node (i := t.Root + i) (by omega)
    have hidx : idx (iot t.Root (vsz v)) (i : Int) = some (t.Root + i) := by
      refine idx_at (pre := iot t.Root i) (l := iot (t.Root + i + 1) k) ?_ (by rw [iot_len])
      rw [← hi, iot_add, show k + 1 = k + 1 from rfl, iot]
    have hlook : (nmap t.Nodes).lookup (t.Root + i) = some x := by rw [← hxi]; exact nmap_look h.nodup hx
    have hnew : t.Root + (i : Int) ∉ M.map Prod.fst := by
      rw [hM]
      intro hm
      have := iot_mem.1 hm
      omega
    have hp : (t.Root + (i : Int) == t.Root) = false → (mget x.Parent M).x0 = 0 := fun hr => by
      rw [beq_eq_false_iff_ne] at hr
      rcases h.par hx with ⟨e1, e2⟩ | ⟨e1, e2, e3⟩
      · omega
      · obtain ⟨y, hy, hyi⟩ := h.node (i := x.Parent) (by omega)
        obtain ⟨s, hs1, hs2⟩ := hg y hy (by omega)
        rw [← hyi, mget_some hs1]
        exact hs2.x0
    obtain ⟨s, hs1, hs2⟩ := style_rul n (by omega) S hS K sz (t.Root + i) m hK ha hb (mget x.Parent M) (t.Root + (i : Int) == t.Root) hp
    have hkind : (mget (t.Root + (i : Int)) S.nodes).Kind = x.Kind := by rw [hN, mget_some hlook]
    rw [hkind] at hs2
    obtain ⟨M', hM1, hM2⟩ := csc_loop h S hS hN K sz m hK ha hb j k (i + 1) n (M ++ [(t.Root + (i : Int), s)]) (by omega) (by omega) (by rw [List.map_append, hM, iot_add]; rfl) (fun y hy hyi => by
      have hpar := h.par hy
      have hne : y.Parent ≠ t.Root + (i : Int) := by omega
      have hmg : mget y.Parent (M ++ [(t.Root + (i : Int), s)]) = mget y.Parent M := by unfold mget; rw [look_app hne]
      unfold Gd
      rw [hmg]
      by_cases e : y.ID = t.Root + (i : Int)
      · refine ⟨s, by rw [e]; exact look_new hnew, ?_⟩
        have hxy : y = x := by
          have h1 := nmap_look h.nodup hy
          rw [e, hlook] at h1
          exact (Option.some.inj h1).symm
        subst hxy
        have : (if (t.Root + (i : Int) == t.Root) = true then a else (mget y.Parent M).x2) = if y.Parent = 0 then a else (mget y.Parent M).x2 := by
          by_cases h0 : y.Parent = 0
          · rw [if_pos h0, if_pos (by simp; omega)]
          · rw [if_neg h0, if_neg (by simp; omega)]
        rw [this] at hs2
        exact hs2
      · obtain ⟨s', h1, h2⟩ := hg y hy (by omega)
        exact ⟨s', by rw [look_app e]; exact h1, h2⟩)
    refine ⟨M', ?_, hM2⟩
    rw [style_Cascade_L1, if_pos (by simp [iot_len]; omega), hidx]
    simp only [Option.bind_some, hw]
    rw [show mget (t.Root + (i : Int)) S.nodes = x by rw [hN]; exact mget_some hlook]
    have hs1' : cascade_style n (Gcascade.mk S (GSheet.mk [rul K sz]).Rules [0] (GTheme.mk ([] : List GToken)) m) (t.Root + (i : Int)) (mget x.Parent M) (t.Root + (i : Int) == t.Root) = some s := hs1
    rw [hs1']
    simp only [Option.bind_some]
    rw [mput_new fun p hp e => hnew (List.mem_map.2 ⟨p, hp, e⟩)]
    exact hM1
def outL (M : List (Int × A22_Int)) (l : List GNode) : List GStyled := l.map fun x => ⟨x.ID, mget x.ID M⟩
theorem csc_L2 (t : GTree) (M : List (Int × A22_Int)) (j : List GStyled → Option ((List GStyled) × Int)) (hz : t.Nodes.length ≤ 1000) : ∀ (l pre : List GNode) (n : Nat) (q : Int), t.Nodes = pre ++ l → q = pre.length → l.length < n → style_Cascade_L2 t M j n (outL M pre) q = j (outL M t.Nodes)
  | [], pre, n, q, ht, hq, hn => by
    obtain ⟨n, rfl⟩ : ∃ m, n = m + 1 := ⟨n - 1, by simp at hn; omega⟩
    have hlen : t.Nodes.length = pre.length := by rw [ht]; simp
    rw [style_Cascade_L2, if_neg (by simp; omega), ht, List.append_nil]
  | x :: l, pre, n, q, ht, hq, hn => by
    obtain ⟨n, rfl⟩ : ∃ m, n = m + 1 := ⟨n - 1, by simp at hn; omega⟩
    have hlen : t.Nodes.length = pre.length + (l.length + 1) := by rw [ht]; simp
    have hw : IntKind.wrap .i64 (q + 1) = q + 1 := Go.Bm.wrap_small (by omega) (by omega)
    rw [style_Cascade_L2, if_pos (by simp; omega), idx_at ht hq]
    simp only [Option.bind_some, hw]
    rw [apd_eq (by simp [outL]; omega) (by decide)]
    simp only [Option.bind_some]
    rw [show outL M pre ++ [GStyled.mk x.ID (mget x.ID M)] = outL M (pre ++ [x]) from by simp [outL]]
    exact csc_L2 t M j hz l (pre ++ [x]) n (q + 1) (by rw [ht]; simp) (by simp; omega) (by simp at hn; omega)
theorem cascade_rul {t : GTree} {v : GView} (h : TreeOf t v) (hv : VOk 4 v) (n : Nat) (hn : vfu v + 3000 ≤ n) (K sz : Int) (h1 : 1 ≤ K ∧ K ≤ 13) (h2 : 1 ≤ sz ∧ sz ≤ 60) (m : GMode) (hm : 50 ≤ m.Scale ∧ m.Scale ≤ 400) {a b : Int} (ha : ∀ n, theme_Size n m 16 = some a) (hb : ∀ n, theme_Size n m sz = some b) :
    ∃ M, style_Cascade n (GSheet.mk [rul K sz]) (GTheme.mk ([] : List GToken)) m t [] = some (outL M t.Nodes, 0) ∧ ∀ x, x ∈ t.Nodes → Gd K a b M x := by
  have hsm := VOk.small 4 v hv
  have hl := h.len
  have hfu := vfu_eq v
  obtain ⟨M, hM1, hM2⟩ := csc_loop h ⟨nmap t.Nodes, cmap t.Nodes, []⟩ rfl rfl K sz m h1.1 ha hb (fun v34 => withJ (fun (v46 : List GStyled) => some (v46, (0 : Int))) (fun (j35 : List GStyled → Option ((List GStyled) × Int)) => style_Cascade_L2 t v34 j35 n ([] : List GStyled) 0)) (vsz v) 0 n [] (by omega) (by omega) rfl (fun x hx hlt => by have := h.idlt hx; omega)
  refine ⟨M, ?_, hM2⟩
  have c1 : decide (m.Scale < 50) = false := by simp; omega
  have c2 : decide (m.Scale > 400) = false := by simp; omega
  have ht : theme_Validate n (GTheme.mk ([] : List GToken)) = some 0 := by
    obtain ⟨q, rfl⟩ : ∃ m, n = m + 10 := ⟨n - 10, by omega⟩
    kernel_rfl
  unfold style_Cascade
  rw [valid_rul n (by omega) K sz h1 h2, ht, check_eq h hv n hn, see_nil h hv n (by omega)]
  simp only [Option.bind_some, bne_self_eq_false, Bool.false_eq_true, if_false, c1, c2, Bool.or_self]
  unfold withJ
  have e0 : ∀ (j : List Int → Option ((List GStyled) × Int)) (S : Gshape), style_Cascade_L0 (GSheet.mk [rul K sz]) j t S (GTheme.mk ([] : List GToken)) m n 0 [] = j [0] := fun j S => by
    obtain ⟨q, rfl⟩ : ∃ m, n = m + 10 := ⟨n - 10, by omega⟩
    kernel_rfl
  refine (e0 _ _).trans ?_
  have e1 : slices_SortStableFunc_int_int n [0] (GSheet.mk [rul K sz]) = some [0] := by
    obtain ⟨q, rfl⟩ : ∃ m, n = m + 100 := ⟨n - 100, by omega⟩
    kernel_rfl
  rw [e1]
  simp only [Option.bind_some]
  rw [order_eq h hv n hn]
  simp only [Option.bind_some]
  refine hM1.trans ?_
  exact csc_L2 t M _ (by omega) t.Nodes [] n 0 rfl rfl (by omega)
theorem find_loop (M : List (Int × A22_Int)) (L : List GNode) (i : Int) (j : Unit → Option A22_Int) (hz : L.length ≤ 1000) : ∀ (l pre : List GNode) (n : Nat) (q : Int), L = pre ++ l → q = pre.length → l.length < n → (∃ x, x ∈ l ∧ x.ID = i) → ref17_Find_L0 (outL M L) i j n q = some (mget i M)
  | [], pre, n, q, ht, hq, hn, ⟨x, hx, _⟩ => nomatch hx
  | x :: l, pre, n, q, ht, hq, hn, ⟨y, hy, hyi⟩ => by
    obtain ⟨n, rfl⟩ : ∃ m, n = m + 1 := ⟨n - 1, by simp at hn; omega⟩
    have hlen : L.length = pre.length + (l.length + 1) := by rw [ht]; simp
    have hw : IntKind.wrap .i64 (q + 1) = q + 1 := Go.Bm.wrap_small (by omega) (by omega)
    have hix : idx (outL M L) q = some (GStyled.mk x.ID (mget x.ID M)) := idx_at (pre := outL M pre) (l := outL M l) (by rw [ht]; simp [outL]) (by simpa [outL] using hq)
    rw [ref17_Find_L0, if_pos (by simp [outL]; omega), hix]
    simp only [Option.bind_some, hw]
    by_cases e : x.ID = i
    · rw [if_pos (by simpa using e), e]
    · rw [if_neg (by simpa using e)]
      refine find_loop M L i j hz l (pre ++ [x]) n (q + 1) (by rw [ht]; simp) (by simp; omega) (by simp at hn; omega) ⟨y, ?_, hyi⟩
      rcases List.mem_cons.1 hy with rfl | hy
      · exact absurd hyi e
      · exact hy
theorem law_loop {t : GTree} {v : GView} (h : TreeOf t v) {M : List (Int × A22_Int)} {K sz a b : Int} {m : GMode} (ha : ∀ n, theme_Size n m 16 = some a) (hb : ∀ n, theme_Size n m sz = some b) (hM : ∀ x, x ∈ t.Nodes → Gd K a b M x) (s1 s2 s3 s4 : GSrc) (j : Unit → Option Bool) (hz : t.Nodes.length ≤ 1000) : ∀ (l pre : List GNode) (n : Nat) (q : Int), t.Nodes = pre ++ l → q = pre.length → l.length + 1100 < n → law17_StyleInherits_L0 (outL M t.Nodes, 0) (m, s1) (t, s2) (K, s3) (sz, s4) j n q = j ()
  | [], pre, n, q, ht, hq, hn => by
    obtain ⟨n, rfl⟩ : ∃ m, n = m + 1 := ⟨n - 1, by simp at hn; omega⟩
    have hlen : t.Nodes.length = pre.length := by rw [ht]; simp
    rw [law17_StyleInherits_L0, if_neg (by simp [outL]; omega)]
  | x :: l, pre, n, q, ht, hq, hn => by
    obtain ⟨n, rfl⟩ : ∃ m, n = m + 1 := ⟨n - 1, by simp at hn; omega⟩
    have hlen : t.Nodes.length = pre.length + (l.length + 1) := by rw [ht]; simp
    have hw : IntKind.wrap .i64 (q + 1) = q + 1 := Go.Bm.wrap_small (by omega) (by omega)
    have hx : x ∈ t.Nodes := by rw [ht]; simp
    obtain ⟨s, hs1, hs2⟩ := hM x hx
    have hroot := h.root
    have hix : idx (outL M t.Nodes) q = some (GStyled.mk x.ID s) := by
      rw [← mget_some hs1]
      exact idx_at (pre := outL M pre) (l := outL M l) (by rw [ht]; simp [outL]) (by simpa [outL] using hq)
    have ih := law_loop h ha hb hM s1 s2 s3 s4 j hz l (pre ++ [x]) n (q + 1) (by rw [ht]; simp) (by simp; omega) (by simp at hn; omega)
    have hfind : x.Parent ≠ 0 → ref17_Find n (outL M t.Nodes) x.Parent = some (mget x.Parent M) := fun h0 => by
      unfold ref17_Find
      refine find_loop M t.Nodes x.Parent _ hz t.Nodes [] n 0 rfl rfl (by simp at hn; omega) (h.node ?_)
      have := h.par hx
      have := h.idlt hx
      omega
    rw [law17_StyleInherits_L0, if_pos (by simp [outL]; omega), ha n, hb n]
    unfold withJ
    rw [idx_at ht hq, hix]
    simp only [Option.bind_some, hw, idx, show (0 : Int) ≤ 0 from Int.le_refl _, if_true, show ((0 : Int).toNat) = 0 from rfl, List.getElem?_cons_zero]
    rw [ih]
    have x0 := hs2.x0; have x1 := hs2.x1; have x2 := hs2.x2; have x9 := hs2.x9; have x11 := hs2.x11
    have hsym : (x.Kind == K) = (K == x.Kind) := by rw [Bool.eq_iff_iff, beq_iff_eq, beq_iff_eq]; exact ⟨Eq.symm, Eq.symm⟩
    rw [hsym, x0, x1, x2, x9, x11]
    by_cases h0 : x.Parent = 0
    · have c : (x.Parent != 0) = false := by simp [h0]
      rw [c, if_pos h0]
      cases (K == x.Kind) <;> simp
    · have c : (x.Parent != 0) = true := by simpa using h0
      rw [c, if_neg h0, hfind h0]
      cases (K == x.Kind) <;> simp
theorem src_Mode (n : Nat) {p : GSrc} (h : SrcOk p) : Tot (Src_Mode n p) fun y => (50 ≤ y.1.Scale ∧ y.1.Scale ≤ 400) ∧ SrcOk y.2 := by
  unfold Src_Mode
  refine tot_bind (src_N n h (by decide)) fun y1 ⟨_, _, c1⟩ => tot_bind (src_N n c1 (by decide)) fun y2 ⟨_, _, c2⟩ => tot_bind (src_N n c2 (by decide)) fun y3 ⟨a, b, c3⟩ => tot_bind (tot_idx a (b (by decide))) fun e he => tot_some ⟨?_, c3⟩
  simp only [List.mem_cons, List.not_mem_nil, or_false] at he
  show 50 ≤ e ∧ e ≤ 400
  omega
theorem awake_in : law17_awake 20000 = some true := by kernel_rfl
theorem inherits_n (n : Nat) (hn : 12000 ≤ n) (haw : law17_awake n = some true) (l : List Int) : law17_StyleInherits n l = some true := by
  have key : Tot (law17_StyleInherits n l) fun r => r = true := by
    unfold law17_StyleInherits
    refine tot_bind (src_New n l) fun y1 h1 => tot_bind (src_Tree n (by omega) h1) fun y2 ⟨⟨v, hv, hT⟩, h2⟩ => tot_bind (src_Mode n h2) fun y3 ⟨hm, h3⟩ => tot_bind (src_Range n h3 (by decide) (by decide) (by decide)) fun y4 ⟨a4, b4, h4⟩ => tot_bind (src_Range n h4 (by decide) (by decide) (by decide)) fun y5 ⟨a5, b5, h5⟩ => ?_
    have hf := hv.fuel4
    have hsm := VOk.small 4 v hv
    have hlen := hT.len
    obtain ⟨a, ha⟩ := size_tot y3.1 16
    obtain ⟨b, hb⟩ := size_tot y3.1 y4.1
    obtain ⟨M, hM1, hM2⟩ := cascade_rul hT hv n (by omega) y5.1 y4.1 ⟨a5, b5⟩ ⟨a4, b4⟩ y3.1 hm ha hb
    refine tot_bind (P := fun y => y = (outL M y2.1.Nodes, 0)) ⟨_, hM1, rfl⟩ fun y6 h6 => ?_
    subst h6
    refine tot_ite (fun hc => by simp [outL] at hc) fun _ => ?_
    unfold withJ
    exact ⟨true, (law_loop hT ha hb hM2 y3.2 y2.2 y5.2 y4.2 _ (by omega) y2.1.Nodes [] n 0 rfl rfl (by omega)).trans (by rw [haw]; rfl), rfl⟩
  obtain ⟨r, hr, rfl⟩ := key
  exact hr
theorem inherits_true (l : List Int) : law17_StyleInherits 20000 l = some true := inherits_n 20000 (by omega) awake_in l
end Go.Proofs.YtojkihhnioeggaaDoor.S
