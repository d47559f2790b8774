/- The draws of views and trees. -/
import Derived.Test.YtojkihhnioeggaaDoorVw4
import Derived.WalkKit
import Derived.WalkSpells
import Derived.WalkLawsBesides
import Derived.Deep.QuietTactic
import Derived.BigQuiet
import Derived.BigRegion
import Derived.Lib.Hide
import Derived.Deep.RegionWith
set_option linter.unusedSimpArgs false
set_option linter.unusedVariables false
set_option linter.unusedSimpArgs false
set_option linter.unusedVariables false
namespace Go.Proofs.YtojkihhnioeggaaDoor.S
open Go Go.Bm
theorem bt_fold : ∀ (l : List Int) (s : ByteArray), (l.foldl (fun r n => r.push (UInt8.ofNat n.toNat)) s).data.toList = s.data.toList ++ l.map fun n => UInt8.ofNat n.toNat
  | [], s => by simp
  | n :: l, s => by
    rw [List.foldl_cons, bt_fold l, List.map_cons]
    simp
theorem bytesText_list (l : List Int) : (bytesText l).data.toList = l.map fun n => UInt8.ofNat n.toNat := by
  unfold bytesText
  rw [bt_fold]
  rfl
theorem tok_ascii (l : List Int) (hl : l.length ≤ 100) (h : ∀ x, x ∈ l → 0 ≤ x ∧ x < 128) : TOk (bytesText l) := by
  have hs : (bytesText l).size = l.length := by
    show (bytesText l).data.size = _
    have := congrArg List.length (bytesText_list l)
    simpa using this
  refine tok_of (by omega) ?_
  rw [bytesText_list]
  have := Lib.validD_ascii (l.map fun n => UInt8.ofNat n.toNat).length (l.map fun n => UInt8.ofNat n.toNat) (fun b hb => by
    rw [List.take_length] at hb
    obtain ⟨x, hx, rfl⟩ := List.mem_map.1 hb
    obtain ⟨h0, h1⟩ := h x hx
    rw [UInt8.toNat_ofNat']
    omega)
  rw [this, List.drop_length]
  rfl
theorem word_loop (y1 : Int × GSrc) (j : List Int → List Int → Int → Option (ByteArray × GSrc)) {Q : ByteArray × GSrc → Prop} (hj : ∀ l L A, SrcOk ⟨L, A⟩ → l.length ≤ 4 → (∀ x, x ∈ l → 0 ≤ x ∧ x < 128) → Tot (j l L A) Q) : ∀ (k n : Nat) (q : Int) (L : List Int) (A : Int) (l : List Int), q + k = y1.1 → 0 ≤ q → k < n → SrcOk ⟨L, A⟩ → (l.length : Int) = y1.1 → y1.1 ≤ 4 → (∀ x, x ∈ l → 0 ≤ x ∧ x < 128) → Tot (Src_Word_L0 y1 j n q L A l) Q
  | k, 0, q, L, A, l, _, _, h, _, _, _, _ => by omega
  | 0, n + 1, q, L, A, l, h1, h0, h2, h, h3, h4, hl => by
    rw [Src_Word_L0]
    exact tot_ite (fun hc => by simp only [decide_eq_true_eq] at hc; omega) fun _ => hj l L A h (by omega) hl
  | k + 1, n + 1, q, L, A, l, h1, h0, h2, h, h3, h4, hl => by
    have hw : IntKind.wrap .i64 (q + 1) = q + 1 := Go.Bm.wrap_small (by omega) (by omega)
    rw [Src_Word_L0, hw]
    refine tot_ite (fun _ => ?_) fun hc => by simp only [decide_eq_false_iff_not] at hc; omega
    refine tot_bind (src_N n h (by decide)) fun y ⟨a, b, c⟩ => ?_
    have b := b (by decide)
    have hin : inb q l.length = some q.toNat := by unfold inb; rw [if_pos ⟨by omega, by omega⟩]
    rw [hin]
    refine tot_bind (P := fun k => k = q.toNat) (tot_some rfl) fun k12 hk => ?_
    subst hk
    refine tot_bind (tot_get (by omega)) fun e _ => ?_
    have hwx : IntKind.wrap .u8 (IntKind.wrap .i64 (97 + y.1)) = 97 + y.1 := by
      have : y.1 = 0 ∨ y.1 = 1 ∨ y.1 = 2 ∨ y.1 = 3 := by omega
      rcases this with e | e | e | e <;> rw [e] <;> decide
    refine word_loop y1 j hj k n (q + 1) _ _ _ (by omega) (by omega) (by omega) c (by simpa using h3) h4 fun x hx => ?_
    rcases List.mem_or_eq_of_mem_set hx with hx | rfl
    · exact hl x hx
    · rw [hwx]; omega
theorem src_Word (n : Nat) (hn : 20 ≤ n) {p : GSrc} (h : SrcOk p) : Tot (Src_Word n p 4) fun y => TOk y.1 ∧ SrcOk y.2 := by
  unfold Src_Word
  have e5 : IntKind.wrap .i64 (4 + 1) = 5 := by decide
  rw [e5]
  refine tot_bind (src_N n h (by decide)) fun y ⟨a, b, c⟩ => ?_
  have b := b (by decide)
  have hm : mkO 1 y.1 = some y.1.toNat := by
    unfold mkO
    rw [if_pos ⟨a, by omega, by unfold maxLen; omega⟩]
  rw [hm]
  refine tot_bind (P := fun k => k = y.1.toNat) (tot_some rfl) fun k hk => ?_
  subst hk
  refine tot_withJ3 (fun l L A => SrcOk ⟨L, A⟩ ∧ l.length ≤ 4 ∧ ∀ x, x ∈ l → 0 ≤ x ∧ x < 128) (fun l L A ⟨a, b, c⟩ => tot_some ⟨tok_ascii l (by omega) c, a⟩) fun j k => ?_
  refine word_loop y j (fun l L A a b c => k l L A ⟨a, b, c⟩) y.1.toNat n 0 _ _ _ (by omega) (by omega) (by omega) c (by simp; omega) (by omega) fun x hx => ?_
  have := (List.mem_replicate.1 hx).2
  omega
theorem src_Value (n : Nat) (hn : 30 ≤ n) {p : GSrc} (h : SrcOk p) : Tot (Src_Value n p 0) fun y => COk y.1 ∧ SrcOk y.2 := by
  obtain ⟨n, rfl⟩ : ∃ m, n = m + 1 := ⟨n - 1, by omega⟩
  rw [Src_Value, Src_Value_body]
  refine tot_withJ2 (fun L A => SrcOk ⟨L, A⟩) (fun L A c => ?_) fun j1 k1 => ?_
  · refine tot_bind (src_N n c (by decide)) fun y ⟨a, b, c⟩ => tot_bind (tot_idx a (b (by decide))) fun e he => tot_some ⟨?_, c⟩
    simp only [List.mem_cons, List.not_mem_nil, or_false] at he
    exact cok_num e (by omega) (by omega)
  · refine tot_bind (src_N n h (by decide)) fun y ⟨a, b, c⟩ => tot_ite (fun _ => ?_) fun _ => ?_
    · exact tot_bind (src_N n c (by decide)) fun z ⟨za, zb, zc⟩ => tot_some ⟨cok_flag z.1 (by have := zb (by decide); omega), zc⟩
    · refine tot_withJ1 (fun _ => True) (fun v5 _ => ?_) fun j4 k4 => tot_ite (fun _ => k4 _ trivial) fun _ => k4 _ trivial
      refine tot_ite (fun _ => tot_bind (src_Word n (by omega) c) fun z ⟨zt, zc⟩ => tot_some ⟨cok_text z.1 zt, zc⟩) fun _ => ?_
      refine tot_ite (fun _ => ?_) fun _ => k1 _ _ c
      exact tot_ite (fun hc => by simp at hc) fun _ => k1 _ _ c
theorem VOk.rekey {d : Nat} {v : GView} (h : VOk d v) (key : ByteArray) (hk : KOk key) : VOk d (GView.mk v.Kind key v.Attrs v.Actions v.Kids) := by
  match d, h with
  | d + 1, ⟨hl, hc⟩ => exact ⟨⟨hl.kind, hk, hl.alen, hl.attrs, hl.sort, hl.elen, hl.acts, hl.klen, hl.keys⟩, hc⟩
def Kz (l : List GView) : Prop := ∀ (i k : Nat) (a b : GView), k < i → l[i]? = some a → l[k]? = some b → sEq a.Key (⟨#[]⟩ : ByteArray) = false → sEq a.Key b.Key = false
theorem sEq_symm {x y : ByteArray} (h : sEq x y = false) : sEq y x = false := by
  cases e : sEq y x
  · rfl
  · rw [sEq_eq e, sEq_refl] at h; cases h
theorem Kz.app {l : List GView} (h : Kz l) {v : GView} (hv : ∀ b, b ∈ l → sEq v.Key (⟨#[]⟩ : ByteArray) = false → sEq v.Key b.Key = false) : Kz (l ++ [v]) := by
  intro i k a b hki ha hb hn
  have hil := (List.getElem?_eq_some_iff.1 ha).1
  rw [List.length_append, List.length_singleton] at hil
  rw [List.getElem?_append_left (by omega)] at hb
  by_cases hi : i < l.length
  · rw [List.getElem?_append_left hi] at ha
    exact h i k a b hki ha hb hn
  · rw [List.getElem?_append_right (by omega), show i - l.length = 0 by omega] at ha
    simp only [List.getElem?_cons_zero, Option.some.injEq] at ha
    subst ha
    exact hv b (List.mem_of_getElem? hb) hn
theorem there_loop (l : List GView) (key : ByteArray) (j : Bool → Option (GView × GSrc)) (p1 : Int) (y14 y15 : Int × GSrc) (v42 : Int) (v51 : List Int) (v52 v4 : Int) (y5 : (List GAttr) × GSrc) (v13 : List GAction) (y47 : GView × GSrc) (hl : l.length ≤ 4) {Q : GView × GSrc → Prop} (hj : ∀ b, (b = true ∨ ∀ x, x ∈ l → sEq key (⟨#[]⟩ : ByteArray) = false → sEq key x.Key = false) → Tot (j b) Q) : ∀ (k n i : Nat) (b : Bool), i + k = l.length → k < n → (b = true ∨ ∀ (q : Nat) x, q < i → l[q]? = some x → sEq key (⟨#[]⟩ : ByteArray) = false → sEq key x.Key = false) → Tot (Src_view_L1 l key j p1 y14 y15 v42 v51 v52 v4 y5 v13 y47 n b (i : Int)) Q
  | k, 0, i, b, _, h, _ => by omega
  | 0, n + 1, i, b, hi, hn, hb => by
    rw [Src_view_L1]
    refine tot_ite (fun hc => by simp only [decide_eq_true_eq] at hc; omega) fun _ => hj b ?_
    rcases hb with hb | hb
    · exact .inl hb
    · refine .inr fun x hx => ?_
      obtain ⟨q, hq⟩ := List.getElem?_of_mem hx
      exact hb q x (by have := (List.getElem?_eq_some_iff.1 hq).1; omega) hq
  | k + 1, n + 1, i, b, hi, hn, hb => by
    have hw : IntKind.wrap .i64 ((i : Int) + 1) = ((i + 1 : Nat) : Int) := by rw [Go.Bm.wrap_small (by omega) (by omega)]; omega
    rw [Src_view_L1, hw]
    refine tot_ite (fun _ => ?_) fun hc => by simp only [decide_eq_false_iff_not] at hc; omega
    have hlt : i < l.length := by omega
    have hg : Tot (gd [(!b), (!(sEq key (⟨#[]⟩ : ByteArray)))] (idx l (i : Int))) fun x => b = false → sEq key (⟨#[]⟩ : ByteArray) = false → x = l[i] := by
      rw [idx_nat hlt]
      cases b <;> cases hq : sEq key (⟨#[]⟩ : ByteArray)
      · exact ⟨l[i], by simp [gd], fun _ _ => rfl⟩
      · exact ⟨default, by simp [gd], fun _ h => by cases h⟩
      · exact ⟨default, by simp [gd], fun h => by cases h⟩
      · exact ⟨default, by simp [gd], fun h => by cases h⟩
    refine tot_bind hg fun x hx => ?_
    refine there_loop l key j p1 y14 y15 v42 v51 v52 v4 y5 v13 y47 hl hj k n (i + 1) _ (by omega) (by omega) ?_
    cases hbb : b
    · rcases hb with hb | hb
      · rw [hbb] at hb; cases hb
      · cases hq : sEq key (⟨#[]⟩ : ByteArray)
        · have hx := hx hbb hq
          subst hx
          cases he : sEq l[i].Key key
          · refine .inr fun q x hqi hx' hn' => ?_
            by_cases hqi2 : q < i
            · exact hb q x hqi2 hx' hq
            · obtain rfl : q = i := by omega
              rw [List.getElem?_eq_getElem hlt] at hx'
              obtain rfl := Option.some.inj hx'
              exact sEq_symm he
          · exact .inl rfl
        · refine .inr fun q x hqi hx' hn' => ?_
          cases hn'
    · exact .inl rfl
theorem view_loop (y14 : Int × GSrc) (self : GSrc → Int → Option (GView × GSrc)) (d : Nat) (hd : d ≤ 3) (y15 : Int × GSrc) (v4 : Int) (y5 : (List GAttr) × GSrc) (v13 : List GAction) (j : List GView → List Int → Int → Option (GView × GSrc)) {Q : GView × GSrc → Prop} (h14 : y14.1 ≤ 4)
    (hs : ∀ p, SrcOk p → Tot (self p (d : Int)) fun y => VOk (d + 1) y.1 ∧ y.1.Key = (⟨#[]⟩ : ByteArray) ∧ SrcOk y.2) (hj : ∀ l L A, SrcOk ⟨L, A⟩ → l.length ≤ 4 → Kz l → (∀ v, v ∈ l → VOk (d + 1) v) → Tot (j l L A) Q) : ∀ (k n : Nat) (q : Int) (L : List Int) (A : Int) (l : List GView), q + k = 4 → 0 ≤ q → k + 20 < n → SrcOk ⟨L, A⟩ → (l.length : Int) ≤ q → Kz l → (∀ v, v ∈ l → VOk (d + 1) v) → Tot (Src_view_L0 y14 self ((d + 1 : Nat) : Int) y15 v4 y5 v13 j n q L A l) Q
  | k, 0, q, L, A, l, _, _, h, _, _, _, _ => by omega
  | 0, n + 1, q, L, A, l, h1, h0, h2, h, h3, h4, h5 => by
    rw [Src_view_L0]
    exact tot_ite (fun hc => by simp only [decide_eq_true_eq] at hc; omega) fun _ => hj l L A h (by omega) h4 h5
  | k + 1, n + 1, q, L, A, l, h1, h0, h2, h, h3, h4, h5 => by
    have hw : IntKind.wrap .i64 (q + 1) = q + 1 := Go.Bm.wrap_small (by omega) (by omega)
    have hw2 : IntKind.wrap .i64 (((d + 1 : Nat) : Int) - 1) = (d : Int) := by rw [Go.Bm.wrap_small (by omega) (by omega)]; omega
    rw [Src_view_L0, hw, hw2]
    refine tot_ite (fun _ => ?_) fun _ => hj l L A h (by omega) h4 h5
    refine tot_withJ3 (fun L A (l2 : List GView) => SrcOk ⟨L, A⟩ ∧ (l2.length : Int) ≤ q + 1 ∧ Kz l2 ∧ ∀ v, v ∈ l2 → VOk (d + 1) v) (fun L A l2 ⟨a, b, c, e⟩ => view_loop y14 self d hd y15 v4 y5 v13 j h14 hs hj k n (q + 1) L A l2 (by omega) (by omega) (by omega) a b c e) fun j46 k46 => ?_
    refine tot_bind (hs _ h) fun y47 ⟨v1, v2, c⟩ => ?_
    refine tot_withJ3 (fun L A key => SrcOk ⟨L, A⟩ ∧ KOk key) (fun L2 A2 key ⟨a, b⟩ => ?_) fun j48 k48 => ?_
    · refine tot_withJ1 (fun b => b = true ∨ ∀ x, x ∈ l → sEq key (⟨#[]⟩ : ByteArray) = false → sEq key x.Key = false) (fun bb hb => ?_) fun j54 k54 => ?_
      · refine tot_ite (fun hc => ?_) fun _ => k46 _ _ _ ⟨a, by omega, h4, h5⟩
        refine tot_bind (tot_apd (by simp; omega) (by decide)) fun r hr => ?_
        subst hr
        have hb : ∀ x, x ∈ l → sEq key (⟨#[]⟩ : ByteArray) = false → sEq key x.Key = false := by
          rcases hb with hb | hb
          · rw [hb] at hc; cases hc
          · exact hb
        refine k46 _ _ _ ⟨a, by simp; omega, h4.app (fun x hx => hb x hx), fun v hv => ?_⟩
        rcases List.mem_append.1 hv with hv | hv
        · exact h5 v hv
        · simp only [List.mem_singleton] at hv
          subst hv
          exact v1.rekey key b
      · exact there_loop l key j54 _ y14 y15 q L2 A2 v4 y5 v13 y47 (by omega) k54 l.length n 0 false (by omega) (by omega) (.inr fun q x h => by omega)
    · refine tot_bind (ifo_N n (by decide) c) fun y c => tot_ite (fun _ => ?_) fun _ => k48 _ _ _ ⟨c, by rw [v2]; exact key_nil⟩
      exact tot_bind (src_N n c (by decide)) fun z ⟨za, zb, zc⟩ => k48 _ _ _ ⟨zc, key_ok z.1 za (zb (by decide))⟩
theorem loc_of {kind : Int} {at_ : List GAttr} {ac : List GAction} {l : List GView} (hk : 1 ≤ kind ∧ kind ≤ 13) (ha : AL 15 at_) (h1 : ac.length ≤ 1) (h2 : ∀ a, a ∈ ac → EOk a) (h3 : l.length ≤ 4) (h4 : Kz l) : Loc (GView.mk kind (⟨#[]⟩ : ByteArray) at_ ac l) :=
  ⟨hk, key_nil, by have := ha.len; show at_.length ≤ 24; omega, ha.ok, ha.sort, h1, h2, h3, h4⟩
theorem src_view : ∀ (d : Nat), d ≤ 3 → ∀ (n : Nat) (p : GSrc), d + 100 ≤ n → SrcOk p → Tot (Src_view n p (d : Int)) fun y => VOk (d + 1) y.1 ∧ y.1.Key = (⟨#[]⟩ : ByteArray) ∧ SrcOk y.2 := by
  intro d
  induction d with
  | zero => ?_
  | succ d ih => ?_
  all_goals
    intro hd n p hn h
    obtain ⟨n, rfl⟩ : ∃ m, n = m + 1 := ⟨n - 1, by omega⟩
    rw [Src_view, Src_view_body]
    refine tot_bind (src_N n h (by decide)) fun y ⟨a, b, c⟩ => tot_bind (tot_idx a (b (by decide))) fun e he => ?_
    have hek : 1 ≤ e ∧ e ≤ 13 := by
      simp only [List.mem_cons, List.not_mem_nil, or_false] at he
      omega
    refine tot_withJ1 (fun v4 => 1 ≤ v4 ∧ v4 ≤ 13) (fun v4 hv4 => ?_) fun j k => tot_ite (fun _ => k 1 (by decide)) fun _ => k e hek
    refine tot_bind (src_attrs n (by omega) v4 c) fun y5 ⟨al, c5⟩ => ?_
    refine tot_withJ3 (fun L A (ac : List GAction) => SrcOk ⟨L, A⟩ ∧ ac.length ≤ 1 ∧ ∀ a, a ∈ ac → EOk a) (fun L A ac ⟨s1, s2, s3⟩ => ?_) fun j k => ?_
    rotate_left
    · refine tot_bind (src_N n c5 (by decide)) fun z ⟨_, _, zc⟩ => tot_ite (fun _ => ?_) fun _ => k _ _ _ ⟨zc, by simp, fun a ha => nomatch ha⟩
      refine tot_bind (src_Value n (by omega) zc) fun w ⟨wv, wc⟩ => k _ _ _ ⟨wc, by simp, fun a ha => ?_⟩
      simp only [List.mem_singleton] at ha
      subst ha
      refine ⟨nok_of (by kernel_rfl), nok_of (by kernel_rfl), (by decide : (⟨#[47]⟩ : ByteArray).size ≤ 400), by simp, fun x hx => ?_⟩
      simp only [List.mem_singleton] at hx
      subst hx
      exact wv
  · exact tot_ite (fun _ => tot_some ⟨⟨loc_of hv4 al s2 s3 (by simp) (fun i k a b _ ha => by simp at ha), fun k hk => nomatch hk⟩, rfl, s1⟩) fun hc => by simp at hc
  · refine tot_ite (fun hc => by simp at hc; omega) fun _ => ?_
    refine tot_bind (src_N n s1 (by decide)) fun y14 ⟨_, b14, c14⟩ => tot_bind (src_N n c14 (by decide)) fun y15 ⟨_, _, c15⟩ => ?_
    have b14 := b14 (by decide)
    refine tot_withJ3 (fun (l : List GView) L A => SrcOk ⟨L, A⟩ ∧ l.length ≤ 4 ∧ Kz l ∧ ∀ v, v ∈ l → VOk (d + 1) v) (fun l L A ⟨q1, q2, q3, q4⟩ => tot_some ⟨⟨loc_of hv4 al s2 s3 q2 q3, q4⟩, rfl, q1⟩) fun j k => ?_
    exact view_loop y14 (fun a0 a1 => Src_view n a0 a1) d (by omega) y15 v4 y5 ac j (by omega) (fun p hp => ih (by omega) n p (by omega) hp) (fun l L A a b c e => k l L A ⟨a, b, c, e⟩) 4 n 0 _ _ [] (by omega) (by omega) (by omega) c15 (by simp) (fun i k a b _ ha => by simp at ha) (fun v hv => nomatch hv)
theorem src_View (n : Nat) (hn : 9000 ≤ n) {p : GSrc} (h : SrcOk p) : Tot (Src_View n p 3) fun y => VOk 4 y.1 ∧ SrcOk y.2 := by
  unfold Src_View
  refine tot_bind (src_view 3 (by decide) n p (by omega) h) fun y ⟨a, b, c⟩ => ?_
  have hf := a.fuel4
  rw [valid_ref a n (by omega)]
  refine tot_bind (P := fun e => e = 0) (tot_some rfl) fun e he => ?_
  subst he
  exact tot_ite (fun hc => by simp at hc) fun _ => tot_some ⟨a, c⟩
/-- a drawn tree is the tree of a valid view -/
theorem src_Tree (n : Nat) (hn : 9000 ≤ n) {p : GSrc} (h : SrcOk p) : Tot (Src_Tree n p 3) fun y => (∃ v, VOk 4 v ∧ TreeOf y.1 v) ∧ SrcOk y.2 := by
  unfold Src_Tree
  refine tot_bind (src_View n hn h) fun y ⟨a, c⟩ => tot_bind (src_Range n c (by decide) (by decide) (by decide)) fun z ⟨z1, z2, zc⟩ => ?_
  have hf := a.fuel4
  obtain ⟨t, ht, hT⟩ := tree_of a n z.1 (by omega) z1 (by omega)
  rw [ht]
  refine tot_bind (P := fun w => w = (t, 0)) (tot_some rfl) fun w hw => ?_
  subst hw
  exact tot_some ⟨⟨y.1, a, hT⟩, zc⟩
end Go.Proofs.YtojkihhnioeggaaDoor.S
