import Derived.Test.YtojkihhnioeggaaGreatDoorQUCs4
import Derived.WalkKit
import Derived.WalkSpells
import Derived.WalkLawsBesides
import Derived.Deep.QuietTactic
import Derived.BigQuiet
import Derived.BigRegion
import Derived.Lib.Hide
import Derived.Deep.RegionWith
set_option linter.unusedSimpArgs false
set_option linter.unusedVariables false
set_option linter.unusedSimpArgs false
set_option linter.unusedVariables false
namespace Go.Proofs.YtojkihhnioeggaaGreatDoor.S
open Go Go.Bm
def Wq : List ByteArray := [(⟨#[105, 110, 107]⟩ : ByteArray), (⟨#[112, 97, 112, 101, 114]⟩ : ByteArray), (⟨#[115, 112, 97, 99, 101]⟩ : ByteArray)]
def Vok (v : Int) : Prop := -1 ≤ v ∧ v ≤ 16777215
structure TkOk (t : dM) : Prop where
 a : Vok t.Light
 b : Vok t.Dark
 c : Vok t.HighLight
 d : Vok t.HighDark
structure mO (th : bS) : Prop where
 len : th.Tokens.length ≤ 3
 nam : th.Tokens.map dM.Name = Wq.take th.Tokens.length
 val : ∀ t, t ∈ th.Tokens → TkOk t
theorem tnl_nd : Wq.Nodup := by unfold Wq; decide
theorem mO.nd {th : bS} (h : mO th) : (th.Tokens.map dM.Name).Nodup := by
 rw [h.nam]; exact List.Sublist.nodup (List.take_sublist _ _) tnl_nd
theorem mO.nok {th : bS} (h : mO th) {t : dM} (ht : t ∈ th.Tokens) : Qw t.Name := by
 have : t.Name ∈ Wq := by
  have : t.Name ∈ th.Tokens.map dM.Name := List.mem_map.2 ⟨t, ht, rfl⟩
  rw [h.nam] at this
  exact List.mem_of_mem_take this
 unfold Wq at this
 simp only [List.mem_cons, List.not_mem_nil, or_false] at this
 rcases this with e | e | e
 all_goals rw [e]; exact tR (by kernel_rfl)
theorem sEq_ne {x y : ByteArray} (h : x ≠ y) : bV x y = false := by
 cases hs : bV x y
 ·rfl
 ·exact absurd (Oz hs) h
theorem Yg {v : Int} (h : Vok v) (n : Nat) : ∃ y, gd [(v != (-1 : Int))] (oZ n v) = some y ∧ ((v != (-1 : Int)) && (!y)) = false := by
 obtain ⟨h1, h2⟩ := h
 by_cases e : v = -1
 ·subst e; exact ⟨_, rfl, rfl⟩
 ·have c : (v != (-1 : Int)) = true := by simpa using e
  rw [c]
  refine ⟨true, ?_, rfl⟩
  unfold oZ gd
  have e1 : decide (v ≥ 0) = true := by simp; omega
  have e2 : decide (v ≤ 16777215) = true := by simp; omega
  rw [e1, e2]; rfl
theorem Cq {v : Int} (h : Vok v) (n : Nat) : mX n v = some true := by
 obtain ⟨h1, h2⟩ := h
 unfold mX
 have e1 : decide (v ≥ (-1 : Int)) = true := by simp; omega
 have e2 : decide (v ≤ 16777215) = true := by simp; omega
 rw [e1, e2]; rfl
theorem th_L1 (e : dM) (he : TkOk e) (j : List (ByteArray × Bool) → Option Int) (M : List (ByteArray × Bool)) (p : bS) (w : Int) (n : Nat) (hn : 10 ≤ n) : dN e j M p w n 0 = j (fY e.Name true M) := by
 have step : ∀ (k : Nat) (v : Int) (n : Nat), k < 4 → (gE.toL (gE.mk e.Light e.Dark e.HighLight e.HighDark))[k]? = some v → Vok v → dN e j M p w (n + 1) (k : Int) = dN e j M p w n ((k + 1 : Nat) : Int) := fun k v n hk hv ho => by
  have hw : IntKind.wrap .i64 ((k : Int) + 1) = ((k + 1 : Nat) : Int) := by rw [Go.Bm.aT (by omega) (by omega)]; omega
  obtain ⟨y, hy1, hy2⟩ := Yg ho n
  have hi : idx (gE.toL (gE.mk e.Light e.Dark e.HighLight e.HighDark)) (k : Int) = some v := by unfold idx; rw [if_pos (by omega), Int.toNat_natCast]; exact hv
  rw [dN, if_pos (by simp; omega), hi]
  simp only [Option.bind_some, hy1, hy2, hw, Bool.false_eq_true, if_false]
 obtain ⟨n, rfl⟩ : ∃ m, n = m + 5 := ⟨n - 5, by omega⟩
 rw [show (0 : Int) = ((0 : Nat) : Int) from rfl, step 0 _ _ (by decide) rfl he.a, step 1 _ _ (by decide) rfl he.b, step 2 _ _ (by decide) rfl he.c, step 3 _ _ (by decide) rfl he.d, dN, if_neg (by simp)]
theorem th_L0 {th : bS} (h : mO th) : ∀ (l pre : List dM) (n : Nat) (q : Int) (M : List (ByteArray × Bool)), th.Tokens = pre ++ l → q = pre.length → l.length + 100 < n → (∀ p, p ∈ M → ∃ t, t ∈ pre ∧ t.Name = p.1) → fH th (fun _ => some 0) n q M = some 0
 | [], pre, n, q, M, ht, hq, hn, hM => by
  obtain ⟨n, rfl⟩ : ∃ m, n = m + 1 := ⟨n - 1, by simp at hn; omega⟩
  have hlen : th.Tokens.length = pre.length := by rw [ht]; simp
  rw [fH, if_neg (by simp; omega)]
 | x :: l, pre, n, q, M, ht, hq, hn, hM => by
  obtain ⟨n, rfl⟩ : ∃ m, n = m + 1 := ⟨n - 1, by simp at hn; omega⟩
  have hlen : th.Tokens.length = pre.length + (l.length + 1) := by rw [ht]; simp
  have h3 := h.len
  have hw : IntKind.wrap .i64 (q + 1) = q + 1 := Go.Bm.aT (by omega) (by omega)
  have hx : x ∈ th.Tokens := by rw [ht]; simp
  have hnd := h.nd
  rw [ht, List.map_append, List.nodup_append] at hnd
  have hnone : M.lookup x.Name = none := wQ fun p hp e => by
   obtain ⟨t, ht', he⟩ := hM p hp
   exact hnd.2.2 t.Name (List.mem_map.2 ⟨t, ht', rfl⟩) x.Name (by simp) (he.trans e)
  rw [fH, if_pos (by simp; omega)]
  unfold aS
  rw [jX ht hq]
  simp only [Option.bind_some, (h.nok hx).prog n (by simp at hn; omega), Bool.not_true, Bool.false_eq_true, if_false, cZ, hnone, Option.getD_none, show (default : Bool) = false from rfl, hw]
  rw [th_L1 x (h.val x hx) _ M th q n (by simp at hn; omega)]
  refine th_L0 h l (pre ++ [x]) n (q + 1) _ (by rw [ht]; simp) (by simp; omega) (by simp at hn; omega) fun p hp => ?_
  rcases zY hp with e | ⟨r, hr, e⟩
  ·exact ⟨x, by simp, e.symm⟩
  ·obtain ⟨t, ht', he⟩ := hM r hr
   exact ⟨t, by simp [ht'], he.trans e⟩
theorem Yf {th : bS} (x : dM) (pre l : List dM) (ht : th.Tokens = pre ++ l) (hx : ∀ t, t ∈ pre → t.Name ≠ x.Name) (j : Unit → Option Int) (hz : pre.length ≤ 1000) : ∀ (k i n : Nat), i + k = pre.length → k < n → jA (pre.length : Int) th x j n (i : Int) = j ()
 | 0, i, n, hi, hn => by
  obtain ⟨n, rfl⟩ : ∃ m, n = m + 1 := ⟨n - 1, by omega⟩
  rw [jA, if_neg (by simp; omega)]
 | k + 1, i, n, hi, hn => by
  obtain ⟨n, rfl⟩ : ∃ m, n = m + 1 := ⟨n - 1, by omega⟩
  have hw : IntKind.wrap .i64 ((i : Int) + 1) = ((i + 1 : Nat) : Int) := by rw [Go.Bm.aT (by omega) (by omega)]; omega
  have hlt : i < pre.length := by omega
  have hix : idx th.Tokens (i : Int) = some pre[i] := by
   unfold idx; rw [if_pos (by omega), Int.toNat_natCast, ht, List.getElem?_append_left hlt, List.getElem?_eq_getElem hlt]
  rw [jA, if_pos (by simp; omega), hix]
  simp only [Option.bind_some, sEq_ne (hx _ (List.getElem_mem hlt)), Bool.false_eq_true, if_false, hw]
  exact Yf x pre l ht hx j hz k (i + 1) n (by omega) (by omega)
theorem Yo {th : bS} (h : mO th) : ∀ (l pre : List dM) (n : Nat) (q : Int), th.Tokens = pre ++ l → q = pre.length → l.length + 100 < n → iY th (fun _ => some 0) n q = some 0
 | [], pre, n, q, ht, hq, hn => by
  obtain ⟨n, rfl⟩ : ∃ m, n = m + 1 := ⟨n - 1, by simp at hn; omega⟩
  have hlen : th.Tokens.length = pre.length := by rw [ht]; simp
  rw [iY, if_neg (by simp; omega)]
 | x :: l, pre, n, q, ht, hq, hn => by
  obtain ⟨n, rfl⟩ : ∃ m, n = m + 1 := ⟨n - 1, by simp at hn; omega⟩
  have hlen : th.Tokens.length = pre.length + (l.length + 1) := by rw [ht]; simp
  have h3 := h.len
  have hw : IntKind.wrap .i64 (q + 1) = q + 1 := Go.Bm.aT (by omega) (by omega)
  have hx : x ∈ th.Tokens := by rw [ht]; simp
  have hnd := h.nd
  rw [ht, List.map_append, List.nodup_append] at hnd
  have ho := h.val x hx
  rw [iY, if_pos (by simp; omega)]
  unfold aS
  rw [jX ht hq]
  simp only [Option.bind_some, (h.nok hx).ref n (by simp at hn; omega), Bool.not_true, Bool.false_eq_true, if_false, hw]
  have h1 := fun j => Yf (th := th) x pre (x :: l) ht (fun t ht' e => hnd.2.2 t.Name (List.mem_map.2 ⟨t, ht', rfl⟩) x.Name (by simp) e) j (by omega) pre.length 0 n (by omega) (by omega)
  rw [hq]
  refine (h1 _).trans ?_
  simp only [Cq ho.a, Cq ho.b, Cq ho.c, Cq ho.d, Option.bind_some, rS, Bool.not_true, Bool.not_false, Bool.or_self, if_true, Bool.false_eq_true, if_false]
  rw [← hq]
  exact Yo h l (pre ++ [x]) n (q + 1) (by rw [ht]; simp) (by simp; omega) (by simp at hn; omega)
theorem Uz {th : bS} (h : mO th) (n : Nat) (hn : 200 ≤ n) : kZ n th = some 0 ∧ qV n th = some 0 := by
 have h3 := h.len
 unfold kZ qV aS
 rw [if_neg (by simp; omega), if_neg (by simp; omega)]
 exact ⟨th_L0 h th.Tokens [] n 0 [] rfl rfl (by omega) (fun p hp => nomatch hp), Yo h th.Tokens [] n 0 rfl rfl (by omega)⟩
theorem Zx {r : bY} {d : bM} (h : DOk r.States d) (n : Nat) (hn : 100 ≤ n) : iR n d r.States = some 0 ∧ nT n r d = some 0 := by
 obtain ⟨p1, p2⟩ := h.prop
 obtain ⟨s1, s2⟩ := h.src
 have a1 : decide (d.Prop_ ≥ 0) = true := by simp; omega
 have a2 : decide (d.Prop_ < 22) = true := by simp; omega
 have a3 : decide (d.Prop_ < 0) = false := by simp; omega
 have a4 : decide (d.Prop_ ≥ 22) = false := by simp; omega
 have a5 : decide (d.Source < 0) = false := by simp; omega
 have a6 : decide (d.Source > 3) = false := by simp; omega
 have a7 : ((d.N != 0) && (d.Source != 0)) = false := by
  by_cases e : d.Source = 0
  ·simp [e]
  ·simp [h.num e]
 have a8 : ((!(bV d.Token (⟨#[]⟩ : ByteArray))) && (d.Source != 1)) = false := by
  by_cases e : d.Source = 1
  ·simp [e]
  ·simp [h.tok e, eY]
 have a9 : (((d.Prop_ == 5) || (d.Prop_ == 21)) && ((mI .i64 r.States 7) != 0)) = false := by
  by_cases e : mI .i64 r.States 7 = 0
  ·simp [e]
  ·obtain ⟨e1, e2⟩ := h.pass e
   simp [e1, e2]
 have g1 : ∃ y, gd [(d.Source == 0)] (dC n d.Prop_ d.N) = some y ∧ ((d.Source == 0) && (!y)) = false := by
  rw [(Fw n _ _).1]
  by_cases e : d.Source = 0
  ·exact ⟨true, by simp [gd, e, h.rng e], by simp⟩
  ·have : (d.Source == 0) = false := by simpa using e
   rw [this]; exact ⟨_, rfl, rfl⟩
 have g1' : ∃ y, gd [(d.Source == 0)] (dK n d.Prop_ d.N) = some y ∧ ((d.Source == 0) && (!y)) = false := by
  rw [(Fw n _ _).2]
  by_cases e : d.Source = 0
  ·exact ⟨true, by simp [gd, e, h.rng e], by simp⟩
  ·have : (d.Source == 0) = false := by simpa using e
   rw [this]; exact ⟨_, rfl, rfl⟩
 have g2 : ∃ y, gd [(d.Source == 1)] (eH n d.Token) = some y ∧ ((d.Source == 1) && (!y)) = false := by
  by_cases e : d.Source = 1
  ·exact ⟨true, by simp [gd, e, (h.name e).prog n (by omega)], by simp⟩
  ·have : (d.Source == 1) = false := by simpa using e
   rw [this]; exact ⟨_, rfl, rfl⟩
 have g2' : ∃ y, gd [(d.Source == 1)] (dQ n d.Token) = some y ∧ ((d.Source == 1) && (!y)) = false := by
  by_cases e : d.Source = 1
  ·exact ⟨true, by simp [gd, e, (h.name e).ref n (by omega)], by simp⟩
  ·have : (d.Source == 1) = false := by simpa using e
   rw [this]; exact ⟨_, rfl, rfl⟩
 obtain ⟨y1, u1, v1⟩ := g1
 obtain ⟨y2, u2, v2⟩ := g2
 obtain ⟨z1, u3, v3⟩ := g1'
 obtain ⟨z2, u4, v4⟩ := g2'
 constructor
 ·unfold iR gX aS
  simp only [a1, a2, a5, a6, a7, a8, a9, u1, u2, v1, v2, Bool.and_self, Bool.or_self, Bool.not_true, Bool.false_eq_true, if_false, Option.bind_some]
 ·unfold nT
  simp only [a3, a4, a5, a6, a7, a8, a9, u3, u4, v3, v4, Bool.or_self, Bool.false_eq_true, if_false, Option.bind_some]
theorem Dq {r : bY} (hz : r.Decls.length ≤ 50) (h : ∀ d, d ∈ r.Decls → DOk r.States d) (p : bH) (w : Int) (j : Unit → Option Int) : ∀ (k i n : Nat), i + k = r.Decls.length → k + 100 < n → fB r j p w n (i : Int) = j () ∧ iW r j w p n (i : Int) = j ()
 | 0, i, n, hi, hn => by
  obtain ⟨n, rfl⟩ : ∃ m, n = m + 1 := ⟨n - 1, by omega⟩
  exact ⟨by rw [fB, if_neg (by simp; omega)], by rw [iW, if_neg (by simp; omega)]⟩
 | k + 1, i, n, hi, hn => by
  obtain ⟨n, rfl⟩ : ∃ m, n = m + 1 := ⟨n - 1, by omega⟩
  have hw : IntKind.wrap .i64 ((i : Int) + 1) = ((i + 1 : Nat) : Int) := by rw [Go.Bm.aT (by omega) (by omega)]; omega
  have hlt : i < r.Decls.length := by omega
  obtain ⟨d1, d2⟩ := Zx (h _ (List.getElem_mem hlt)) n (by omega)
  obtain ⟨ih1, ih2⟩ := Dq hz h p w j k (i + 1) n (by omega) (by omega)
  rw [fB, iW, if_pos (by simp; omega), if_pos (by simp; omega), dU hlt]
  simp only [Option.bind_some, d1, d2, bne_self_eq_false, Bool.false_eq_true, if_false, hw]
  exact ⟨ih1, ih2⟩
theorem Na {s : bH} (h : iX s) (j : Unit → Option Int) : ∀ (k i n : Nat), i + k = s.Rules.length → k + 200 < n → eG s j n (i : Int) = j () ∧ gM s j n (i : Int) = j ()
 | 0, i, n, hi, hn => by
  obtain ⟨n, rfl⟩ : ∃ m, n = m + 1 := ⟨n - 1, by omega⟩
  exact ⟨by rw [eG, if_neg (by simp; omega)], by rw [gM, if_neg (by simp; omega)]⟩
 | k + 1, i, n, hi, hn => by
  obtain ⟨n, rfl⟩ : ∃ m, n = m + 1 := ⟨n - 1, by omega⟩
  have hsl := h.len
  have hw : IntKind.wrap .i64 ((i : Int) + 1) = ((i + 1 : Nat) : Int) := by rw [Go.Bm.aT (by omega) (by omega)]; omega
  have hlt : i < s.Rules.length := by omega
  have hr := h.ok _ (List.getElem_mem hlt)
  obtain ⟨ih1, ih2⟩ := Na h j k (i + 1) n (by omega) (by omega)
  generalize hg : s.Rules[i] = r at hr
  have b1 : ((((decide (r.Kind < 0)) || (decide (r.Kind > 13))) || (decide (r.UnderKind < 0))) || (decide (r.UnderKind > 13))) = false := by
   have := hr.kind; have := hr.uk; simp; omega
  have b2 : ((decide (r.States < 0)) || (decide (r.States > 31))) = false := by have := hr.st; simp; omega
  have hd := hr.len
  have b3 : decide ((List.length r.Decls : Int) > 50) = false := by simp; omega
  obtain ⟨d1, d2⟩ := Dq (by omega) hr.dec s (i : Int) (fun _ => eG s j n ((i + 1 : Nat) : Int)) r.Decls.length 0 n (by omega) (by omega)
  obtain ⟨_, d3⟩ := Dq (by omega) hr.dec s (i : Int) (fun _ => gM s j n ((i + 1 : Nat) : Int)) r.Decls.length 0 n (by omega) (by omega)
  have c1 : ∃ y, gd [(!(bV r.Class (⟨#[]⟩ : ByteArray)))] (eH n r.Class) = some y ∧ gd [(!(bV r.Class (⟨#[]⟩ : ByteArray)))] (dQ n r.Class) = some y ∧ ((!(bV r.Class (⟨#[]⟩ : ByteArray))) && (!y)) = false := by
   rcases hr.cls with e | e
   ·rw [e, eY]; exact ⟨_, rfl, rfl, rfl⟩
   ·rw [e.prog n (by omega), e.ref n (by omega)]
    cases bV r.Class (⟨#[]⟩ : ByteArray) <;> exact ⟨_, rfl, rfl, rfl⟩
  have c2 : ∃ y, gd [true, (!(bV r.UnderClass (⟨#[]⟩ : ByteArray)))] (eH n r.UnderClass) = some y ∧ gd [true, (!(bV r.UnderClass (⟨#[]⟩ : ByteArray)))] (dQ n r.UnderClass) = some y ∧ ((!(bV r.UnderClass (⟨#[]⟩ : ByteArray))) && (!y)) = false := by
   rcases hr.uc with e | e
   ·rw [e, eY]; exact ⟨_, rfl, rfl, rfl⟩
   ·rw [e.prog n (by omega), e.ref n (by omega)]
    cases bV r.UnderClass (⟨#[]⟩ : ByteArray) <;> exact ⟨_, rfl, rfl, rfl⟩
  obtain ⟨y1, u1, u2, u3⟩ := c1
  obtain ⟨y2, v1, v2, v3⟩ := c2
  constructor
  ·rw [eG, if_pos (by simp; omega)]
   unfold aS
   rw [dU hlt, hg]
   simp only [Option.bind_some, b1, b2, b3, u1, u3, Bool.not_false, v1, v3, Bool.or_self, Bool.false_eq_true, if_false, hw]
   exact d1.trans ih1
  ·rw [gM, if_pos (by simp; omega)]
   unfold aS
   rw [dU hlt, hg]
   simp only [Option.bind_some, b1, b2, b3, u2, u3, Bool.not_false, v2, v3, Bool.or_self, Bool.false_eq_true, if_false, hw]
   exact d3.trans ih2
theorem Vr {s : bH} (h : iX s) (n : Nat) (hn : 300 ≤ n) : lO n s = some 0 ∧ qI n s = some 0 := by
 have hl := h.len
 unfold lO qI aS
 rw [if_neg (by simp; omega), if_neg (by simp; omega)]
 exact Na h _ s.Rules.length 0 n (by omega) (by omega)
theorem Fk (j : List dM → List Int → Int → Option (bS × aN)) {Q : bS × aN → Prop} (hj : ∀ l L A, bR ⟨L, A⟩ → mO ⟨l⟩ → kV (j l L A) Q) : ∀ (k q n : Nat) (L : List Int) (A : Int) (l : List dM), q + k = 3 → k + 30 < n → bR ⟨L, A⟩ → l.length = q → l.map dM.Name = Wq.take q → (∀ t, t ∈ l → TkOk t) → kV (lU j n (q : Int) L A l) Q
 | k, q, 0, L, A, l, _, h, _, _, _, _ => by omega
 | k, q, n + 1, L, A, l, hq, hn, h, hl, hm, hv => by
  rw [lU]
  refine aG (cV n h (by decide)) fun y1 ⟨a1, b1, c1⟩ => bN (fun hc => ?_) fun _ => hj l _ _ c1 ⟨by show l.length ≤ 3; omega, by show l.map _ = Wq.take l.length; rw [hm, hl], hv⟩
  simp only [decide_eq_true_eq] at hc
  have b1 := b1 (by decide)
  match k, hq, hn with
  | 0, hq, hn => omega
  | k + 1, hq, hn =>
   have hw : IntKind.wrap .i64 ((q : Int) + 1) = ((q + 1 : Nat) : Int) := by rw [Go.Bm.aT (by omega) (by omega)]; omega
   have hq3 : q < 3 := by omega
   have hix : idx Wq (q : Int) = some (Wq[q]'hq3) := dU hq3
   show kV ((idx Wq (q : Int)).bind _) Q
   rw [hix]
   refine aG (P := fun x => x = Wq[q]'hq3) (bX rfl) fun x hx => ?_
   subst hx
   refine aG (cV n c1 (by decide)) fun y2 ⟨a2, b2, c2⟩ => aG (cV n c2 (by decide)) fun y3 ⟨a3, b3, c3⟩ => aG (cV n c3 (by decide)) fun y4 ⟨a4, b4, c4⟩ => aG (cV n c4 (by decide)) fun y5 ⟨a5, b5, c5⟩ => aG (dV (by simp; omega) (by decide)) fun r hr => ?_
   subst hr
   have b2 := b2 (by decide); have b3 := b3 (by decide); have b4 := b4 (by decide); have b5 := b5 (by decide)
   have hw3 : IntKind.wrap .i64 (y3.1 - 1) = y3.1 - 1 := Go.Bm.aT (by omega) (by omega)
   rw [hw]
   refine Fk j hj k (q + 1) n _ _ _ (by omega) (by omega) c5 (by simp; omega) ?_ fun t ht => ?_
   ·rw [List.map_append, hm, List.take_add_one]
    congr 1
    rw [List.getElem?_eq_getElem hq3]; rfl
   ·rcases List.mem_append.1 ht with ht | ht
    ·exact hv t ht
    ·simp only [List.mem_singleton] at ht
     subst ht
     refine ⟨⟨?_, ?_⟩, ⟨?_, ?_⟩, ⟨?_, ?_⟩, ⟨?_, ?_⟩⟩
     all_goals simp only [hw3]
     all_goals omega
theorem Ui (n : Nat) (hn : 60 ≤ n) {p : aN} (h : bR p) : kV (sA n p) fun y => mO y.1 ∧ bR y.2 := by
 unfold sA aS
 exact Fk _ (fun l L A a b => bX ⟨b, a⟩) 3 0 n _ _ [] (by omega) (by omega) h rfl rfl fun t ht => nomatch ht
end Go.Proofs.YtojkihhnioeggaaGreatDoor.S
