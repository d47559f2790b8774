import Derived.Test.YtojkihhnioeggaaGreatDoorQECs4
import Derived.WalkLawsBesides
import Derived.Deep.QuietTactic
import Derived.BigQuiet
import Derived.BigRegion
import Derived.Lib.Hide
import Derived.Deep.RegionWith
set_option linter.unusedSimpArgs false
set_option linter.all false
set_option linter.unusedVariables false
namespace Go.Proofs.YtojkihhnioeggaaGreatDoor.S
open Go Go.Bm
def tnl : List ByteArray := [(⟨#[105, 110, 107]⟩ : ByteArray), (⟨#[112, 97, 112, 101, 114]⟩ : ByteArray), (⟨#[115, 112, 97, 99, 101]⟩ : ByteArray)]
def Vok (v : Int) : Prop := -1 ≤ v ∧ v ≤ 16777215
structure TkOk (t : fJ) : Prop where
 a : Vok t.Light
 b : Vok t.Dark
 c : Vok t.HighLight
 d : Vok t.HighDark
structure oD (th : bS) : Prop where
 len : th.Tokens.length ≤ 3
 nam : th.Tokens.map fJ.Name = tnl.take th.Tokens.length
 val : ∀ t, t ∈ th.Tokens → TkOk t
theorem tnl_nd : tnl.Nodup := by unfold tnl; decide
theorem oD.nd {th : bS} (h : oD th) : (th.Tokens.map fJ.Name).Nodup := by
 rw [h.nam]; exact List.Sublist.nodup (List.take_sublist _ _) tnl_nd
theorem oD.nok {th : bS} (h : oD th) {t : fJ} (ht : t ∈ th.Tokens) : Um t.Name := by
 have : t.Name ∈ tnl := by
  have : t.Name ∈ th.Tokens.map fJ.Name := List.mem_map.2 ⟨t, ht, rfl⟩
  rw [h.nam] at this
  exact List.mem_of_mem_take this
 unfold tnl at this
 simp only [List.mem_cons, List.not_mem_nil, or_false] at this
 rcases this with e | e | e
 all_goals rw [e]; exact vO (by kernel_rfl)
theorem sEq_ne {x y : ByteArray} (h : x ≠ y) : bP x y = false := by
 cases hs : bP x y
 ·rfl
 ·exact absurd (Sj hs) h
theorem vok_prog {v : Int} (h : Vok v) (n : Nat) : ∃ y, gd [(v != (-1 : Int))] (qY n v) = some y ∧ ((v != (-1 : Int)) && (!y)) = false := by
 obtain ⟨h1, h2⟩ := h
 by_cases e : v = -1
 ·subst e; exact ⟨_, rfl, rfl⟩
 ·have c : (v != (-1 : Int)) = true := by simpa using e
  rw [c]
  refine ⟨true, ?_, rfl⟩
  unfold qY gd
  have e1 : decide (v ≥ 0) = true := by simp; omega
  have e2 : decide (v ≤ 16777215) = true := by simp; omega
  rw [e1, e2]; rfl
theorem Fq {v : Int} (h : Vok v) (n : Nat) : kZ n v = some true := by
 obtain ⟨h1, h2⟩ := h
 unfold kZ
 have e1 : decide (v ≥ (-1 : Int)) = true := by simp; omega
 have e2 : decide (v ≤ 16777215) = true := by simp; omega
 rw [e1, e2]; rfl
theorem th_L1 (e : fJ) (he : TkOk e) (j : List (ByteArray × Bool) → Option Int) (M : List (ByteArray × Bool)) (p : bS) (w : Int) (n : Nat) (hn : 10 ≤ n) : dX e j M p w n 0 = j (gS e.Name true M) := by
 have step : ∀ (k : Nat) (v : Int) (n : Nat), k < 4 → (gY.toL (gY.mk e.Light e.Dark e.HighLight e.HighDark))[k]? = some v → Vok v → dX e j M p w (n + 1) (k : Int) = dX e j M p w n ((k + 1 : Nat) : Int) := fun k v n hk hv ho => by
  have hw : w6 ((k : Int) + 1) = ((k + 1 : Nat) : Int) := by rw [wS (by omega) (by omega)]; omega
  obtain ⟨y, hy1, hy2⟩ := vok_prog ho n
  have hi : idx (gY.toL (gY.mk e.Light e.Dark e.HighLight e.HighDark)) (k : Int) = some v := by unfold idx; rw [if_pos (by omega), Int.toNat_natCast]; exact hv
  rw [dX, if_pos (by simp; omega), hi]
  simp only [oB, hy1, hy2, hw, fT, if_false]
 obtain ⟨n, rfl⟩ : ∃ m, n = m + 5 := ⟨n - 5, by omega⟩
 rw [show (0 : Int) = ((0 : Nat) : Int) from rfl, step 0 _ _ (by decide) rfl he.a, step 1 _ _ (by decide) rfl he.b, step 2 _ _ (by decide) rfl he.c, step 3 _ _ (by decide) rfl he.d, dX, if_neg (by simp)]
theorem th_L0 {th : bS} (h : oD th) : ∀ (l pre : List fJ) (n : Nat) (q : Int) (M : List (ByteArray × Bool)), th.Tokens = pre ++ l → q = pre.length → l.length + 100 < n → (∀ p, p ∈ M → ∃ t, t ∈ pre ∧ t.Name = p.1) → fW th (fun _ => some 0) n q M = some 0
 | [], pre, n, q, M, ht, hq, hn, hM => by
  obtain ⟨n, rfl⟩ := nS n (by simp at hn; omega)
  have ab : th.Tokens.length = pre.length := by rw [ht]; simp
  rw [fW, if_neg (by simp; omega)]
 | x :: l, pre, n, q, M, ht, hq, hn, hM => by
  obtain ⟨n, rfl⟩ := nS n (by simp at hn; omega)
  have ab : th.Tokens.length = pre.length + (l.length + 1) := by rw [ht]; simp
  have h3 := h.len
  have hw : w6 (q + 1) = q + 1 := wS (by omega) (by omega)
  have hx : x ∈ th.Tokens := by rw [ht]; simp
  have au := h.nd
  rw [ht, List.map_append, List.nodup_append] at au
  have aj : M.lookup x.Name = none := uT fun p hp e => by
   obtain ⟨t, ht', he⟩ := hM p hp
   exact au.2.2 t.Name (List.mem_map.2 ⟨t, ht', rfl⟩) x.Name (by simp) (he.trans e)
  rw [fW, if_pos (by simp; omega)]
  unfold aS
  rw [kI ht hq]
  simp only [oB, (h.nok hx).prog n (by simp at hn; omega), Bool.not_true, fT, if_false, cZ, aj, Option.getD_none, show (default : Bool) = false from rfl, hw]
  rw [th_L1 x (h.val x hx) _ M th q n (by simp at hn; omega)]
  refine th_L0 h l (pre ++ [x]) n (q + 1) _ (by rw [ht]; simp) (by simp; omega) (by simp at hn; omega) fun p hp => ?_
  rcases Cu hp with e | ⟨r, hr, e⟩
  ·exact ⟨x, by simp, e.symm⟩
  ·obtain ⟨t, ht', he⟩ := hM r hr
   exact ⟨t, by simp [ht'], he.trans e⟩
theorem rth_L1 {th : bS} (x : fJ) (pre l : List fJ) (ht : th.Tokens = pre ++ l) (hx : ∀ t, t ∈ pre → t.Name ≠ x.Name) (j : Unit → Option Int) (hz : pre.length ≤ 1000) : ∀ (k i n : Nat), i + k = pre.length → k < n → gF (pre.length : Int) th x j n (i : Int) = j ()
 | 0, i, n, hi, hn => by
  obtain ⟨n, rfl⟩ := nS n (by omega)
  rw [gF, if_neg (by simp; omega)]
 | k + 1, i, n, hi, hn => by
  obtain ⟨n, rfl⟩ := nS n (by omega)
  have hw : w6 ((i : Int) + 1) = ((i + 1 : Nat) : Int) := by rw [wS (by omega) (by omega)]; omega
  have ae : i < pre.length := by omega
  have hix : idx th.Tokens (i : Int) = some pre[i] := by
   unfold idx; rw [if_pos (by omega), Int.toNat_natCast, ht, List.getElem?_append_left ae, List.getElem?_eq_getElem ae]
  rw [gF, if_pos (by simp; omega), hix]
  simp only [oB, sEq_ne (hx _ (List.getElem_mem ae)), fT, if_false, hw]
  exact rth_L1 x pre l ht hx j hz k (i + 1) n (by omega) (by omega)
theorem rth_L0 {th : bS} (h : oD th) : ∀ (l pre : List fJ) (n : Nat) (q : Int), th.Tokens = pre ++ l → q = pre.length → l.length + 100 < n → gC th (fun _ => some 0) n q = some 0
 | [], pre, n, q, ht, hq, hn => by
  obtain ⟨n, rfl⟩ := nS n (by simp at hn; omega)
  have ab : th.Tokens.length = pre.length := by rw [ht]; simp
  rw [gC, if_neg (by simp; omega)]
 | x :: l, pre, n, q, ht, hq, hn => by
  obtain ⟨n, rfl⟩ := nS n (by simp at hn; omega)
  have ab : th.Tokens.length = pre.length + (l.length + 1) := by rw [ht]; simp
  have h3 := h.len
  have hw : w6 (q + 1) = q + 1 := wS (by omega) (by omega)
  have hx : x ∈ th.Tokens := by rw [ht]; simp
  have au := h.nd
  rw [ht, List.map_append, List.nodup_append] at au
  have ho := h.val x hx
  rw [gC, if_pos (by simp; omega)]
  unfold aS
  rw [kI ht hq]
  simp only [oB, (h.nok hx).ref n (by simp at hn; omega), Bool.not_true, fT, if_false, hw]
  have h1 := fun j => rth_L1 (th := th) x pre (x :: l) ht (fun t ht' e => au.2.2 t.Name (List.mem_map.2 ⟨t, ht', rfl⟩) x.Name (by simp) e) j (by omega) pre.length 0 n (by omega) (by omega)
  rw [hq]
  refine (h1 _).trans ?_
  simp only [Fq ho.a, Fq ho.b, Fq ho.c, Fq ho.d, oB, nP, Bool.not_true, Bool.not_false, Bool.or_self, if_true, fT, if_false]
  rw [← hq]
  exact rth_L0 h l (pre ++ [x]) n (q + 1) (by rw [ht]; simp) (by simp; omega) (by simp at hn; omega)
theorem Yr {th : bS} (h : oD th) (n : Nat) (hn : 200 ≤ n) : mN n th = some 0 ∧ nF n th = some 0 := by
 have h3 := h.len
 unfold mN nF aS
 rw [if_neg (by simp; omega), if_neg (by simp; omega)]
 exact ⟨th_L0 h th.Tokens [] n 0 [] rfl rfl (by omega) (fun p hp => nomatch hp), rth_L0 h th.Tokens [] n 0 rfl rfl (by omega)⟩
theorem decl_ok {r : cM} {d : bW} (h : DOk r.States d) (n : Nat) (hn : 100 ≤ n) : jS n d r.States = some 0 ∧ kA n r d = some 0 := by
 obtain ⟨p1, p2⟩ := h.prop
 obtain ⟨s1, s2⟩ := h.src
 have a1 : decide (d.Prop_ ≥ 0) = true := by simp; omega
 have a2 : decide (d.Prop_ < 22) = true := by simp; omega
 have a3 : decide (d.Prop_ < 0) = false := by simp; omega
 have a4 : decide (d.Prop_ ≥ 22) = false := by simp; omega
 have a5 : decide (d.Source < 0) = false := by simp; omega
 have a6 : decide (d.Source > 3) = false := by simp; omega
 have a7 : ((d.N != 0) && (d.Source != 0)) = false := by
  by_cases e : d.Source = 0
  ·simp [e]
  ·simp [h.num e]
 have a8 : ((!(bP d.Token nB)) && (d.Source != 1)) = false := by
  by_cases e : d.Source = 1
  ·simp [e]
  ·simp [h.tok e, fR]
 have a9 : (((d.Prop_ == 5) || (d.Prop_ == 21)) && ((oU .i64 r.States 7) != 0)) = false := by
  by_cases e : oU .i64 r.States 7 = 0
  ·simp [e]
  ·obtain ⟨e1, e2⟩ := h.pass e
   simp [e1, e2]
 have g1 : ∃ y, gd [(d.Source == 0)] (dM n d.Prop_ d.N) = some y ∧ ((d.Source == 0) && (!y)) = false := by
  rw [(Jd n _ _).1]
  by_cases e : d.Source = 0
  ·exact ⟨true, by simp [gd, e, h.rng e], by simp⟩
  ·have : (d.Source == 0) = false := by simpa using e
   rw [this]; exact ⟨_, rfl, rfl⟩
 have g1' : ∃ y, gd [(d.Source == 0)] (dS n d.Prop_ d.N) = some y ∧ ((d.Source == 0) && (!y)) = false := by
  rw [(Jd n _ _).2]
  by_cases e : d.Source = 0
  ·exact ⟨true, by simp [gd, e, h.rng e], by simp⟩
  ·have : (d.Source == 0) = false := by simpa using e
   rw [this]; exact ⟨_, rfl, rfl⟩
 have g2 : ∃ y, gd [(d.Source == 1)] (eX n d.Token) = some y ∧ ((d.Source == 1) && (!y)) = false := by
  by_cases e : d.Source = 1
  ·exact ⟨true, by simp [gd, e, (h.name e).prog n (by omega)], by simp⟩
  ·have : (d.Source == 1) = false := by simpa using e
   rw [this]; exact ⟨_, rfl, rfl⟩
 have g2' : ∃ y, gd [(d.Source == 1)] (eD n d.Token) = some y ∧ ((d.Source == 1) && (!y)) = false := by
  by_cases e : d.Source = 1
  ·exact ⟨true, by simp [gd, e, (h.name e).ref n (by omega)], by simp⟩
  ·have : (d.Source == 1) = false := by simpa using e
   rw [this]; exact ⟨_, rfl, rfl⟩
 obtain ⟨y1, u1, v1⟩ := g1
 obtain ⟨y2, u2, v2⟩ := g2
 obtain ⟨z1, u3, v3⟩ := g1'
 obtain ⟨z2, u4, v4⟩ := g2'
 constructor
 ·unfold jS iV aS
  simp only [a1, a2, a5, a6, a7, a8, a9, u1, u2, v1, v2, Bool.and_self, Bool.or_self, Bool.not_true, fT, if_false, oB]
 ·unfold kA
  simp only [a3, a4, a5, a6, a7, a8, a9, u3, u4, v3, v4, Bool.or_self, fT, if_false, oB]
theorem Gu {r : cM} (hz : r.Decls.length ≤ 50) (h : ∀ d, d ∈ r.Decls → DOk r.States d) (p : bM) (w : Int) (j : Unit → Option Int) : ∀ (k i n : Nat), i + k = r.Decls.length → k + 100 < n → fP r j p w n (i : Int) = j () ∧ fZ r j w p n (i : Int) = j ()
 | 0, i, n, hi, hn => by
  obtain ⟨n, rfl⟩ := nS n (by omega)
  exact ⟨by rw [fP, if_neg (by simp; omega)], by rw [fZ, if_neg (by simp; omega)]⟩
 | k + 1, i, n, hi, hn => by
  obtain ⟨n, rfl⟩ := nS n (by omega)
  have hw : w6 ((i : Int) + 1) = ((i + 1 : Nat) : Int) := by rw [wS (by omega) (by omega)]; omega
  have ae : i < r.Decls.length := by omega
  obtain ⟨d1, d2⟩ := decl_ok (h _ (List.getElem_mem ae)) n (by omega)
  obtain ⟨ih1, ih2⟩ := Gu hz h p w j k (i + 1) n (by omega) (by omega)
  rw [fP, fZ, if_pos (by simp; omega), if_pos (by simp; omega), dR ae]
  simp only [oB, d1, d2, bne_self_eq_false, fT, if_false, hw]
  exact ⟨ih1, ih2⟩
theorem Qp {s : bM} (h : jY s) (j : Unit → Option Int) : ∀ (k i n : Nat), i + k = s.Rules.length → k + 200 < n → eR s j n (i : Int) = j () ∧ eT s j n (i : Int) = j ()
 | 0, i, n, hi, hn => by
  obtain ⟨n, rfl⟩ := nS n (by omega)
  exact ⟨by rw [eR, if_neg (by simp; omega)], by rw [eT, if_neg (by simp; omega)]⟩
 | k + 1, i, n, hi, hn => by
  obtain ⟨n, rfl⟩ := nS n (by omega)
  have hsl := h.len
  have hw : w6 ((i : Int) + 1) = ((i + 1 : Nat) : Int) := by rw [wS (by omega) (by omega)]; omega
  have ae : i < s.Rules.length := by omega
  have hr := h.ok _ (List.getElem_mem ae)
  obtain ⟨ih1, ih2⟩ := Qp h j k (i + 1) n (by omega) (by omega)
  generalize hg : s.Rules[i] = r at hr
  have b1 : ((((decide (r.Kind < 0)) || (decide (r.Kind > 13))) || (decide (r.UnderKind < 0))) || (decide (r.UnderKind > 13))) = false := by
   have := hr.kind; have := hr.uk; simp; omega
  have b2 : ((decide (r.States < 0)) || (decide (r.States > 31))) = false := by have := hr.st; simp; omega
  have hd := hr.len
  have b3 : decide ((List.length r.Decls : Int) > 50) = false := by simp; omega
  obtain ⟨d1, d2⟩ := Gu (by omega) hr.dec s (i : Int) (fun _ => eR s j n ((i + 1 : Nat) : Int)) r.Decls.length 0 n (by omega) (by omega)
  obtain ⟨_, d3⟩ := Gu (by omega) hr.dec s (i : Int) (fun _ => eT s j n ((i + 1 : Nat) : Int)) r.Decls.length 0 n (by omega) (by omega)
  have c1 : ∃ y, gd [(!(bP r.Class nB))] (eX n r.Class) = some y ∧ gd [(!(bP r.Class nB))] (eD n r.Class) = some y ∧ ((!(bP r.Class nB)) && (!y)) = false := by
   rcases hr.cls with e | e
   ·rw [e, fR]; exact ⟨_, rfl, rfl, rfl⟩
   ·rw [e.prog n (by omega), e.ref n (by omega)]
    cases bP r.Class nB <;> exact ⟨_, rfl, rfl, rfl⟩
  have c2 : ∃ y, gd [true, (!(bP r.UnderClass nB))] (eX n r.UnderClass) = some y ∧ gd [true, (!(bP r.UnderClass nB))] (eD n r.UnderClass) = some y ∧ ((!(bP r.UnderClass nB)) && (!y)) = false := by
   rcases hr.uc with e | e
   ·rw [e, fR]; exact ⟨_, rfl, rfl, rfl⟩
   ·rw [e.prog n (by omega), e.ref n (by omega)]
    cases bP r.UnderClass nB <;> exact ⟨_, rfl, rfl, rfl⟩
  obtain ⟨y1, u1, u2, u3⟩ := c1
  obtain ⟨y2, v1, v2, v3⟩ := c2
  constructor
  ·rw [eR, if_pos (by simp; omega)]
   unfold aS
   rw [dR ae, hg]
   simp only [oB, b1, b2, b3, u1, u3, Bool.not_false, v1, v3, Bool.or_self, fT, if_false, hw]
   exact d1.trans ih1
  ·rw [eT, if_pos (by simp; omega)]
   unfold aS
   rw [dR ae, hg]
   simp only [oB, b1, b2, b3, u2, u3, Bool.not_false, v2, v3, Bool.or_self, fT, if_false, hw]
   exact d3.trans ih2
theorem Zi {s : bM} (h : jY s) (n : Nat) (hn : 300 ≤ n) : nE n s = some 0 ∧ mX n s = some 0 := by
 have hl := h.len
 unfold nE mX aS
 rw [if_neg (by simp; omega), if_neg (by simp; omega)]
 exact Qp h _ s.Rules.length 0 n (by omega) (by omega)
theorem It (j : List fJ → List Int → Int → Option (bS × aW)) {Q : bS × aW → Prop} (hj : ∀ l L A, bR ⟨L, A⟩ → oD ⟨l⟩ → jP (j l L A) Q) : ∀ (k q n : Nat) (L : List Int) (A : Int) (l : List fJ), q + k = 3 → k + 30 < n → bR ⟨L, A⟩ → l.length = q → l.map fJ.Name = tnl.take q → (∀ t, t ∈ l → TkOk t) → jP (nL j n (q : Int) L A l) Q
 | k, q, 0, L, A, l, _, h, _, _, _, _ => by omega
 | k, q, n + 1, L, A, l, hq, hn, h, hl, hm, hv => by
  rw [nL]
  refine aK (cO n h (by decide)) fun y1 ⟨a1, b1, c1⟩ => bO (fun hc => ?_) fun _ => hj l _ _ c1 ⟨by show l.length ≤ 3; omega, by show l.map _ = tnl.take l.length; rw [hm, hl], hv⟩
  simp only [decide_eq_true_eq] at hc
  have b1 := b1 (by decide)
  match k, hq, hn with
  | 0, hq, hn => omega
  | k + 1, hq, hn =>
   have hw : w6 ((q : Int) + 1) = ((q + 1 : Nat) : Int) := by rw [wS (by omega) (by omega)]; omega
   have hq3 : q < 3 := by omega
   have hix : idx tnl (q : Int) = some (tnl[q]'hq3) := dR hq3
   show jP ((idx tnl (q : Int)).bind _) Q
   rw [hix]
   refine aK (P := fun x => x = tnl[q]'hq3) (bZ rfl) fun x hx => ?_
   subst hx
   refine aK (cO n c1 (by decide)) fun y2 ⟨a2, b2, c2⟩ => aK (cO n c2 (by decide)) fun y3 ⟨a3, b3, c3⟩ => aK (cO n c3 (by decide)) fun y4 ⟨a4, b4, c4⟩ => aK (cO n c4 (by decide)) fun y5 ⟨a5, b5, c5⟩ => aK (dK (by simp; omega) (by decide)) fun r hr => ?_
   subst hr
   have b2 := b2 (by decide); have b3 := b3 (by decide); have b4 := b4 (by decide); have b5 := b5 (by decide)
   have hw3 : w6 (y3.1 - 1) = y3.1 - 1 := wS (by omega) (by omega)
   rw [hw]
   refine It j hj k (q + 1) n _ _ _ (by omega) (by omega) c5 (by simp; omega) ?_ fun t ht => ?_
   ·rw [List.map_append, hm, List.take_add_one]
    congr 1
    rw [List.getElem?_eq_getElem hq3]; rfl
   ·rcases List.mem_append.1 ht with ht | ht
    ·exact hv t ht
    ·simp only [List.mem_singleton] at ht
     subst ht
     refine ⟨⟨?_, ?_⟩, ⟨?_, ?_⟩, ⟨?_, ?_⟩, ⟨?_, ?_⟩⟩
     all_goals simp only [hw3]
     all_goals omega
theorem Yb (n : Nat) (hn : 60 ≤ n) {p : aW} (h : bR p) : jP (uA n p) fun y => oD y.1 ∧ bR y.2 := by
 unfold uA aS
 exact It _ (fun l L A a b => bZ ⟨b, a⟩) 3 0 n _ _ [] (by omega) (by omega) h rfl rfl fun t ht => nomatch ht
end Go.Proofs.YtojkihhnioeggaaGreatDoor.S
