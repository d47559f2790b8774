import Derived.Test.YtojkihhnioeggaaGreatDoorQEGR2
import Derived.Test.YtojkihhnioeggaaGreatDoorQEMu1
import Derived.Test.YtojkihhnioeggaaGreatDoorQERe1
import Derived.WalkLawsBesides
import Derived.Deep.QuietTactic
import Derived.BigQuiet
import Derived.BigRegion
import Derived.Lib.Hide
import Derived.Deep.RegionWith
set_option linter.unusedSimpArgs false
set_option linter.all false
set_option linter.unusedVariables false
namespace Go.Proofs.YtojkihhnioeggaaGreatDoor.S
open Go Go.Bm
def rl (R : List (Int × Bool)) : List Int := (R.filter fun p => p.2).map Prod.fst
theorem rl_app (R : List (Int × Bool)) (k : Int) (b : Bool) : rl (R ++ [(k, b)]) = rl R ++ if b = true then [k] else [] := by
 unfold rl
 rw [List.filter_append, List.map_append]
 cases b <;> rfl
theorem Uc : ∀ (R : List (Int × Bool)), (rl R).length + Tz R = R.length
 | [] => rfl
 | (k, b) :: R => by
  have := Uc R
  unfold rl Tz at this ⊢
  cases b <;> simp at this ⊢ <;> omega
theorem Zo (P : Int) : ∀ (R : List (Int × Bool)), (R.map Prod.fst).Nodup → (rl R).any (fun k => k == P) = cZ P R
 | [], _ => rfl
 | (k, b) :: R, hn => by
  rw [List.map_cons, List.nodup_cons] at hn
  have ih := Zo P R hn.2
  unfold cZ at ih ⊢
  rw [List.lookup_cons]
  by_cases e : P = k
  ·subst e
   rw [beq_self_eq_true]
   have aj : R.lookup P = none := uT fun p hp e => hn.1 (e ▸ List.mem_map.2 ⟨p, hp, rfl⟩)
   rw [aj] at ih
   unfold rl at ih ⊢
   cases b
   ·simpa using ih
   ·simp
  ·have h1 : (P == k) = false := by simpa using e
   have h2 : (k == P) = false := by rw [beq_eq_false_iff_ne]; exact fun h => e h.symm
   rw [h1]
   unfold rl at ih ⊢
   cases b
   ·simpa using ih
   ·rw [List.filter_cons_of_pos (by rfl), List.map_cons, List.any_cons, h2, Bool.false_or]; exact ih
theorem ru_L1 (V : List Int) (x : aU) (j : Bool → Option (List Int)) (p1 p3 : List aO) (y1 : List Int) (w : Int) (p0 p2 : bA) (hz : V.length ≤ 1000) : ∀ (l pre : List Int) (n : Nat) (q : Int) (b : Bool), V = pre ++ l → q = pre.length → l.length < n → iQ V x j p1 p3 y1 w p0 p2 n b q = j (b || l.any fun k => k == x.Parent)
 | [], pre, n, q, b, ht, hq, hn => by
  obtain ⟨n, rfl⟩ := nS n (by simp at hn; omega)
  have ab : V.length = pre.length := by rw [ht]; simp
  rw [iQ, if_neg (by simp; omega)]; simp
 | k :: l, pre, n, q, b, ht, hq, hn => by
  obtain ⟨n, rfl⟩ := nS n (by simp at hn; omega)
  have ab : V.length = pre.length + (l.length + 1) := by rw [ht]; simp
  have hw : w6 (q + 1) = q + 1 := wS (by omega) (by omega)
  have ih := fun b => ru_L1 V x j p1 p3 y1 w p0 p2 hz l (pre ++ [k]) n (q + 1) b (by rw [ht]; simp) (by simp; omega) (by simp at hn; omega)
  rw [iQ, if_pos (by simp; omega), kI ht hq]
  cases b
  ·simp only [Bool.not_false, Ip, oB, hw, Bool.false_or]
   rw [ih, List.any_cons]
  ·simp only [Bool.not_true, gd_f, oB, hw, Bool.true_or]
   rw [ih]; simp
section
variable {t0 : bA} {v0 : aN} (h0 : cR t0 v0) (hv0 : VG v0) (st0 : List aO) (aq : st0.length ≤ 1000) {t : bA} {v : aN} (h : cR t v) (hv : VG v) (st : List aO) (af : st.length ≤ 1000)
include h0 hv0 aq h hv af
theorem ru_L0 (j : List Int → Option (List Int)) : ∀ (l pre : List aU) (n : Nat) (q : Int), t.Nodes = pre ++ l → q = pre.length → l.length + 1500 < n →
  iR (oV t.Root (eU v)) t t0 st0 st j n (rl (pT (pY t0 st0) (pY t st) pre [])) q = j (rl (pT (pY t0 st0) (pY t st) t.Nodes []))
 | [], pre, n, q, ht, hq, hn => by
  obtain ⟨n, rfl⟩ := nS n (by omega)
  have ab : t.Nodes.length = pre.length := by rw [ht]; simp
  have hl := h.len
  rw [iR, if_neg (by simp [jX]; omega), ht, List.append_nil]
 | x :: l, pre, n, q, ht, hq, hn => by
  obtain ⟨n, rfl⟩ := nS n (by omega)
  have ab : t.Nodes.length = pre.length + (l.length + 1) := by rw [ht]; simp
  have hl := h.len
  have ah := h.size
  have av := h.root
  simp only [List.length_cons] at hn
  have hw : w6 (q + 1) = q + 1 := wS (by omega) (by omega)
  have hx : x ∈ t.Nodes := by rw [ht]; simp
  have au := h.nodup
  have am := Vs h ht
  have hidx : idx (oV t.Root (eU v)) q = some x.ID := by
   rw [hq, am]; exact vW (tJ _ _ _ (by omega))
  have hRn : ((pT (pY t0 st0) (pY t st) pre []).map Prod.fst).Nodup := by
   rw [sC]
   rw [ht, List.map_append, List.nodup_append] at au
   simpa using au.1
  have hRl : (pT (pY t0 st0) (pY t st) pre []).length = pre.length := by
   have := congrArg List.length (sC (pY t0 st0) (pY t st) pre [])
   simpa using this
  have ih := ru_L0 j l (pre ++ [x]) n (q + 1) (by rw [ht]; simp) (by simp; omega) (by omega)
  rw [Ix, rl_app] at ih
  generalize hR : pT (pY t0 st0) (pY t st) pre [] = R at *
  have hrl := Uc R
  have hcx : cZ x.ID (pY t st).class_ = cls x := by
   unfold cZ pY
   rw [show (tE t.Nodes).lookup x.ID = some (cls x) from uI (fun x => Vm x.Attrs (⟨#[99, 108, 97, 115, 115]⟩ : ByteArray)) au hx]
   rfl
  have hsx : cZ x.ID (pY t st).states = Wp st x.ID := Fl st x.ID
  have hsx0 : cZ x.ID (pY t0 st0).states = Wp st0 x.ID := Fl st0 x.ID
  rw [iR, if_pos (by simp [jX]; omega), hidx]
  unfold aS
  simp only [oB, hw]
  rw [yS h n (by omega) hx]
  simp only [oB]
  rw [Cm h0 n (by omega)]
  simp only [oB]
  by_cases hin : t0.Root ≤ x.ID ∧ x.ID < t0.Root + eU v0
  ·obtain ⟨o, ho1, ho2, ho3⟩ := h0.nth (q := (x.ID - t0.Root).toNat) (by omega)
   have hoi : o.ID = x.ID := by omega
   have hat := Ok h0 ho2
   rw [hoi] at hat
   have hlk : (kV t0.Nodes).lookup x.ID = some o := by rw [← hoi]; exact lW h0.nodup ho2
   have ak : cZ x.ID (pY t0 st0).nodes = o := by unfold cZ pY; rw [hlk]; rfl
   have hhas : iG x.ID (pY t0 st0).nodes = true := by unfold iG pY; rw [hlk]; rfl
   have hco : cZ x.ID (pY t0 st0).class_ = cls o := by
    unfold cZ pY
    rw [← hoi]
    rw [show (tE t0.Nodes).lookup o.ID = some (cls o) from uI (fun x => Vm x.Attrs (⟨#[99, 108, 97, 115, 115]⟩ : ByteArray)) h0.nodup ho2]
    rfl
   have e1 := Ar (h0.ok hv0 o ho2) n (by omega)
   have e2 := Ar (h.ok hv x hx) n (by omega)
   rw [if_pos hin, if_neg (by simp; omega), hat]
   simp only [oB]
   rw [e1, e2, zX st0 aq x.ID n (by omega), zX st af x.ID n (by omega)]
   rw [show Vm o.Attrs (⟨#[99, 108, 97, 115, 115]⟩ : ByteArray) = cls o from rfl, show Vm x.Attrs (⟨#[99, 108, 97, 115, 115]⟩ : ByteArray) = cls x from rfl]
   unfold reu smB at ih
   rw [ak, hhas, hco, hcx, hsx, hsx0] at ih
   have hb : ∀ a b : Int, (a != b) = !(a == b) := fun _ _ => rfl
   simp only [hb]
   cases b1 : (o.Kind == x.Kind)
   ·simp only [b1, Bool.not_false, Bool.not_true, nP, fT, if_false, if_true, oB, Bool.true_or, Bool.true_and, Bool.false_and, List.append_nil] at ih ⊢
    exact ih
   ·cases b2 : bP (cls o) (cls x)
    ·simp only [b1, b2, Bool.not_false, Bool.not_true, nP, fT, if_false, if_true, oB, Bool.true_or, Bool.false_or, Bool.true_and, Bool.false_and, List.append_nil] at ih ⊢
     exact ih
    ·cases b3 : (Wp st0 x.ID == Wp st x.ID)
     ·simp only [b1, b2, b3, Bool.not_false, Bool.not_true, nP, fT, if_false, if_true, oB, Bool.true_or, Bool.false_or, Bool.true_and, Bool.false_and, List.append_nil] at ih ⊢
      try simp only [b3, Bool.not_false, Bool.true_or, if_true]
      exact ih
     ·cases b4 : (o.Parent == x.Parent)
      ·simp only [b1, b2, b3, b4, Bool.not_false, Bool.not_true, nP, fT, if_false, if_true, oB, Bool.true_or, Bool.false_or, Bool.true_and, Bool.false_and, List.append_nil, Bool.or_true, Bool.or_false] at ih ⊢
       try simp only [b3, Bool.not_true, Bool.false_or, if_true]
       exact ih
      ·simp only [b1, b2, b3, b4, Bool.not_false, Bool.not_true, nP, fT, if_false, if_true, oB, Bool.true_or, Bool.false_or, Bool.true_and, Bool.false_and, Bool.or_false] at ih ⊢
       try simp only [b3, Bool.not_true, Bool.false_or, fT, if_false]
       rw [ru_L1 (rl R) x _ st0 st _ q t0 t (by omega) (rl R) [] n 0 _ rfl rfl (by omega), Zo _ _ hRn]
       cases b5 : ((x.Parent == 0) || cZ x.Parent R)
       ·simp only [b5, fT, if_false, List.append_nil] at ih ⊢
        exact ih
       ·simp only [b5, if_true] at ih ⊢
        rw [xG (by simp; omega) (by decide)]
        simp only [oB]
        exact ih
  ·have aj : (kV t0.Nodes).lookup x.ID = none := Df (fun x => x) fun y hy e => by have := h0.rng hy; omega
   have hhas : iG x.ID (pY t0 st0).nodes = false := by unfold iG pY; rw [aj]; rfl
   rw [if_neg hin, if_pos (by decide)]
   unfold reu smB at ih
   rw [hhas] at ih
   simp only [Bool.false_and, fT, if_false, List.append_nil] at ih
   exact ih
end
theorem Vr (L : List aZ) (t : bA) (am : L.map aZ.ID = t.Nodes.map aU.ID) (hz : t.Nodes.length ≤ 1000) (j : Unit → Option Bool) : ∀ (k i n : Nat), i + k = L.length → k < n → gA L t j n (i : Int) = j ()
 | 0, i, n, hi, hn => by
  obtain ⟨n, rfl⟩ := nS n (by omega)
  rw [gA, if_neg (by simp; omega)]
 | k + 1, i, n, hi, hn => by
  obtain ⟨n, rfl⟩ := nS n (by omega)
  have hl2 : L.length = t.Nodes.length := by simpa using congrArg List.length am
  have hw : w6 ((i : Int) + 1) = ((i + 1 : Nat) : Int) := by rw [wS (by omega) (by omega)]; omega
  have ae : i < L.length := by omega
  have hlt2 : i < t.Nodes.length := by omega
  have he : L[i].ID = t.Nodes[i].ID := by
   have := congrArg (fun l => l[i]?) am
   simp only [List.getElem?_map, List.getElem?_eq_getElem ae, List.getElem?_eq_getElem hlt2, Option.map_some] at this
   exact Option.some.inj this
  rw [gA, if_pos (by simp; omega), dR ae, dR hlt2]
  simp only [oB, he, bne_self_eq_false, fT, if_false, hw]
  exact Vr L t am hz j k (i + 1) n (by omega) (by omega)
theorem Qw {t0 : bA} {v0 : aN} (h0 : cR t0 v0) (hv0 : VG v0) (st0 : List aO) (aq : st0.length ≤ 1000) {t : bA} {v : aN} (h : cR t v) (hv : VG v) (st : List aO) (af : st.length ≤ 1000) {s : bM} (hs : jY s) {th : bS} (ht : oD th) (m : cX) (hm : mSc m = false) (L : List aZ) (am : L.map aZ.ID = t0.Nodes.map aU.ID) (n : Nat) (hn : Cq v + 5000 ≤ n) (hn0 : Cq v0 + 5000 ≤ n) :
  nZ n s th m t0 st0 L t st = some (Sf t st s th m, (Tz (pT (pY t0 st0) (pY t st) t.Nodes []) : Int), 0) := by
 have ah := h.size
 have hl := h.len
 have hsz0 := h0.size
 have hl0 := h0.len
 have hl2 : L.length = t0.Nodes.length := by simpa using congrArg List.length am
 obtain ⟨_, e1⟩ := vR h hv st af hs ht m n hn
 rw [hm] at e1
 have ec : mT n t0 L = some true := by
  unfold mT aS
  rw [if_neg (by simp; omega)]
  exact Vr L t0 am (by omega) _ L.length 0 n (by omega) (by omega)
 have er : pI n t0 st0 t st = some (rl (pT (pY t0 st0) (pY t st) t.Nodes [])) := by
  unfold pI aS
  rw [Ha h hv n (by omega)]
  simp only [oB]
  exact ru_L0 h0 hv0 st0 aq h hv st af _ t.Nodes [] n 0 rfl rfl (by omega)
 unfold nZ
 rw [e1, Dg h0 hv0 n (by omega), ec, er]
 simp only [fT, if_false, oB, bne_self_eq_false, Bool.not_false, nP, if_true, Bool.not_true, Bool.or_self]
 have h1 := Uc (pT (pY t0 st0) (pY t st) t.Nodes [])
 have h2 : (pT (pY t0 st0) (pY t st) t.Nodes []).length = t.Nodes.length := by
  have := congrArg List.length (sC (pY t0 st0) (pY t st) t.Nodes [])
  simpa using this
 rw [wS (by omega) (by omega)]
 congr 3
 omega
theorem Tw (n : Nat) (hn : 19000 ≤ n) (haw : qQ n = some true) (l : List Int) : gG n l = some true := by
 have key : jP (gG n l) fun r => r = true := by
  unfold gG
  refine aK (src_New n l) fun y1 h1 => aK (Xv n (by omega) h1) fun y2 ⟨hv2, h2⟩ => aK (Xx n (by omega) h2) fun y3 ⟨hs, h3⟩ => aK (Yb n (by omega) h3) fun y4 ⟨ht, h4⟩ => aK (src_Mode n h4) fun y5 ⟨hm, h5⟩ => ?_
  have hv0 := hv2.vg
  have hf0 := hv0.fuel4
  obtain ⟨t0, ht0, h0⟩ := Wb hv0 n 1 (by omega) (by decide) (by decide)
  have hlen0 := h0.len
  have hsz0 := h0.size
  rw [ht0]
  simp only [oB]
  refine aK (Hc n (by omega) (by omega) h5) fun y7 ⟨⟨aq, _⟩, h7⟩ => ?_
  obtain ⟨_, e8⟩ := vR h0 hv0 y7.1 aq hs ht y5.1 n (by omega)
  rw [Nc hm] at e8
  rw [e8]
  simp only [fT, if_false, oB]
  refine aK (Tf n (by omega) h7 hv2) fun y9 ⟨hv9, h9⟩ => ?_
  have hf9 := hv9.fuel4
  obtain ⟨t1, ht1, hT1⟩ := Wb hv9 n 1 (by omega) (by decide) (by decide)
  have hlen1 := hT1.len
  have hsz1 := hT1.size
  rw [ht1]
  simp only [oB]
  refine cA (fun st L A => bR ⟨L, A⟩ ∧ st.length ≤ 1000) (fun st L A ⟨hc, af⟩ => ?_) fun j k => aK (cO n h9 (by decide)) fun y12 ⟨_, _, h12⟩ => bO (fun _ => aK (Hc n (by omega) (by omega) h12) fun y13 ⟨⟨af, _⟩, h13⟩ => k _ _ _ ⟨h13, af⟩) fun _ => k _ _ _ ⟨h12, aq⟩
  refine cA (fun a b c => ∃ v, VG v ∧ cR (bA.mk a b c) v) (fun a b c ⟨v, hv, hT⟩ => ?_) fun j k => aK (cO n hc (by decide)) fun y18 _ => bO (fun _ => k _ _ _ ⟨_, hv0, h0⟩) fun _ => k _ _ _ ⟨_, hv9, hT1⟩
  have hf := hv.fuel4
  have ab := hT.len
  have ah := hT.size
  have hL := stys_len (bA.mk a b c) st y3.1 y4.1 y5.1
  rw [Tr h0 hv0 y7.1 aq hT hv st af hs ht y5.1 (Nc hm) _ (Ck _ _ _ _ _) n (by omega) (by omega)]
  rw [Qw h0 hv0 y7.1 aq hT hv st af hs ht y5.1 (Nc hm) _ (Ck _ _ _ _ _) n (by omega) (by omega)]
  obtain ⟨e1, _⟩ := vR hT hv st af hs ht y5.1 n (by omega)
  rw [Nc hm] at e1
  rw [e1]
  simp only [fT, if_false, oB, beq_self_eq_true, Bool.and_self, nP, if_true]
  rw [same_eq _ (by omega) n (by omega)]
  simp only [oB, if_true, haw, Bool.and_self]
  exact bZ rfl
 obtain ⟨r, hr, rfl⟩ := key
 exact hr
theorem Ka (l : List Int) : gG 20000 l = some true := Tw 20000 (by omega) awake_in l
end Go.Proofs.YtojkihhnioeggaaGreatDoor.S
