import Derived.Test.YtojkihhnioeggaaGreatDoorQMMs1
import Derived.WalkKit
import Derived.WalkSpells
import Derived.WalkLawsBesides
import Derived.Deep.QuietTactic
import Derived.BigQuiet
import Derived.BigRegion
import Derived.Lib.Hide
import Derived.Deep.RegionWith
set_option linter.unusedSimpArgs false
set_option linter.unusedVariables false
set_option linter.unusedSimpArgs false
set_option linter.unusedVariables false
namespace Go.Proofs.YtojkihhnioeggaaGreatDoor.S
open Go Go.Bm
theorem Tw {t : bC} {v : aL} (h : cS t v) (hv : qX 4 v) (S : iN) (hN : S.nodes = lM t.Nodes) (hC : S.class_ = xW t.Nodes) (r : cC) (x : aR) (hx : x ∈ t.Nodes) : ∃ b, ∀ n, 1000 ≤ n → mH n S r x.ID = some b ∧
  (if ((r.UnderKind == 0) && (cG r.UnderClass (⟨#[]⟩ : ByteArray))) = true then some true else eO t r (fun _ => some false) n x.ID x.Parent x.Kind x.Key x.Attrs x.Actions x.Kids) = some b := by
 have hsz := h.size
 have hr := h.rng hx
 obtain ⟨b, hb⟩ := Ws h hv S hN hC r (fun _ => some false) (fun _ => some false) rfl rfl (gP v) x hx (by omega)
 have hg : gN x.ID S.nodes = x := by rw [hN]; unfold gN; rw [mM h.nodup hx]; rfl
 by_cases hc : ((r.UnderKind == 0) && (cG r.UnderClass (⟨#[]⟩ : ByteArray))) = true
 ·refine ⟨true, fun n hn => ⟨?_, ?_⟩⟩
  ·unfold mH; rw [if_pos hc]
  ·rw [if_pos hc]
 ·refine ⟨b, fun n hn => ⟨?_, ?_⟩⟩
  ·unfold mH aV
   rw [if_neg hc, hg]
   simp only [Option.bind_some]
   exact (hb n (by omega)).1
  ·rw [if_neg hc]; exact (hb n (by omega)).2
theorem Lv {t : bC} {v : aL} (h : cS t v) (hv : qX 4 v) (st : List aU) (hst : st.length ≤ 1000) (r : cC) (x : aR) (hx : x ∈ t.Nodes) : ∃ b, ∀ n, 1100 ≤ n → kB n ⟨lM t.Nodes, xW t.Nodes, Wr st⟩ r x.ID = some b ∧ lP n r t st x.ID = some b := by
 obtain ⟨b, hb⟩ := Tw h hv ⟨lM t.Nodes, xW t.Nodes, Wr st⟩ rfl rfl r x hx
 have hg : gN x.ID (lM t.Nodes) = x := by unfold gN; rw [mM h.nodup hx]; rfl
 have hcg : gN x.ID (xW t.Nodes) = Qd x := by
  unfold gN
  rw [show (xW t.Nodes).lookup x.ID = some (Qd x) from yU (fun x => Um x.Attrs (⟨#[99, 108, 97, 115, 115]⟩ : ByteArray)) h.nodup hx]
  rfl
 refine ⟨if (((r.Kind != 0) && (r.Kind != x.Kind)) || ((!(cG r.Class (⟨#[]⟩ : ByteArray))) && (!(cG r.Class (Qd x))))) = true then false else if ((lQ .i64 (Up st x.ID) r.States) == r.States) = true then b else false, fun n hn => ?_⟩
 obtain ⟨hb1, hb2⟩ := hb n (by omega)
 unfold kB lP aV
 rw [Av h n (by omega) hx]
 simp only [Option.bind_some]
 rw [Lc (h.ok hv x hx) n (by omega), Mu st hst x.ID n (by omega), hb1, hb2]
 rw [hg, hcg, Nm]
 rw [show Um x.Attrs (⟨#[99, 108, 97, 115, 115]⟩ : ByteArray) = Qd x from rfl]
 generalize hK : (r.Kind != 0) = K0
 generalize hK2 : (r.Kind != x.Kind) = K1
 generalize hE : cG r.Class (⟨#[]⟩ : ByteArray) = E0
 generalize hE1 : cG r.Class (Qd x) = E1
 generalize hS : ((lQ .i64 (Up st x.ID) r.States) == r.States) = S0
 have hS' : ((lQ .i64 (Up st x.ID) r.States) != r.States) = !S0 := by rw [← hS]; rfl
 cases K0 <;> cases K1 <;> cases E0 <;> cases E1 <;> cases S0 <;> simp_all [gd]
theorem Ei {t : bC} {v : aL} (h : cS t v) (hv : qX 4 v) (st : List aU) (hst : st.length ≤ 1000) (r : cC) (i : Int) : ∃ b, ∀ n, Fi v + 3000 ≤ n → jA n r t st i = some b ∧ iZ n r t st i = some b := by
 by_cases hi : t.Root ≤ i ∧ i < t.Root + gP v
 ·obtain ⟨x, _, hx, hxi⟩ := h.nth (q := (i - t.Root).toNat) (by omega)
  obtain rfl : i = x.ID := by omega
  obtain ⟨b, hb⟩ := Lv h hv st hst r x hx
  refine ⟨b, fun n hn => ?_⟩
  obtain ⟨b1, b2⟩ := hb n (by omega)
  have hl : (lM t.Nodes).lookup x.ID = some x := mM h.nodup hx
  unfold jA iZ
  rw [Kw h hv n hn, Fu h hv n hn, Qs h hv st hst n (by omega), uZ h n (by omega), if_pos hi]
  simp only [Option.bind_some, bne_self_eq_false, Bool.false_eq_true, if_false, jF, hl, Option.isSome_some, Am, beq_self_eq_true, b1, Bool.true_and]
  have c : decide (x.ID - t.Root ≥ 0) = true := by simp; omega
  simp only [c, Am, b2, Option.bind_some, Bool.true_and, and_self]
 ·refine ⟨false, fun n hn => ?_⟩
  have hl : (lM t.Nodes).lookup i = none := zA (fun x => x) fun y hy => by have := h.rng hy; omega
  unfold jA iZ
  rw [Kw h hv n hn, Fu h hv n hn, Qs h hv st hst n (by omega), uZ h n (by omega), if_neg hi]
  have c : decide ((-1 : Int) ≥ 0) = false := by decide
  simp only [Option.bind_some, bne_self_eq_false, Bool.false_eq_true, if_false, jF, hl, Option.isSome_none, beq_self_eq_true, Am, c, Bool.and_false]
  simp [gd]
theorem Xc {t : bC} {v : aL} (h : cS t v) (hv : qX 4 v) (st : List aU) (hst : st.length ≤ 1000) (s : bS) (s2 s3 s4 : aP) (w : Nat) (hw' : w < s.Rules.length) (j : Unit → Option Bool) (p1 : Int) : ∀ (k i n : Nat), i + k = t.Nodes.length → Fi v + 3000 + k < n → dH (t, s2) (w : Int) (s, s4) (st, s3) j p1 n (i : Int) = j ()
 | 0, i, n, hi, hn => by
  obtain ⟨n, rfl⟩ : ∃ m, n = m + 1 := ⟨n - 1, by omega⟩
  rw [dH, if_neg (by simp; omega)]
 | k + 1, i, n, hi, hn => by
  obtain ⟨n, rfl⟩ : ∃ m, n = m + 1 := ⟨n - 1, by omega⟩
  have hl := h.len
  have hsz := h.size
  have hw : IntKind.wrap .i64 ((i : Int) + 1) = ((i + 1 : Nat) : Int) := by rw [Go.Bm.bB (by omega) (by omega)]; omega
  have hin : oE (w : Int) s.Rules.length = some w := by unfold oE; rw [if_pos ⟨by omega, by omega⟩]; simp
  obtain ⟨b, hb⟩ := Ei h hv st hst s.Rules[w] (t.Nodes[i]'(by omega)).ID
  obtain ⟨b1, b2⟩ := hb n (by omega)
  rw [dH, if_pos (by simp; omega)]
  simp only [hin, Option.bind_some]
  rw [List.getElem?_eq_getElem hw', hZ (by omega)]
  simp only [Option.bind_some, b1, b2, bne_self_eq_false, Bool.false_eq_true, if_false, hw]
  exact Xc h hv st hst s s2 s3 s4 w hw' j p1 k (i + 1) n (by omega) (by omega)
theorem Xj {t : bC} {v : aL} (h : cS t v) (hv : qX 4 v) (st : List aU) (hst : st.length ≤ 1000) (s : bS) (hs : s.Rules.length ≤ 100) (s2 s3 s4 : aP) (j : Unit → Option Bool) (p1 : Int) : ∀ (k i n : Nat), i + k = s.Rules.length → Fi v + 4000 + k < n → dG (s, s4) (t, s2) (st, s3) p1 j n (i : Int) = j ()
 | 0, i, n, hi, hn => by
  obtain ⟨n, rfl⟩ : ∃ m, n = m + 1 := ⟨n - 1, by omega⟩
  rw [dG, if_neg (by simp; omega)]
 | k + 1, i, n, hi, hn => by
  obtain ⟨n, rfl⟩ : ∃ m, n = m + 1 := ⟨n - 1, by omega⟩
  have hl := h.len
  have hsz := h.size
  have hw : IntKind.wrap .i64 ((i : Int) + 1) = ((i + 1 : Nat) : Int) := by rw [Go.Bm.bB (by omega) (by omega)]; omega
  have hlt : i < s.Rules.length := by omega
  have hin : oE (i : Int) s.Rules.length = some i := by unfold oE; rw [if_pos ⟨by omega, by omega⟩]; simp
  obtain ⟨b, hb⟩ := Ei h hv st hst s.Rules[i] p1
  obtain ⟨b1, b2⟩ := hb n (by omega)
  rw [dG, if_pos (by simp; omega)]
  unfold aV
  refine (Xc h hv st hst s s2 s3 s4 i hlt _ p1 t.Nodes.length 0 n (by omega) (by omega)).trans ?_
  simp only [hin, Option.bind_some]
  rw [List.getElem?_eq_getElem hlt]
  simp only [Option.bind_some, b1, b2, bne_self_eq_false, Bool.false_eq_true, if_false, hw]
  exact Xj h hv st hst s hs s2 s3 s4 j p1 k (i + 1) n (by omega) (by omega)
theorem Sk : oA 20000 = some true := by kernel_rfl
theorem Qn (n : Nat) (hn : 13000 ≤ n) (haw : oA n = some true) (l : List Int) (p1 : Int) : fT n l p1 = some true := by
 have key : lJ (fT n l p1) fun r => r = true := by
  unfold fT
  refine aN (Vh n l) fun y1 h1 => aN (Ug n (by omega) h1) fun y2 ⟨⟨v, hv, hT⟩, h2⟩ => ?_
  have hf := hv.fuel4
  have hlen := hT.len
  have hsz := hT.size
  refine aN (Mo n (by omega) (by omega) h2) fun y3 ⟨⟨hst, _⟩, h3⟩ => aN (Pi n (by omega) h3) fun y4 ⟨hs, h4⟩ => ?_
  have hsl := hs.len
  unfold aV
  exact ⟨true, (Xj hT hv y3.1 hst y4.1 (by omega) y2.2 y3.2 y4.2 _ p1 y4.1.Rules.length 0 n (by omega) (by omega)).trans (by rw [haw]; rfl), rfl⟩
 obtain ⟨r, hr, rfl⟩ := key
 exact hr
theorem It (l : List Int) (p1 : Int) : fT 20000 l p1 = some true := Qn 20000 (by omega) Sk l p1
end Go.Proofs.YtojkihhnioeggaaGreatDoor.S
