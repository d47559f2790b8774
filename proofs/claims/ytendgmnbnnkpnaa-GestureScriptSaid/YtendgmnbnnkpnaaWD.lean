/- GestureScript: the walk. -/
import Derived.Test.YtendgmnbnnkpnaaWC
import Derived.Test.YtendgmnbnnkpnaaVQ
import Derived.Deep.DeepCutAuto
import Derived.WalkKit
import Derived.WalkSpells
import Derived.WalkLawsBesides
import Derived.Deep.QuietTactic
import Derived.BigQuiet
import Derived.BigRegion
import Derived.Lib.Hide
import Derived.Deep.RegionWith
set_option linter.unusedSimpArgs false
set_option linter.unusedVariables false
namespace Go.Proofs.Ytendgmnbnnkpnaa.G
open Go.RowKit
theorem Pl.start {w X WW w' : World} {S n M at_ : Nat} {r : Rec} {v : Value} {l : List Ev} (he : Ext w X) (hS : w.heap.size ≤ S) (hB : Both X WW M r) (hs : SrcAt X S n at_) (h1 : Sound r) (h2 : Idle r) (hM : M < WW.heap.size) (hp : St WW S n w' v l) : ∃ a c, v = .slice a l.length c ∧ Pl w S n M a l w' := by
  obtain ⟨a, c, rfl, hv⟩ := evs_of_row hp.row
  obtain ⟨w1, at', hb', hs', hx⟩ := both_drawn hB hs hp.d
  refine ⟨a, c, rfl, ⟨⟨w1, at', r, hx _ he hS, hb', hs', h1, h2⟩, ?_, hS⟩⟩
  rcases hv with h | ⟨b, ha, h, hb⟩
  · exact .inl h
  · exact .inr ⟨b, ha, h, by omega, by have := hp.s; omega⟩
set_option maxRecDepth 100000 in
set_option maxHeartbeats 4000000 in
theorem script_law (a : Option Addr) (n cap : Nat) (w : World) (hc : n ≤ cap) (hm : cap ≤ 9223372036854775807) (hl : n = 0 ∨ ∃ b off, a = some ⟨b, off, none⟩ ∧ ∀ i, i < n → ∃ x : Int, -9223372036854775808 ≤ x ∧ x ≤ 9223372036854775807 ∧ w.cell? ⟨b, off + i, none⟩ = some (.int .i64 x)) :
    Calls Try.prog 11 #[.slice a n cap] w fun e w' => e = .returned (.bool true) ∧ Ext w w' := by
  have hnew := Lib.hid (src_New w a n cap hc hm hl)
  clear hl hc hm
  go_enter Try.func11, Try.ntmps11
  go_wp2_with fail
  refine Calls.mono hnew.out ?_
  rintro _ w1 ⟨S, n', rfl, hE, hS, hs⟩
  replace hE := Lib.hid hE
  replace hs : Hid (∃ at_, SrcAt w1 S n' at_) := Lib.hid ⟨_, hs⟩
  replace hS := Lib.hid hS
  clear hnew
  go_wp2
  go_loopg [4] 8 (fun g v4 wr => ∃ k : Nat, v4 = .int .i64 k ∧ 1 ≤ k ∧ k ≤ 9 ∧ g = 9 - k ∧ Hid (Ext w wr) ∧ Hid (∃ at_, SrcAt wr S n' at_))
  case atStart => exact ⟨1, rfl, by omega, by omega, by omega, hE, hs⟩
  case round =>
    clear hE hs
    obtain ⟨k, rfl, hk1, hk9, hg, hE, hs⟩ := hrel
    replace hg := Lib.hid hg
    by_cases hk : k ≤ 8
    rotate_left
    focus
      go_wp2_with fail
      refine (awake_any _).mono ?_
      rintro _ _ ⟨rfl, da, rfl⟩
      go_wp2
      go_ret
      exact ⟨rfl, hE.out.ext da⟩
    have hkb : btw (k : Int) 1 8 = true := by simp [btw]; omega
    have hsd := newR_sound (k := (k : Int)) (n := 1) hkb rfl
    have hid := idle_new (k : Int) 1
    replace hsd := Lib.hid hsd
    replace hid := Lib.hid hid
    obtain ⟨at_, hs⟩ := hs.out
    replace hs := Lib.hid hs
    go_wp2_with fail
    refine (New_ok (k : Int) 1 _ hkb rfl).mono ?_
    rintro _ _ ⟨rfl, d1, rfl⟩
    go_wp2_with fail
    refine (refNew_ok (k : Int) 1 _ hkb rfl).mono ?_
    rintro _ _ ⟨rfl, d2, rfl⟩
    go_wp2_with fail
    refine gen_at' (p := fun W => Calls _ _ _ W _) ?_
    intro WW hW
    have hB : ∃ X, Ext wr X ∧ Both X WW (wr.heap.size + d1.size + 1 + d2.size + 1) (newR k 1) := by
      rw [hW]
      refine ⟨_, ?_, both_new (r := newR k 1) rfl ?_⟩
      · (repeat (first | exact Ext.refl _ | assumption | refine Ext.alloc ?_ _ | refine Ext.ext ?_ _ | refine Ext.drew ?_))
      · simp only [World.size_ext, World.size_alloc]
    obtain ⟨X, hX, hB⟩ := hB
    clear hW hkb
    obtain ⟨M, hM⟩ : ∃ M, M = wr.heap.size + d1.size + 1 + d2.size + 1 := ⟨_, rfl⟩
    rw [← hM] at hB ⊢
    clear hM
    have hsX := Lib.hid (hs.out.ext hX)
    replace hX := Lib.hid (hE.out.trans hX)
    clear hE hs
    have hML := hB.ok.2
    refine Calls.mono (src_Pointers WW S n' at_ (hsX.out.ext hB.ext) 16 (by omega)) ?_
    rintro _ w3 ⟨v, l, rfl, hp, hl16⟩
    obtain ⟨ea, ec, rfl, ps⟩ := Pl.start hX.out hS.out hB hsX.out hsd.out hid.out hML hp
    clear hp hB hsX hML hX hsd hid
    replace ps := Lib.hid ps
    obtain ⟨at2, ss⟩ := ps.out.src
    go_wp2_with fail
    refine Calls.mono (src_N _ S n' _ ss 4 (by omega)) ?_
    rintro _ w4 ⟨x, rfl, -, -, hd⟩
    replace ps := Lib.hid (ps.out.draw hd)
    clear ss hd
    go_upto_if 40 with fail
    go_cut [11] (fun v11 wc => ∃ b : Bool, v11 = .bool b ∧ Hid (Pl w S n' M ea l wc))
    case first =>
      rcases hx : (x == 0) with _ | _
      focus
        go_wp2
        go_meet
        case rel => exact ⟨_, rfl, ps⟩
      focus
        go_wp2_with fail
        refine Calls.mono (pl_judge w _ S n' M ea l 0 (by omega) ps.out) ?_
        rintro _ w5 ⟨v, rfl, ps2⟩
        replace ps2 := Lib.hid ps2
        go_wp2
        go_meet
        case rel => exact ⟨_, rfl, ps2⟩
    case rest =>
      clear ps
      obtain ⟨won, rfl, ps⟩ := hcut
      go_wp2
      go_loopg [11, 12] l.length (fun g v11 v12 wr => ∃ (i : Nat) (won : Bool), v11 = .bool won ∧ v12 = .int .i64 i ∧ i ≤ l.length ∧ g = l.length - i ∧ Hid (Pl w S n' M ea l wr))
      case atStart => exact ⟨0, won, rfl, rfl, Nat.zero_le _, rfl, ps⟩
      case round =>
        clear ps
        obtain ⟨i, won, rfl, rfl, hi, hg2, ps⟩ := hrel
        obtain ⟨hok, hM⟩ := ps.out.ok
        by_cases hlt : i < l.length
        rotate_left
        focus
          go_wp2
          go_roundg (9 - (k + 1))
          case measure => have := hg.out; omega
          case rel => exact ⟨k + 1, by go_num, by omega, by omega, rfl, Lib.hid ps.out.ext, Lib.hid ps.out.src⟩
        replace hg2 := Lib.hid hg2
        obtain ⟨e, he⟩ : ∃ e, l[i]? = some e := ⟨_, List.getElem?_eq_getElem hlt⟩
        obtain ⟨b, rfl, hev⟩ : ∃ b, ea = some ⟨b, 0, none⟩ ∧ EvAt wr b (i * 6) e := by
          rcases ps.out.e with h | ⟨b, h, hv, _, _⟩
          · rw [h] at he; cases he
          · exact ⟨b, h, Nat.zero_add (i * 6) ▸ hv i e he⟩
        obtain ⟨c0, c1, c2, c3, c4, c5⟩ := hev
        have hbl := World.block_lt_of_cell? wr ⟨b, i * 6, none⟩ c0
        simp only at hbl
        clear he
        go_wp2_with fail
        refine Calls.mono (pl_feed w _ S n' M _ l e ps.out) ?_
        rintro _ w5 ⟨ask, va, vn, vc, rfl, ps2⟩
        clear ps c0 c1 c2 c3 c4 c5 hbl hok hM
        have ps := Lib.hid ps2
        clear ps2
        obtain ⟨at3, ss⟩ := ps.out.src
        replace ss := Lib.hid ss
        go_upto_region 16 with fail
        go_cut [74] (fun v74 wc => ∃ t : Bool, v74 = .bool t ∧ Hid (Pl w S n' M (some ⟨b, 0, none⟩) l wc))
        case first =>
          rcases hk1 : (ask == 1) with _ | _
          focus
            go_wp2
            go_meet
            case rel => exact ⟨_, rfl, ps⟩
          cases won
          rotate_left
          focus
            go_wp2
            go_meet
            case rel => exact ⟨_, rfl, ps⟩
          focus
            go_wp2_with fail
            refine Calls.mono (src_N _ S n' _ ss.out 4 (by omega)) ?_
            rintro _ w6 ⟨x, rfl, -, -, hd⟩
            replace ps := Lib.hid (ps.out.draw hd)
            clear ss hd
            go_wp2
            go_meet
            case rel => exact ⟨_, rfl, ps⟩
        case rest =>
          clear ps ss
          obtain ⟨t, rfl, ps⟩ := hcut
          cases t
          rotate_left
          focus
            go_wp2_with fail
            refine Calls.mono (pl_judge w _ S n' M _ l 0 (by omega) ps.out) ?_
            rintro _ w6 ⟨v, rfl, ps2⟩
            replace ps2 := Lib.hid ps2
            go_wp2
            go_roundg (l.length - (i + 1))
            case measure => have := hg2.out; omega
            case rel => exact ⟨i + 1, _, rfl, by go_num, by omega, rfl, ps2⟩
          obtain ⟨at4, ss⟩ := ps.out.src
          replace ss := Lib.hid ss
          go_wp2_with fail
          refine Calls.mono (src_Chance _ S n' _ ss.out 20 (by omega) (by omega)) ?_
          rintro _ w6 ⟨t, rfl, hd⟩
          replace ps := Lib.hid (ps.out.draw hd)
          clear ss hd
          cases t
          focus
            go_wp2
            go_roundg (l.length - (i + 1))
            case measure => have := hg2.out; omega
            case rel => exact ⟨i + 1, _, rfl, by go_num, by omega, rfl, ps⟩
          obtain ⟨at5, ss⟩ := ps.out.src
          replace ss := Lib.hid ss
          go_wp2_with fail
          refine Calls.mono (src_N _ S n' _ ss.out 3 (by omega)) ?_
          rintro _ w7 ⟨x, rfl, hx, -, hd⟩
          have hx2 := hx (by omega)
          clear hx
          replace ps := Lib.hid (ps.out.draw hd)
          clear ss hd
          go_wp2_with fail
          refine Calls.mono (pl_judge w _ S n' M _ l x (by omega) ps.out) ?_
          rintro _ w8 ⟨v, rfl, ps2⟩
          replace ps2 := Lib.hid ps2
          go_wp2
          go_roundg (l.length - (i + 1))
          case measure => have := hg2.out; omega
          case rel => exact ⟨i + 1, _, rfl, by go_num, by omega, rfl, ps2⟩
end Go.Proofs.Ytendgmnbnnkpnaa.G
