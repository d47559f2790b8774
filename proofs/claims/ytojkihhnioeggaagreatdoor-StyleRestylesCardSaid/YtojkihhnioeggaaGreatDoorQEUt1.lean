import Derived.Test.YtojkihhnioeggaaGreatDoorQEDr9
import Derived.Lib.MapLaws
import Derived.Lib.ValidLaws
import Derived.WalkLawsBesides
import Derived.Deep.QuietTactic
import Derived.BigQuiet
import Derived.BigRegion
import Derived.Lib.Hide
import Derived.Deep.RegionWith
set_option linter.unusedSimpArgs false
set_option linter.all false
set_option linter.unusedVariables false
namespace Go.Proofs.YtojkihhnioeggaaGreatDoor.S
open Go Go.Bm
theorem aA0 (r : Int) : (Utf8.encode r).data.toList = Lib.encodeRune r := by
 unfold Lib.encodeRune
 by_cases hv : Utf8.valid r = true
 ·have hr : (0 ≤ r ∧ r < 55296) ∨ (57344 ≤ r ∧ r ≤ 1114111) := by
   unfold Utf8.valid at hv
   simpa using hv
  unfold Utf8.encode
  simp only [hv, if_true]
  by_cases c1 : r ≤ 127
  ·rw [Lib.encodeRuneZ_one (by omega) c1, if_pos (by omega)]
   rfl
  by_cases c2 : r ≤ 2047
  ·rw [Lib.encodeRuneZ_two (by omega) c2, if_neg (by omega), if_pos (by omega)]
   simp only [List.map_cons, List.map_nil]
   rw [show (192 + r / 64).toNat = 192 + r.toNat / 64 by omega, show (128 + r % 64).toNat = 128 + r.toNat % 64 by omega]
  by_cases c3 : r ≤ 65535
  ·rw [Lib.encodeRuneZ_three (by omega), if_neg (by omega), if_neg (by omega), if_pos (by omega)]
   simp only [List.map_cons, List.map_nil]
   rw [show (224 + r / 4096).toNat = 224 + r.toNat / 4096 by omega, show (128 + r / 64 % 64).toNat = 128 + r.toNat / 64 % 64 by omega, show (128 + r % 64).toNat = 128 + r.toNat % 64 by omega]
  ·rw [Lib.encodeRuneZ_four (by omega) (by omega), if_neg (by omega), if_neg (by omega), if_neg (by omega)]
   simp only [List.map_cons, List.map_nil]
   rw [show (240 + r / 262144).toNat = 240 + r.toNat / 262144 by omega, show (128 + r / 4096 % 64).toNat = 128 + r.toNat / 4096 % 64 by omega, show (128 + r / 64 % 64).toNat = 128 + r.toNat / 64 % 64 by omega, show (128 + r % 64).toNat = 128 + r.toNat % 64 by omega]
 ·have hr : r < 0 ∨ (55296 ≤ r ∧ r ≤ 57343) ∨ 1114111 < r := by
   unfold Utf8.valid at hv
   simp at hv
   omega
  unfold Utf8.encode
  simp only [hv, fT, if_false]
  rw [Lib.encodeRuneZ_bad hr]
  rfl
theorem Mh : ∀ (ns : List Int) (s : ByteArray), (ns.foldl (fun r n => r ++ Utf8.encode n) s).data.toList = s.data.toList ++ ns.flatMap Lib.encodeRune
 | [], s => by simp
 | n :: ns, s => by
  rw [List.foldl_cons, Mh ns, List.flatMap_cons, ← List.append_assoc]
  congr 1
  rw [← aA0]
  simp
theorem wE (ns : List Int) : (runesBytes ns).data.toList = ns.flatMap Lib.encodeRune := by
 unfold runesBytes
 rw [Mh]
 rfl
theorem dec2 (n r b2 b3 : Nat) (hn : 2 ≤ n) (h : 128 ≤ r ∧ r ≤ 2047) : Lib.decodeN n (192 + r / 64) (128 + r % 64) b2 b3 = (r, 2) := by
 unfold Lib.decodeN
 rw [if_neg (by omega), if_pos (by omega), if_pos (by omega)]
 simp only [Prod.mk.injEq, and_true]
 omega
theorem dec3 (n r b3 : Nat) (hn : 3 ≤ n) (h : (2048 ≤ r ∧ r < 55296) ∨ (57344 ≤ r ∧ r ≤ 65535)) : Lib.decodeN n (224 + r / 4096) (128 + r / 64 % 64) (128 + r % 64) b3 = (r, 3) := by
 unfold Lib.decodeN
 rw [if_neg (by omega), if_neg (by omega), if_pos (by omega), if_pos (by omega)]
 simp only [Prod.mk.injEq, and_true]
 omega
theorem dec4 (n r : Nat) (hn : 4 ≤ n) (h : 65536 ≤ r ∧ r ≤ 1114111) : Lib.decodeN n (240 + r / 262144) (128 + r / 4096 % 64) (128 + r / 64 % 64) (128 + r % 64) = (r, 4) := by
 unfold Lib.decodeN
 rw [if_neg (by omega), if_neg (by omega), if_neg (by omega), if_pos (by omega), if_pos (by omega)]
 simp only [Prod.mk.injEq, and_true]
 omega
theorem u8n (n : Nat) (h : n < 256) : (n.toUInt8).toNat = n := by
 show (UInt8.ofNat n).toNat = n
 rw [UInt8.toNat_ofNat']
 omega
theorem Xq (r : Nat) (t : List UInt8) (h : 128 ≤ r ∧ r ≤ 2047) : Lib.validD ((192 + r / 64).toUInt8 :: (128 + r % 64).toUInt8 :: t) = Lib.validD t := by
 have e : Lib.decodeL ((192 + r / 64).toUInt8 :: (128 + r % 64).toUInt8 :: t) = (r, 2) := by
  rw [Lib.decodeL_N]
  simp only [List.getD_cons_zero, List.getD_cons_succ]
  rw [u8n _ (by omega), u8n _ (by omega)]
  exact dec2 _ r _ _ (by simp) h
 rw [Lib.validD_step _ (by simp), e, if_neg (by omega)]
 rfl
theorem Ey (r : Nat) (t : List UInt8) (h : (2048 ≤ r ∧ r < 55296) ∨ (57344 ≤ r ∧ r ≤ 65535)) : Lib.validD ((224 + r / 4096).toUInt8 :: (128 + r / 64 % 64).toUInt8 :: (128 + r % 64).toUInt8 :: t) = Lib.validD t := by
 have e : Lib.decodeL ((224 + r / 4096).toUInt8 :: (128 + r / 64 % 64).toUInt8 :: (128 + r % 64).toUInt8 :: t) = (r, 3) := by
  rw [Lib.decodeL_N]
  simp only [List.getD_cons_zero, List.getD_cons_succ]
  rw [u8n _ (by omega), u8n _ (by omega), u8n _ (by omega)]
  exact dec3 _ r _ (by simp) h
 rw [Lib.validD_step _ (by simp), e, if_neg (by omega)]
 rfl
theorem Sr (r : Nat) (t : List UInt8) (h : 65536 ≤ r ∧ r ≤ 1114111) : Lib.validD ((240 + r / 262144).toUInt8 :: (128 + r / 4096 % 64).toUInt8 :: (128 + r / 64 % 64).toUInt8 :: (128 + r % 64).toUInt8 :: t) = Lib.validD t := by
 have e : Lib.decodeL ((240 + r / 262144).toUInt8 :: (128 + r / 4096 % 64).toUInt8 :: (128 + r / 64 % 64).toUInt8 :: (128 + r % 64).toUInt8 :: t) = (r, 4) := by
  rw [Lib.decodeL_N]
  simp only [List.getD_cons_zero, List.getD_cons_succ]
  rw [u8n _ (by omega), u8n _ (by omega), u8n _ (by omega), u8n _ (by omega)]
  exact dec4 _ r (by simp) h
 rw [Lib.validD_step _ (by simp), e, if_neg (by omega)]
 rfl
theorem Wz (r : Int) (t : List UInt8) : Lib.validD (Lib.encodeRune r ++ t) = Lib.validD t := by
 unfold Lib.encodeRune
 by_cases hb : r < 0 ∨ (55296 ≤ r ∧ r ≤ 57343) ∨ 1114111 < r
 ·rw [Lib.encodeRuneZ_bad hb]
  exact Ey 65533 t (by omega)
 by_cases c1 : r ≤ 127
 ·rw [Lib.encodeRuneZ_one (by omega) c1]
  simp only [List.map_cons, List.map_nil, List.cons_append, List.nil_append]
  exact Lib.validD_cons _ _ (by rw [u8n _ (by omega)]; omega)
 by_cases c2 : r ≤ 2047
 ·rw [Lib.encodeRuneZ_two (by omega) c2]
  simp only [List.map_cons, List.map_nil, List.cons_append, List.nil_append]
  rw [show (192 + r / 64).toNat = 192 + r.toNat / 64 by omega, show (128 + r % 64).toNat = 128 + r.toNat % 64 by omega]
  exact Xq r.toNat t (by omega)
 by_cases c3 : r ≤ 65535
 ·rw [Lib.encodeRuneZ_three (by omega)]
  simp only [List.map_cons, List.map_nil, List.cons_append, List.nil_append]
  rw [show (224 + r / 4096).toNat = 224 + r.toNat / 4096 by omega, show (128 + r / 64 % 64).toNat = 128 + r.toNat / 64 % 64 by omega, show (128 + r % 64).toNat = 128 + r.toNat % 64 by omega]
  exact Ey r.toNat t (by omega)
 ·rw [Lib.encodeRuneZ_four (by omega) (by omega)]
  simp only [List.map_cons, List.map_nil, List.cons_append, List.nil_append]
  rw [show (240 + r / 262144).toNat = 240 + r.toNat / 262144 by omega, show (128 + r / 4096 % 64).toNat = 128 + r.toNat / 4096 % 64 by omega, show (128 + r / 64 % 64).toNat = 128 + r.toNat / 64 % 64 by omega, show (128 + r % 64).toNat = 128 + r.toNat % 64 by omega]
  exact Sr r.toNat t (by omega)
theorem Eo (ns : List Int) : Lib.validD (runesBytes ns).data.toList = true := by
 rw [wE]
 induction ns with
 | nil => rfl
 | cons n ns ih => rw [List.flatMap_cons, Wz, ih]
def vint (v : Value) : Int := match v with | .int _ n => n | _ => 0
theorem Gr (s : ByteArray) : ∀ (bound i : Nat) (acc : Array Value), s.size ≤ i + bound → Lib.validD (s.data.toList.drop i) = true → ((Conv.runesFrom s bound i acc).toList.map vint).flatMap Lib.encodeRune = (acc.toList.map vint).flatMap Lib.encodeRune ++ s.data.toList.drop i
 | 0, i, acc, h, _ => by
  have : s.data.toList.drop i = [] := List.drop_eq_nil_of_le (by simpa using h)
  rw [this, List.append_nil]; rfl
 | bound + 1, i, acc, h, hv => by
  unfold Conv.runesFrom
  have ah : s.data.toList.length = s.size := by simp
  split
  ·rename_i hi
   have hne : s.data.toList.drop i ≠ [] := by
    intro e
    have := congrArg List.length e
    rw [List.length_drop] at this
    simp at this
    omega
   have hd := Lib.decodeL_drop s i
   rw [Lib.validD_step _ hne] at hv
   split at hv
   ·cases hv
   ·rename_i hok
    have he := Lib.encode_decode _ hne hok
    have hw := Lib.decodeL_width (s.data.toList.drop i)
    rw [List.drop_drop] at hv
    rw [hd] at hv he hw
    show ((Conv.runesFrom s bound (i + (Utf8.decode s i).2) (acc.push (.int .i32 (Int.ofNat (Utf8.decode s i).1)))).toList.map vint).flatMap Lib.encodeRune = _
    rw [Gr s bound (i + (Utf8.decode s i).2) _ (by omega) hv]
    rw [Array.toList_push, List.map_append, List.flatMap_append, List.append_assoc]
    congr 1
    simp only [List.map_cons, List.map_nil, List.flatMap_cons, List.flatMap_nil, List.append_nil, vint]
    rw [show (Int.ofNat (Utf8.decode s i).1) = (((Utf8.decode s i).1 : Nat) : Int) from rfl, he, ← List.drop_drop, List.take_append_drop]
  ·rename_i hi
   have : s.data.toList.drop i = [] := List.drop_eq_nil_of_le (by rw [ah]; omega)
   rw [this, List.append_nil]
theorem Jq (s : ByteArray) (h : Lib.validD s.data.toList = true) : runesBytes (sK s) = s := by
 have e : (runesBytes (sK s)).data.toList = s.data.toList := by
  rw [wE]
  show List.flatMap Lib.encodeRune ((Conv.runesFrom s s.size 0 #[]).toList.map vint) = _
  have := Gr s s.size 0 #[] (by omega) (by simpa using h)
  simpa using this
 have e2 : (runesBytes (sK s)).data = s.data := by
  rw [← Array.toArray_toList (xs := (runesBytes (sK s)).data), e, Array.toArray_toList]
 cases hs : runesBytes (sK s) with
 | mk d => rw [hs] at e2; cases s; simp only at e2; rw [e2]
end Go.Proofs.YtojkihhnioeggaaGreatDoor.S
