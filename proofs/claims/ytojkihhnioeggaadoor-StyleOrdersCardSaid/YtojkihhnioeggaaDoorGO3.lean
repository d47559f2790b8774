/- Functions, and that the program's are they. Printed by ext.py. -/
import Derived.Test.YtojkihhnioeggaaDoorGO2
set_option linter.unusedVariables false
set_option linter.unusedSimpArgs false
set_option maxRecDepth 100000
set_option maxHeartbeats 4000000
namespace Go.Proofs.YtojkihhnioeggaaDoor.S
open Go Go.Bm
def utf8_word_string  (n : Nat) (p0 : ByteArray) : Option Int := (if false = true then (sidx p0 0).bind fun (u1 : Int) => (sidx p0 1).bind fun (u2 : Int) => (sidx p0 2).bind fun (u3 : Int) => (sidx p0 3).bind fun (u4 : Int) => some (bOr .u64 (bOr .u64 (bOr .u64 (IntKind.wrap .u64 u1) (bShl .u64 (IntKind.wrap .u64 u2) 8)) (bShl .u64 (IntKind.wrap .u64 u3) 16)) (bShl .u64 (IntKind.wrap .u64 u4) 24)) else (sidx p0 0).bind fun (u5 : Int) => (sidx p0 1).bind fun (u6 : Int) => (sidx p0 2).bind fun (u7 : Int) => (sidx p0 3).bind fun (u8 : Int) => (sidx p0 4).bind fun (u9 : Int) => (sidx p0 5).bind fun (u10 : Int) => (sidx p0 6).bind fun (u11 : Int) => (sidx p0 7).bind fun (u12 : Int) => some (bOr .u64 (bOr .u64 (bOr .u64 (bOr .u64 (bOr .u64 (bOr .u64 (bOr .u64 (IntKind.wrap .u64 u5) (bShl .u64 (IntKind.wrap .u64 u6) 8)) (bShl .u64 (IntKind.wrap .u64 u7) 16)) (bShl .u64 (IntKind.wrap .u64 u8) 24)) (bShl .u64 (IntKind.wrap .u64 u9) 32)) (bShl .u64 (IntKind.wrap .u64 u10) 40)) (bShl .u64 (IntKind.wrap .u64 u11) 48)) (bShl .u64 (IntKind.wrap .u64 u12) 56)))
theorem utf8_word_string_ok  (n : Nat) (p0 : ByteArray) (r : Int) (h : utf8_word_string n p0 = some r) : FnD E 112 0 [.c (Sx p0)] [] (.c (U64 r)) [] := by
  refine zfn Tryd.func112 rfl ?_
  unfold utf8_word_string at h
  refine za [0] ?_
  refine aw_seq ?_
  refine zi h (fun h => ?_) fun h => ?_
  refine zdx [[], [0], [1, 0], [], [3], [4, 3], [5, 4, 3], [2, 6, 1, 0, 5, 4, 3], [], [8], [9, 8], [10, 9, 8], [7, 11, 2, 6, 1, 0, 5, 4, 3, 10, 9, 8], [], [13], [14, 13], [15, 14, 13], [12, 16, 7, 11, 2, 6, 1, 0, 5, 4, 3, 10, 9, 8, 15, 14, 13], [17, 0, 1, 2, 3, 4, 5, 6, 7, 8, 9, 10, 11, 12, 13, 14, 15, 16]] fun _ => ?_
  refine zk 1 ?_
  obtain ⟨u1, he, h⟩ := bindE h
  refine zs he ?_
  clear he
  refine zk 2 ?_
  obtain ⟨u2, he, h⟩ := bindE h
  refine zs he ?_
  clear he
  refine zk 4 ?_
  obtain ⟨u3, he, h⟩ := bindE h
  refine zs he ?_
  clear he
  refine zk 4 ?_
  obtain ⟨u4, he, h⟩ := bindE h
  refine zs he ?_
  clear he
  refine zk 4 ?_
  refine zee [2] (L2 := [(2, .c (U64 (bOr .u64 (bOr .u64 (bOr .u64 (IntKind.wrap .u64 u1) (bShl .u64 (IntKind.wrap .u64 u2) 8)) (bShl .u64 (IntKind.wrap .u64 u3) 16)) (bShl .u64 (IntKind.wrap .u64 u4) 24))))]) (G2 := []) 20 ?_
  cases h
  exact aw_ret zr
  refine aw_skip ?_
  refine zdx [[], [0], [1, 0], [], [3], [4, 3], [5, 4, 3], [2, 6, 1, 0, 5, 4, 3], [], [8], [9, 8], [10, 9, 8], [7, 11, 2, 6, 1, 0, 5, 4, 3, 10, 9, 8], [], [13], [14, 13], [15, 14, 13], [12, 16, 7, 11, 2, 6, 1, 0, 5, 4, 3, 10, 9, 8, 15, 14, 13], [], [18], [19, 18], [20, 19, 18], [17, 21, 12, 16, 7, 11, 2, 6, 1, 0, 5, 4, 3, 10, 9, 8, 15, 14, 13, 20, 19, 18], [], [23], [24, 23], [25, 24, 23], [22, 26, 17, 21, 12, 16, 7, 11, 2, 6, 1, 0, 5, 4, 3, 10, 9, 8, 15, 14, 13, 20, 19, 18, 25, 24, 23], [], [28], [29, 28], [30, 29, 28], [27, 31, 22, 26, 17, 21, 12, 16, 7, 11, 2, 6, 1, 0, 5, 4, 3, 10, 9, 8, 15, 14, 13, 20, 19, 18, 25, 24, 23, 30, 29, 28], [], [33], [34, 33], [35, 34, 33], [32, 36, 27, 31, 22, 26, 17, 21, 12, 16, 7, 11, 2, 6, 1, 0, 5, 4, 3, 10, 9, 8, 15, 14, 13, 20, 19, 18, 25, 24, 23, 30, 29, 28, 35, 34, 33], [37, 0, 1, 2, 3, 4, 5, 6, 7, 8, 9, 10, 11, 12, 13, 14, 15, 16, 17, 18, 19, 20, 21, 22, 23, 24, 25, 26, 27, 28, 29, 30, 31, 32, 33, 34, 35, 36]] fun _ => ?_
  refine zk 1 ?_
  obtain ⟨u5, he, h⟩ := bindE h
  refine zs he ?_
  clear he
  refine zk 2 ?_
  obtain ⟨u6, he, h⟩ := bindE h
  refine zs he ?_
  clear he
  refine zk 4 ?_
  obtain ⟨u7, he, h⟩ := bindE h
  refine zs he ?_
  clear he
  refine zk 4 ?_
  obtain ⟨u8, he, h⟩ := bindE h
  refine zs he ?_
  clear he
  refine zk 4 ?_
  obtain ⟨u9, he, h⟩ := bindE h
  refine zs he ?_
  clear he
  refine zk 4 ?_
  obtain ⟨u10, he, h⟩ := bindE h
  refine zs he ?_
  clear he
  refine zk 4 ?_
  obtain ⟨u11, he, h⟩ := bindE h
  refine zs he ?_
  clear he
  refine zk 4 ?_
  obtain ⟨u12, he, h⟩ := bindE h
  refine zs he ?_
  clear he
  refine zk 4 ?_
  refine zee [2] (L2 := [(2, .c (U64 (bOr .u64 (bOr .u64 (bOr .u64 (bOr .u64 (bOr .u64 (bOr .u64 (bOr .u64 (IntKind.wrap .u64 u5) (bShl .u64 (IntKind.wrap .u64 u6) 8)) (bShl .u64 (IntKind.wrap .u64 u7) 16)) (bShl .u64 (IntKind.wrap .u64 u8) 24)) (bShl .u64 (IntKind.wrap .u64 u9) 32)) (bShl .u64 (IntKind.wrap .u64 u10) 40)) (bShl .u64 (IntKind.wrap .u64 u11) 48)) (bShl .u64 (IntKind.wrap .u64 u12) 56))))]) (G2 := []) 40 ?_
  cases h
  exact aw_ret zr
def utf8_ValidString_L1 (j50 : ByteArray → Option Bool) : Nat → ByteArray → Option Bool
  | 0, _ => none
  | n + 1, v65 => (gd [(decide ((ByteArray.size v65 : Int) > 32))] (utf8_word_string n v65)).bind fun (y66 : Int) => (gd [(decide ((ByteArray.size v65 : Int) > 32))] (subs v65 8 (ByteArray.size v65 : Int))).bind fun (s67 : ByteArray) => (gd [(decide ((ByteArray.size v65 : Int) > 32))] (utf8_word_string n s67)).bind fun (y68 : Int) => (gd [(decide ((ByteArray.size v65 : Int) > 32))] (subs v65 16 (ByteArray.size v65 : Int))).bind fun (s69 : ByteArray) => (gd [(decide ((ByteArray.size v65 : Int) > 32))] (utf8_word_string n s69)).bind fun (y70 : Int) => (gd [(decide ((ByteArray.size v65 : Int) > 32))] (subs v65 24 (ByteArray.size v65 : Int))).bind fun (s71 : ByteArray) => (gd [(decide ((ByteArray.size v65 : Int) > 32))] (utf8_word_string n s71)).bind fun (y72 : Int) => (if ((decide ((ByteArray.size v65 : Int) > 32)) && ((bAnd .u64 (bOr .u64 (bOr .u64 y66 y68) (bOr .u64 y70 y72)) 9259542123273814144) == 0)) = true then (subs v65 32 (ByteArray.size v65 : Int)).bind fun (s73 : ByteArray) => utf8_ValidString_L1 j50 n s73 else j50 v65)
def utf8_ValidString_L0 (j1 : Unit → Option Bool) : Nat → ByteArray → Option Bool
  | 0, _ => none
  | n + 1, v47 => (if (decide ((ByteArray.size v47 : Int) > 0)) = true then (sidx v47 0).bind fun (u48 : Int) => (if (decide (u48 < 128)) = true then (subs v47 1 (ByteArray.size v47 : Int)).bind fun (s49 : ByteArray) => (withJ (fun (v75 : ByteArray) => utf8_ValidString_L0 j1 n v75) (fun (j50 : ByteArray → Option Bool) => (gd [(decide ((ByteArray.size s49 : Int) > 8))] (utf8_word_string n s49)).bind fun (y51 : Int) => (if ((decide ((ByteArray.size s49 : Int) > 8)) && ((bAnd .u64 y51 9259542123273814144) == 0)) = true then (subs s49 8 (ByteArray.size s49 : Int)).bind fun (s52 : ByteArray) => (gd [(decide ((ByteArray.size s52 : Int) > 16))] (utf8_word_string n s52)).bind fun (y53 : Int) => (gd [(decide ((ByteArray.size s52 : Int) > 16))] (subs s52 8 (ByteArray.size s52 : Int))).bind fun (s54 : ByteArray) => (gd [(decide ((ByteArray.size s52 : Int) > 16))] (utf8_word_string n s54)).bind fun (y55 : Int) => (if ((decide ((ByteArray.size s52 : Int) > 16)) && ((bAnd .u64 (bOr .u64 y53 y55) 9259542123273814144) == 0)) = true then (subs s52 16 (ByteArray.size s52 : Int)).bind fun (s56 : ByteArray) => utf8_ValidString_L1 j50 n s56 else j50 s52) else j50 s49))) else (idx tab_unicode_utf8_first u48).bind fun (e76 : Int) => (idx tab_unicode_utf8_acceptRanges (bShr .u8 e76 4)).bind fun (e77 : GacceptRange) => (if ((IntKind.wrap .i64 (bAnd .u8 e76 7)) == 2) = true then (gd [(!(decide ((ByteArray.size v47 : Int) < 2)))] (sidx v47 1)).bind fun (u78 : Int) => (gd [(!((decide ((ByteArray.size v47 : Int) < 2)) || (decide (u78 < e77.lo))))] (sidx v47 1)).bind fun (u79 : Int) => (if (((decide ((ByteArray.size v47 : Int) < 2)) || (decide (u78 < e77.lo))) || (decide (e77.hi < u79))) = true then some false else (subs v47 2 (ByteArray.size v47 : Int)).bind fun (s80 : ByteArray) => utf8_ValidString_L0 j1 n s80) else (if ((IntKind.wrap .i64 (bAnd .u8 e76 7)) == 3) = true then (gd [(!(decide ((ByteArray.size v47 : Int) < 3)))] (sidx v47 1)).bind fun (u81 : Int) => (gd [(!((decide ((ByteArray.size v47 : Int) < 3)) || (decide (u81 < e77.lo))))] (sidx v47 1)).bind fun (u82 : Int) => (gd [(!(((decide ((ByteArray.size v47 : Int) < 3)) || (decide (u81 < e77.lo))) || (decide (e77.hi < u82))))] (sidx v47 2)).bind fun (u83 : Int) => (gd [(!((((decide ((ByteArray.size v47 : Int) < 3)) || (decide (u81 < e77.lo))) || (decide (e77.hi < u82))) || (decide (u83 < 128))))] (sidx v47 2)).bind fun (u84 : Int) => (if (((((decide ((ByteArray.size v47 : Int) < 3)) || (decide (u81 < e77.lo))) || (decide (e77.hi < u82))) || (decide (u83 < 128))) || (decide ((191 : Int) < u84))) = true then some false else (subs v47 3 (ByteArray.size v47 : Int)).bind fun (s85 : ByteArray) => utf8_ValidString_L0 j1 n s85) else (if ((IntKind.wrap .i64 (bAnd .u8 e76 7)) == 4) = true then (gd [(!(decide ((ByteArray.size v47 : Int) < 4)))] (sidx v47 1)).bind fun (u86 : Int) => (gd [(!((decide ((ByteArray.size v47 : Int) < 4)) || (decide (u86 < e77.lo))))] (sidx v47 1)).bind fun (u87 : Int) => (gd [(!(((decide ((ByteArray.size v47 : Int) < 4)) || (decide (u86 < e77.lo))) || (decide (e77.hi < u87))))] (sidx v47 2)).bind fun (u88 : Int) => (gd [(!((((decide ((ByteArray.size v47 : Int) < 4)) || (decide (u86 < e77.lo))) || (decide (e77.hi < u87))) || (decide (u88 < 128))))] (sidx v47 2)).bind fun (u89 : Int) => (gd [(!(((((decide ((ByteArray.size v47 : Int) < 4)) || (decide (u86 < e77.lo))) || (decide (e77.hi < u87))) || (decide (u88 < 128))) || (decide ((191 : Int) < u89))))] (sidx v47 3)).bind fun (u90 : Int) => (gd [(!((((((decide ((ByteArray.size v47 : Int) < 4)) || (decide (u86 < e77.lo))) || (decide (e77.hi < u87))) || (decide (u88 < 128))) || (decide ((191 : Int) < u89))) || (decide (u90 < 128))))] (sidx v47 3)).bind fun (u91 : Int) => (if (((((((decide ((ByteArray.size v47 : Int) < 4)) || (decide (u86 < e77.lo))) || (decide (e77.hi < u87))) || (decide (u88 < 128))) || (decide ((191 : Int) < u89))) || (decide (u90 < 128))) || (decide ((191 : Int) < u91))) = true then some false else (subs v47 4 (ByteArray.size v47 : Int)).bind fun (s92 : ByteArray) => utf8_ValidString_L0 j1 n s92) else some false)))) else j1 ())
def utf8_ValidString  (n : Nat) (p0 : ByteArray) : Option Bool := (withJ (fun (_ : Unit) => some true) (fun (j1 : Unit → Option Bool) => utf8_ValidString_L0 j1 n p0))
theorem utf8_ValidString_ok  (n : Nat) (p0 : ByteArray) (r : Bool) (h : utf8_ValidString n p0 = some r) : FnD E 109 0 [.c (Sx p0)] [] (.c (Bo r)) [] := by
  refine zfn Tryd.func109 rfl ?_
  unfold utf8_ValidString at h
  refine za [0] ?_
  refine aw_join h (fun A j => ∀ u, j u = some r → A (mk [] [] 0)) (fun u h => ?_) (fun j1 Aj1 hj1 h => ?_)
  refine za [2] ?_
  cases h
  exact aw_ret zr
  refine aw_block ?_
  refine aw_loopJ (fun n s => ∃ v47, utf8_ValidString_L0 j1 n v47 = some r ∧ s = mk [(0, .c (Sx v47))] [] 0) n _ (zv [] [0] 0) ⟨_, h, rfl⟩ (fun s ⟨v47, h, _⟩ => nomatch h) ?_
  rintro n s ⟨v47, h, rfl⟩
  rw [utf8_ValidString_L0] at h
  refine aw_seq ?_
  refine za [0, 9] ?_
  refine zi h (fun h => ?_) fun h => ?_
  refine aw_skip ?_
  refine aw_block ?_
  refine zx fun _ => ?_
  refine zk 1 ?_
  obtain ⟨u48, he, h⟩ := bindE h
  refine zs he ?_
  clear he
  refine zk 1 ?_
  refine ze [0, 3] ?_
  refine aw_seq ?_
  refine za [0, 3, 13] ?_
  refine zi h (fun h => ?_) fun h => ?_
  refine zx fun _ => ?_
  refine zk 1 ?_
  obtain ⟨s49, he, h⟩ := bindE h
  refine zw (v := .c (Sx s49)) [] (rdW_substr (s := v47) (p := 1) (q := (ByteArray.size v47 : Int)) he (by kernel_rfl)) ?_
  clear he
  refine zk 1 ?_
  refine ze [0] ?_
  refine aw_join h (fun A j => ∀ v75, j v75 = some r → A (mk [(0, .c (Sx v75))] [] 0)) (fun v75 h => ?_) (fun j50 Aj50 hj50 h => ?_)
  exact aw_views (zv [] [0] 0) (aw_exit (⟨_, h, rfl⟩))
  refine zx fun _ => ?_
  refine zk 4 ?_
  refine zE (.c (Sx s49)) ?_
  obtain ⟨y51, he, h⟩ := bindE h
  refine zk1 [(decide ((ByteArray.size s49 : Int) > 8))] fok112 (fun hg => utf8_word_string_ok n _ y51 (gd_spec he hg)) ?_
  clear he
  refine zE (.c (U64 (bAnd .u64 y51 9259542123273814144))) ?_
  refine zE (.c (Bo ((bAnd .u64 y51 9259542123273814144) == 0))) ?_
  refine zP (.bool ((decide ((ByteArray.size s49 : Int) > 8)) && ((bAnd .u64 y51 9259542123273814144) == 0))) ?_
  refine zee [0, 24] (L2 := [(0, .c (Sx s49)), (24, .c (Bo ((decide ((ByteArray.size s49 : Int) > 8)) && ((bAnd .u64 y51 9259542123273814144) == 0))))]) (G2 := []) 20 ?_
  refine zi h (fun h => ?_) fun h => ?_
  refine zx fun _ => ?_
  refine zk 1 ?_
  obtain ⟨s52, he, h⟩ := bindE h
  refine zw (v := .c (Sx s52)) [] (rdW_substr (s := s49) (p := 8) (q := (ByteArray.size s49 : Int)) he (by kernel_rfl)) ?_
  clear he
  refine zk 1 ?_
  refine ze [0] ?_
  refine zdx [[], [0], [1, 0], [2, 1, 0], [3, 2, 1, 0], [4, 3, 2, 1, 0], [3, 2, 1, 0], [6, 3, 2, 1, 0], [7, 5, 3, 6, 2, 1, 0, 4], [5, 8, 3, 4, 2, 1, 0, 7, 6], [9, 3, 5, 8, 4, 2, 1, 0, 7, 6], [10, 3, 9, 5, 8, 4, 2, 1, 0, 7, 6], [3, 11, 2, 1, 0, 10, 9, 5, 8, 4, 7, 6]] fun _ => ?_
  refine zk 4 ?_
  refine zE (.c (Sx s52)) ?_
  obtain ⟨y53, he, h⟩ := bindE h
  refine zk1 [(decide ((ByteArray.size s52 : Int) > 16))] fok112 (fun hg => utf8_word_string_ok n _ y53 (gd_spec he hg)) ?_
  clear he
  refine zE (.c (Sx s52)) ?_
  obtain ⟨s54, he, h⟩ := bindE h
  refine rx_EW (e := [(decide ((ByteArray.size s52 : Int) > 16))]) [(33, .c (Sx s52), some 1)] (v := .c (Sx s54)) (foot := []) (by kernel_rfl) (by kernel_rfl) (by kernel_rfl) (fun hg => rdW_substr (s := s52) (p := 8) (q := (ByteArray.size s52 : Int)) (gd_spec he hg) (by kernel_rfl)) rfl rfl ?_
  clear he
  obtain ⟨y55, he, h⟩ := bindE h
  refine zk1 [(decide ((ByteArray.size s52 : Int) > 16))] fok112 (fun hg => utf8_word_string_ok n _ y55 (gd_spec he hg)) ?_
  clear he
  refine zE (.c (U64 (bOr .u64 y53 y55))) ?_
  refine zE (.c (U64 (bAnd .u64 (bOr .u64 y53 y55) 9259542123273814144))) ?_
  refine zE (.c (Bo ((bAnd .u64 (bOr .u64 y53 y55) 9259542123273814144) == 0))) ?_
  refine zP (.bool ((decide ((ByteArray.size s52 : Int) > 16)) && ((bAnd .u64 (bOr .u64 y53 y55) 9259542123273814144) == 0))) ?_
  refine zee [0, 39] (L2 := [(0, .c (Sx s52)), (39, .c (Bo ((decide ((ByteArray.size s52 : Int) > 16)) && ((bAnd .u64 (bOr .u64 y53 y55) 9259542123273814144) == 0))))]) (G2 := []) 36 ?_
  refine zi h (fun h => ?_) fun h => ?_
  refine zx fun _ => ?_
  refine zk 1 ?_
  obtain ⟨s56, he, h⟩ := bindE h
  refine zw (v := .c (Sx s56)) [] (rdW_substr (s := s52) (p := 16) (q := (ByteArray.size s52 : Int)) he (by kernel_rfl)) ?_
  clear he
  refine zk 1 ?_
  refine ze [0] ?_
  refine aw_block ?_
  refine aw_loopJ (fun n s => ∃ v65, utf8_ValidString_L1 j50 n v65 = some r ∧ s = mk [(0, .c (Sx v65))] [] 0) n _ (zv [] [0] 0) ⟨_, h, rfl⟩ (fun s ⟨v65, h, _⟩ => nomatch h) ?_
  rintro n s ⟨v65, h, rfl⟩
  rw [utf8_ValidString_L1] at h
  refine aw_seq ?_
  refine zdx [[], [0], [1, 0], [2, 1, 0], [3, 2, 1, 0], [4, 3, 2, 1, 0], [3, 2, 1, 0], [6, 3, 2, 1, 0], [7, 5, 3, 6, 2, 1, 0, 4], [5, 8, 3, 4, 2, 1, 0, 7, 6], [3, 2, 1, 0], [10, 3, 2, 1, 0], [11, 8, 3, 10, 2, 1, 0, 7, 5, 6, 4], [3, 2, 1, 0], [13, 3, 2, 1, 0], [14, 12, 3, 13, 2, 1, 0, 11, 8, 10, 7, 5, 6, 4], [12, 15, 3, 11, 8, 10, 2, 1, 0, 7, 5, 6, 4, 14, 13], [9, 16, 3, 5, 8, 4, 2, 1, 0, 7, 6, 12, 15, 11, 10, 14, 13], [17, 3, 9, 16, 5, 8, 4, 2, 1, 0, 7, 6, 12, 15, 11, 10, 14, 13], [18, 3, 17, 9, 16, 5, 8, 4, 2, 1, 0, 7, 6, 12, 15, 11, 10, 14, 13], [3, 19, 2, 1, 0, 18, 17, 9, 16, 5, 8, 4, 7, 6, 12, 15, 11, 10, 14, 13]] fun _ => ?_
  refine zk 4 ?_
  refine zE (.c (Sx v65)) ?_
  obtain ⟨y66, he, h⟩ := bindE h
  refine zk1 [(decide ((ByteArray.size v65 : Int) > 32))] fok112 (fun hg => utf8_word_string_ok n _ y66 (gd_spec he hg)) ?_
  clear he
  refine zE (.c (Sx v65)) ?_
  obtain ⟨s67, he, h⟩ := bindE h
  refine rx_EW (e := [(decide ((ByteArray.size v65 : Int) > 32))]) [(48, .c (Sx v65), some 1)] (v := .c (Sx s67)) (foot := []) (by kernel_rfl) (by kernel_rfl) (by kernel_rfl) (fun hg => rdW_substr (s := v65) (p := 8) (q := (ByteArray.size v65 : Int)) (gd_spec he hg) (by kernel_rfl)) rfl rfl ?_
  clear he
  obtain ⟨y68, he, h⟩ := bindE h
  refine zk1 [(decide ((ByteArray.size v65 : Int) > 32))] fok112 (fun hg => utf8_word_string_ok n _ y68 (gd_spec he hg)) ?_
  clear he
  refine zE (.c (U64 (bOr .u64 y66 y68))) ?_
  refine zE (.c (Sx v65)) ?_
  obtain ⟨s69, he, h⟩ := bindE h
  refine rx_EW (e := [(decide ((ByteArray.size v65 : Int) > 32))]) [(52, .c (Sx v65), some 1)] (v := .c (Sx s69)) (foot := []) (by kernel_rfl) (by kernel_rfl) (by kernel_rfl) (fun hg => rdW_substr (s := v65) (p := 16) (q := (ByteArray.size v65 : Int)) (gd_spec he hg) (by kernel_rfl)) rfl rfl ?_
  clear he
  obtain ⟨y70, he, h⟩ := bindE h
  refine zk1 [(decide ((ByteArray.size v65 : Int) > 32))] fok112 (fun hg => utf8_word_string_ok n _ y70 (gd_spec he hg)) ?_
  clear he
  refine zE (.c (Sx v65)) ?_
  obtain ⟨s71, he, h⟩ := bindE h
  refine rx_EW (e := [(decide ((ByteArray.size v65 : Int) > 32))]) [(55, .c (Sx v65), some 1)] (v := .c (Sx s71)) (foot := []) (by kernel_rfl) (by kernel_rfl) (by kernel_rfl) (fun hg => rdW_substr (s := v65) (p := 24) (q := (ByteArray.size v65 : Int)) (gd_spec he hg) (by kernel_rfl)) rfl rfl ?_
  clear he
  obtain ⟨y72, he, h⟩ := bindE h
  refine zk1 [(decide ((ByteArray.size v65 : Int) > 32))] fok112 (fun hg => utf8_word_string_ok n _ y72 (gd_spec he hg)) ?_
  clear he
  refine zE (.c (U64 (bOr .u64 y70 y72))) ?_
  refine zE (.c (U64 (bOr .u64 (bOr .u64 y66 y68) (bOr .u64 y70 y72)))) ?_
  refine zE (.c (U64 (bAnd .u64 (bOr .u64 (bOr .u64 y66 y68) (bOr .u64 y70 y72)) 9259542123273814144))) ?_
  refine zE (.c (Bo ((bAnd .u64 (bOr .u64 (bOr .u64 y66 y68) (bOr .u64 y70 y72)) 9259542123273814144) == 0))) ?_
  refine zP (.bool ((decide ((ByteArray.size v65 : Int) > 32)) && ((bAnd .u64 (bOr .u64 (bOr .u64 y66 y68) (bOr .u64 y70 y72)) 9259542123273814144) == 0))) ?_
  refine zee [0, 62] (L2 := [(0, .c (Sx v65)), (62, .c (Bo ((decide ((ByteArray.size v65 : Int) > 32)) && ((bAnd .u64 (bOr .u64 (bOr .u64 y66 y68) (bOr .u64 y70 y72)) 9259542123273814144) == 0))))]) (G2 := []) 21 ?_
  refine zi h (fun h => ?_) fun h => ?_
  refine aw_skip ?_
  refine aw_block ?_
  refine aw_out ?_
  refine zy fun _ => ?_
  refine zk 1 ?_
  obtain ⟨s73, he, h⟩ := bindE h
  refine zw (v := .c (Sx s73)) [] (rdW_substr (s := v65) (p := 32) (q := (ByteArray.size v65 : Int)) he (by kernel_rfl)) ?_
  clear he
  refine zk 1 ?_
  refine x_last ?_
  exact via (zv [] [0] 0) (⟨_, h, rfl⟩)
  exact aw_views (zv [] [0] 0) (aw_exit (hj50 _ h))
  exact aw_views (zv [] [0] 0) (aw_skip (hj50 _ h))
  exact aw_views (zv [] [0] 0) (aw_skip (hj50 _ h))
  refine aw_skip ?_
  refine zx fun _ => ?_
  refine zk 1 ?_
  obtain ⟨e76, he, h⟩ := bindE h
  refine rx_idxA (enc := eU8) (xs := tab_unicode_utf8_first) (ix := u48) (e := e76) (c := [U8 e76]) (len := 256) (sz := 1) he (by kernel_rfl) (by kernel_rfl) (by kernel_rfl) (fun x => by kernel_rfl) (by kernel_rfl) rfl rfl ?_
  clear he
  refine zk 2 ?_
  refine ze [0, 4] ?_
  refine za [0, 4, 5] ?_
  refine zx fun _ => ?_
  refine zk 2 ?_
  obtain ⟨e77, he, h⟩ := bindE h
  refine rx_idxA (enc := eGacceptRange) (xs := tab_unicode_utf8_acceptRanges) (ix := (bShr .u8 e76 4)) (e := e77) (c := [U8 e77.lo, U8 e77.hi]) (len := 16) (sz := 2) he (by kernel_rfl) (by kernel_rfl) (by kernel_rfl) (fun x => by kernel_rfl) (by kernel_rfl) rfl rfl ?_
  clear he
  refine zk 3 ?_
  refine zee [0, 5, 6] (L2 := [(0, .c (Sx v47)), (5, .c (I (IntKind.wrap .i64 (bAnd .u8 e76 7)))), (6, .c (.ptr 20 0))]) (G2 := [(20, .blk 183 [U8 e77.lo, U8 e77.hi])]) 22 ?_
  refine za [0, 6, 75] ?_
  refine aw_block ?_
  refine za [0, 6, 75, 76] ?_
  refine zi h (fun h => ?_) fun h => ?_
  refine aw_seq ?_
  refine zdx [[], [0], [1, 0], [2, 1, 0], [3, 2, 1, 0], [4, 3, 2, 1, 0], [3, 2, 1, 0], [6, 3, 2, 1, 0], [5, 7, 3, 4, 2, 1, 0, 6], [3, 8, 2, 1, 0, 5, 7, 4, 6], [9, 3, 8, 2, 1, 0, 5, 7, 4, 6], [10, 9, 3, 8, 2, 1, 0, 5, 7, 4, 6], [11, 10, 9, 3, 8, 2, 1, 0, 5, 7, 4, 6], [10, 9, 3, 8, 2, 1, 0, 5, 7, 4, 6], [13, 10, 9, 3, 8, 2, 1, 0, 5, 7, 4, 6], [12, 14, 10, 11, 9, 3, 8, 2, 1, 0, 5, 7, 4, 6, 13], [10, 15, 9, 3, 8, 2, 1, 0, 5, 7, 4, 6, 12, 14, 11, 13]] fun _ => ?_
  refine zk 4 ?_
  refine zE (.c (Sx v47)) ?_
  obtain ⟨u78, he, h⟩ := bindE h
  refine rx_E (e := [(!(decide ((ByteArray.size v47 : Int) < 2)))]) [(82, .c (Sx v47), some 1)] (v := .c (U8 u78)) (foot := []) (by kernel_rfl) (by kernel_rfl) (by kernel_rfl) (fun hg => rd_sidx (s := v47) (ix := 1) (gd_spec he hg) (by kernel_rfl)) rfl rfl ?_
  clear he
  refine zE (.c (.ptr 20 0)) ?_
  refine zE (.c (U8 e77.lo)) ?_
  refine zE (.c (Bo (decide (u78 < e77.lo)))) ?_
  refine zP (.bool ((decide ((ByteArray.size v47 : Int) < 2)) || (decide (u78 < e77.lo)))) ?_
  refine zk 1 ?_
  refine zE (.c (.ptr 20 1)) ?_
  refine zE (.c (U8 e77.hi)) ?_
  refine zE (.c (Sx v47)) ?_
  obtain ⟨u79, he, h⟩ := bindE h
  refine rx_E (e := [(!((decide ((ByteArray.size v47 : Int) < 2)) || (decide (u78 < e77.lo))))]) [(91, .c (Sx v47), some 1)] (v := .c (U8 u79)) (foot := []) (by kernel_rfl) (by kernel_rfl) (by kernel_rfl) (fun hg => rd_sidx (s := v47) (ix := 1) (gd_spec he hg) (by kernel_rfl)) rfl rfl ?_
  clear he
  refine zE (.c (Bo (decide (e77.hi < u79)))) ?_
  refine zP (.bool (((decide ((ByteArray.size v47 : Int) < 2)) || (decide (u78 < e77.lo))) || (decide (e77.hi < u79)))) ?_
  refine zee [0, 94] (L2 := [(0, .c (Sx v47)), (94, .c (Bo (((decide ((ByteArray.size v47 : Int) < 2)) || (decide (u78 < e77.lo))) || (decide (e77.hi < u79)))))]) (G2 := [(20, .blk 183 [U8 e77.lo, U8 e77.hi])]) 42 ?_
  refine zi h (fun h => ?_) fun h => ?_
  refine za [2] ?_
  cases h
  exact aw_ret zr
  refine aw_skip ?_
  refine aw_out ?_
  refine zy fun _ => ?_
  refine zk 1 ?_
  obtain ⟨s80, he, h⟩ := bindE h
  refine zw (v := .c (Sx s80)) [] (rdW_substr (s := v47) (p := 2) (q := (ByteArray.size v47 : Int)) he (by kernel_rfl)) ?_
  clear he
  refine zk 1 ?_
  refine x_last ?_
  exact via (zv [] [0] 0) (⟨_, h, rfl⟩)
  refine za [0, 6, 75, 97] ?_
  refine zi h (fun h => ?_) fun h => ?_
  refine aw_seq ?_
  refine zdx [[], [0], [1, 0], [2, 1, 0], [3, 2, 1, 0], [4, 3, 2, 1, 0], [3, 2, 1, 0], [6, 3, 2, 1, 0], [5, 7, 3, 4, 2, 1, 0, 6], [3, 8, 2, 1, 0, 5, 7, 4, 6], [9, 3, 8, 2, 1, 0, 5, 7, 4, 6], [10, 9, 3, 8, 2, 1, 0, 5, 7, 4, 6], [11, 10, 9, 3, 8, 2, 1, 0, 5, 7, 4, 6], [10, 9, 3, 8, 2, 1, 0, 5, 7, 4, 6], [13, 10, 9, 3, 8, 2, 1, 0, 5, 7, 4, 6], [12, 14, 10, 11, 9, 3, 8, 2, 1, 0, 5, 7, 4, 6, 13], [10, 15, 9, 3, 8, 2, 1, 0, 5, 7, 4, 6, 12, 14, 11, 13], [16, 10, 15, 9, 3, 8, 2, 1, 0, 5, 7, 4, 6, 12, 14, 11, 13], [17, 16, 10, 15, 9, 3, 8, 2, 1, 0, 5, 7, 4, 6, 12, 14, 11, 13], [18, 17, 16, 10, 15, 9, 3, 8, 2, 1, 0, 5, 7, 4, 6, 12, 14, 11, 13], [19, 17, 18, 16, 10, 15, 9, 3, 8, 2, 1, 0, 5, 7, 4, 6, 12, 14, 11, 13], [17, 20, 16, 10, 15, 9, 3, 8, 2, 1, 0, 5, 7, 4, 6, 12, 14, 11, 13, 19, 18], [21, 17, 20, 16, 10, 15, 9, 3, 8, 2, 1, 0, 5, 7, 4, 6, 12, 14, 11, 13, 19, 18], [22, 21, 17, 20, 16, 10, 15, 9, 3, 8, 2, 1, 0, 5, 7, 4, 6, 12, 14, 11, 13, 19, 18], [23, 22, 21, 17, 20, 16, 10, 15, 9, 3, 8, 2, 1, 0, 5, 7, 4, 6, 12, 14, 11, 13, 19, 18], [24, 22, 23, 21, 17, 20, 16, 10, 15, 9, 3, 8, 2, 1, 0, 5, 7, 4, 6, 12, 14, 11, 13, 19, 18], [22, 25, 21, 17, 20, 16, 10, 15, 9, 3, 8, 2, 1, 0, 5, 7, 4, 6, 12, 14, 11, 13, 19, 18, 24, 23]] fun _ => ?_
  refine zk 4 ?_
  refine zE (.c (Sx v47)) ?_
  obtain ⟨u81, he, h⟩ := bindE h
  refine rx_E (e := [(!(decide ((ByteArray.size v47 : Int) < 3)))]) [(103, .c (Sx v47), some 1)] (v := .c (U8 u81)) (foot := []) (by kernel_rfl) (by kernel_rfl) (by kernel_rfl) (fun hg => rd_sidx (s := v47) (ix := 1) (gd_spec he hg) (by kernel_rfl)) rfl rfl ?_
  clear he
  refine zE (.c (.ptr 20 0)) ?_
  refine zE (.c (U8 e77.lo)) ?_
  refine zE (.c (Bo (decide (u81 < e77.lo)))) ?_
  refine zP (.bool ((decide ((ByteArray.size v47 : Int) < 3)) || (decide (u81 < e77.lo)))) ?_
  refine zk 1 ?_
  refine zE (.c (.ptr 20 1)) ?_
  refine zE (.c (U8 e77.hi)) ?_
  refine zE (.c (Sx v47)) ?_
  obtain ⟨u82, he, h⟩ := bindE h
  refine rx_E (e := [(!((decide ((ByteArray.size v47 : Int) < 3)) || (decide (u81 < e77.lo))))]) [(112, .c (Sx v47), some 1)] (v := .c (U8 u82)) (foot := []) (by kernel_rfl) (by kernel_rfl) (by kernel_rfl) (fun hg => rd_sidx (s := v47) (ix := 1) (gd_spec he hg) (by kernel_rfl)) rfl rfl ?_
  clear he
  refine zE (.c (Bo (decide (e77.hi < u82)))) ?_
  refine zP (.bool (((decide ((ByteArray.size v47 : Int) < 3)) || (decide (u81 < e77.lo))) || (decide (e77.hi < u82)))) ?_
  refine zk 1 ?_
  refine zE (.c (Sx v47)) ?_
  obtain ⟨u83, he, h⟩ := bindE h
  refine rx_E (e := [(!(((decide ((ByteArray.size v47 : Int) < 3)) || (decide (u81 < e77.lo))) || (decide (e77.hi < u82))))]) [(117, .c (Sx v47), some 1)] (v := .c (U8 u83)) (foot := []) (by kernel_rfl) (by kernel_rfl) (by kernel_rfl) (fun hg => rd_sidx (s := v47) (ix := 2) (gd_spec he hg) (by kernel_rfl)) rfl rfl ?_
  clear he
  refine zE (.c (Bo (decide (u83 < 128)))) ?_
  refine zP (.bool ((((decide ((ByteArray.size v47 : Int) < 3)) || (decide (u81 < e77.lo))) || (decide (e77.hi < u82))) || (decide (u83 < 128)))) ?_
  refine zke 1 (L' := [(0, .c (Sx v47)), (6, .c (.ptr 20 0)), (75, .c (I (IntKind.wrap .i64 (bAnd .u8 e76 7)))), (97, .c (Bo ((IntKind.wrap .i64 (bAnd .u8 e76 7)) == 3))), (99, .c (Sx v47)), (100, .c (I (ByteArray.size v47 : Int))), (101, .c (Bo (decide ((ByteArray.size v47 : Int) < 3)))), (102, .c (Bo (decide ((ByteArray.size v47 : Int) < 3)))), (103, .cnd [(!(decide ((ByteArray.size v47 : Int) < 3)))] (.c (Sx v47))), (104, .cnd [(!(decide ((ByteArray.size v47 : Int) < 3)))] (.c (U8 u81))), (105, .cnd [(!(decide ((ByteArray.size v47 : Int) < 3)))] (.c (.ptr 20 0))), (106, .cnd [(!(decide ((ByteArray.size v47 : Int) < 3)))] (.c (U8 e77.lo))), (107, .cnd [(!(decide ((ByteArray.size v47 : Int) < 3)))] (.c (Bo (decide (u81 < e77.lo))))), (108, .c (Bo ((decide ((ByteArray.size v47 : Int) < 3)) || (decide (u81 < e77.lo))))), (109, .c (Bo ((decide ((ByteArray.size v47 : Int) < 3)) || (decide (u81 < e77.lo))))), (110, .cnd [(!((decide ((ByteArray.size v47 : Int) < 3)) || (decide (u81 < e77.lo))))] (.c (.ptr 20 1))), (111, .cnd [(!((decide ((ByteArray.size v47 : Int) < 3)) || (decide (u81 < e77.lo))))] (.c (U8 e77.hi))), (112, .cnd [(!((decide ((ByteArray.size v47 : Int) < 3)) || (decide (u81 < e77.lo))))] (.c (Sx v47))), (113, .cnd [(!((decide ((ByteArray.size v47 : Int) < 3)) || (decide (u81 < e77.lo))))] (.c (U8 u82))), (114, .cnd [(!((decide ((ByteArray.size v47 : Int) < 3)) || (decide (u81 < e77.lo))))] (.c (Bo (decide (e77.hi < u82))))), (115, .c (Bo (((decide ((ByteArray.size v47 : Int) < 3)) || (decide (u81 < e77.lo))) || (decide (e77.hi < u82))))), (116, .c (Bo (((decide ((ByteArray.size v47 : Int) < 3)) || (decide (u81 < e77.lo))) || (decide (e77.hi < u82))))), (117, .cnd [(!(((decide ((ByteArray.size v47 : Int) < 3)) || (decide (u81 < e77.lo))) || (decide (e77.hi < u82))))] (.c (Sx v47))), (118, .cnd [(!(((decide ((ByteArray.size v47 : Int) < 3)) || (decide (u81 < e77.lo))) || (decide (e77.hi < u82))))] (.c (U8 u83))), (119, .cnd [(!(((decide ((ByteArray.size v47 : Int) < 3)) || (decide (u81 < e77.lo))) || (decide (e77.hi < u82))))] (.c (Bo (decide (u83 < 128))))), (120, .c (Bo ((((decide ((ByteArray.size v47 : Int) < 3)) || (decide (u81 < e77.lo))) || (decide (e77.hi < u82))) || (decide (u83 < 128))))), (121, .c (Bo ((((decide ((ByteArray.size v47 : Int) < 3)) || (decide (u81 < e77.lo))) || (decide (e77.hi < u82))) || (decide (u83 < 128)))))]) (G' := [(20, .blk 183 [U8 e77.lo, U8 e77.hi])]) (X' := [(0, ⟨[], []⟩), (1, ⟨[], []⟩), (2, ⟨[], []⟩), (3, ⟨[], []⟩), (4, ⟨[], []⟩), (5, ⟨[], []⟩), (6, ⟨[], []⟩), (7, ⟨[20], []⟩), (8, ⟨[], []⟩), (9, ⟨[], []⟩), (10, ⟨[], []⟩), (11, ⟨[], []⟩), (12, ⟨[20], []⟩), (13, ⟨[], []⟩), (14, ⟨[], []⟩), (15, ⟨[], []⟩), (16, ⟨[], []⟩), (17, ⟨[], []⟩), (18, ⟨[], []⟩), (19, ⟨[], []⟩), (20, ⟨[], []⟩), (21, ⟨[], []⟩), (22, ⟨[], []⟩)]) ?_
  refine zE (.c (Sx v47)) ?_
  obtain ⟨u84, he, h⟩ := bindE h
  refine rx_E (e := [(!((((decide ((ByteArray.size v47 : Int) < 3)) || (decide (u81 < e77.lo))) || (decide (e77.hi < u82))) || (decide (u83 < 128))))]) [(122, .c (Sx v47), some 1)] (v := .c (U8 u84)) (foot := []) (by kernel_rfl) (by kernel_rfl) (by kernel_rfl) (fun hg => rd_sidx (s := v47) (ix := 2) (gd_spec he hg) (by kernel_rfl)) rfl rfl ?_
  clear he
  refine zE (.c (Bo (decide ((191 : Int) < u84)))) ?_
  refine zP (.bool (((((decide ((ByteArray.size v47 : Int) < 3)) || (decide (u81 < e77.lo))) || (decide (e77.hi < u82))) || (decide (u83 < 128))) || (decide ((191 : Int) < u84)))) ?_
  refine ze [0, 125] ?_
  refine zi h (fun h => ?_) fun h => ?_
  refine za [2] ?_
  cases h
  exact aw_ret zr
  refine aw_skip ?_
  refine aw_out ?_
  refine zy fun _ => ?_
  refine zk 1 ?_
  obtain ⟨s85, he, h⟩ := bindE h
  refine zw (v := .c (Sx s85)) [] (rdW_substr (s := v47) (p := 3) (q := (ByteArray.size v47 : Int)) he (by kernel_rfl)) ?_
  clear he
  refine zk 1 ?_
  refine x_last ?_
  exact via (zv [] [0] 0) (⟨_, h, rfl⟩)
  refine za [0, 6, 128] ?_
  refine zi h (fun h => ?_) fun h => ?_
  refine aw_seq ?_
  refine zdx [[], [0], [1, 0], [2, 1, 0], [3, 2, 1, 0], [4, 3, 2, 1, 0], [3, 2, 1, 0], [6, 3, 2, 1, 0], [5, 7, 3, 4, 2, 1, 0, 6], [3, 8, 2, 1, 0, 5, 7, 4, 6], [9, 3, 8, 2, 1, 0, 5, 7, 4, 6], [10, 9, 3, 8, 2, 1, 0, 5, 7, 4, 6], [11, 10, 9, 3, 8, 2, 1, 0, 5, 7, 4, 6], [10, 9, 3, 8, 2, 1, 0, 5, 7, 4, 6], [13, 10, 9, 3, 8, 2, 1, 0, 5, 7, 4, 6], [12, 14, 10, 11, 9, 3, 8, 2, 1, 0, 5, 7, 4, 6, 13], [10, 15, 9, 3, 8, 2, 1, 0, 5, 7, 4, 6, 12, 14, 11, 13], [16, 10, 15, 9, 3, 8, 2, 1, 0, 5, 7, 4, 6, 12, 14, 11, 13], [17, 16, 10, 15, 9, 3, 8, 2, 1, 0, 5, 7, 4, 6, 12, 14, 11, 13], [18, 17, 16, 10, 15, 9, 3, 8, 2, 1, 0, 5, 7, 4, 6, 12, 14, 11, 13], [19, 17, 18, 16, 10, 15, 9, 3, 8, 2, 1, 0, 5, 7, 4, 6, 12, 14, 11, 13], [17, 20, 16, 10, 15, 9, 3, 8, 2, 1, 0, 5, 7, 4, 6, 12, 14, 11, 13, 19, 18], [21, 17, 20, 16, 10, 15, 9, 3, 8, 2, 1, 0, 5, 7, 4, 6, 12, 14, 11, 13, 19, 18], [22, 21, 17, 20, 16, 10, 15, 9, 3, 8, 2, 1, 0, 5, 7, 4, 6, 12, 14, 11, 13, 19, 18], [23, 22, 21, 17, 20, 16, 10, 15, 9, 3, 8, 2, 1, 0, 5, 7, 4, 6, 12, 14, 11, 13, 19, 18], [24, 22, 23, 21, 17, 20, 16, 10, 15, 9, 3, 8, 2, 1, 0, 5, 7, 4, 6, 12, 14, 11, 13, 19, 18], [22, 25, 21, 17, 20, 16, 10, 15, 9, 3, 8, 2, 1, 0, 5, 7, 4, 6, 12, 14, 11, 13, 19, 18, 24, 23], [26, 22, 25, 21, 17, 20, 16, 10, 15, 9, 3, 8, 2, 1, 0, 5, 7, 4, 6, 12, 14, 11, 13, 19, 18, 24, 23], [27, 26, 22, 25, 21, 17, 20, 16, 10, 15, 9, 3, 8, 2, 1, 0, 5, 7, 4, 6, 12, 14, 11, 13, 19, 18, 24, 23], [28, 27, 26, 22, 25, 21, 17, 20, 16, 10, 15, 9, 3, 8, 2, 1, 0, 5, 7, 4, 6, 12, 14, 11, 13, 19, 18, 24, 23], [29, 27, 28, 26, 22, 25, 21, 17, 20, 16, 10, 15, 9, 3, 8, 2, 1, 0, 5, 7, 4, 6, 12, 14, 11, 13, 19, 18, 24, 23], [27, 30, 26, 22, 25, 21, 17, 20, 16, 10, 15, 9, 3, 8, 2, 1, 0, 5, 7, 4, 6, 12, 14, 11, 13, 19, 18, 24, 23, 29, 28], [31, 27, 30, 26, 22, 25, 21, 17, 20, 16, 10, 15, 9, 3, 8, 2, 1, 0, 5, 7, 4, 6, 12, 14, 11, 13, 19, 18, 24, 23, 29, 28], [32, 31, 27, 30, 26, 22, 25, 21, 17, 20, 16, 10, 15, 9, 3, 8, 2, 1, 0, 5, 7, 4, 6, 12, 14, 11, 13, 19, 18, 24, 23, 29, 28], [33, 32, 31, 27, 30, 26, 22, 25, 21, 17, 20, 16, 10, 15, 9, 3, 8, 2, 1, 0, 5, 7, 4, 6, 12, 14, 11, 13, 19, 18, 24, 23, 29, 28], [34, 32, 33, 31, 27, 30, 26, 22, 25, 21, 17, 20, 16, 10, 15, 9, 3, 8, 2, 1, 0, 5, 7, 4, 6, 12, 14, 11, 13, 19, 18, 24, 23, 29, 28], [32, 35, 31, 27, 30, 26, 22, 25, 21, 17, 20, 16, 10, 15, 9, 3, 8, 2, 1, 0, 5, 7, 4, 6, 12, 14, 11, 13, 19, 18, 24, 23, 29, 28, 34, 33]] fun _ => ?_
  refine zk 4 ?_
  refine zE (.c (Sx v47)) ?_
  obtain ⟨u86, he, h⟩ := bindE h
  refine rx_E (e := [(!(decide ((ByteArray.size v47 : Int) < 4)))]) [(134, .c (Sx v47), some 1)] (v := .c (U8 u86)) (foot := []) (by kernel_rfl) (by kernel_rfl) (by kernel_rfl) (fun hg => rd_sidx (s := v47) (ix := 1) (gd_spec he hg) (by kernel_rfl)) rfl rfl ?_
  clear he
  refine zE (.c (.ptr 20 0)) ?_
  refine zE (.c (U8 e77.lo)) ?_
  refine zE (.c (Bo (decide (u86 < e77.lo)))) ?_
  refine zP (.bool ((decide ((ByteArray.size v47 : Int) < 4)) || (decide (u86 < e77.lo)))) ?_
  refine zk 1 ?_
  refine zE (.c (.ptr 20 1)) ?_
  refine zE (.c (U8 e77.hi)) ?_
  refine zE (.c (Sx v47)) ?_
  obtain ⟨u87, he, h⟩ := bindE h
  refine rx_E (e := [(!((decide ((ByteArray.size v47 : Int) < 4)) || (decide (u86 < e77.lo))))]) [(143, .c (Sx v47), some 1)] (v := .c (U8 u87)) (foot := []) (by kernel_rfl) (by kernel_rfl) (by kernel_rfl) (fun hg => rd_sidx (s := v47) (ix := 1) (gd_spec he hg) (by kernel_rfl)) rfl rfl ?_
  clear he
  refine zE (.c (Bo (decide (e77.hi < u87)))) ?_
  refine zP (.bool (((decide ((ByteArray.size v47 : Int) < 4)) || (decide (u86 < e77.lo))) || (decide (e77.hi < u87)))) ?_
  refine zk 1 ?_
  refine zE (.c (Sx v47)) ?_
  obtain ⟨u88, he, h⟩ := bindE h
  refine rx_E (e := [(!(((decide ((ByteArray.size v47 : Int) < 4)) || (decide (u86 < e77.lo))) || (decide (e77.hi < u87))))]) [(148, .c (Sx v47), some 1)] (v := .c (U8 u88)) (foot := []) (by kernel_rfl) (by kernel_rfl) (by kernel_rfl) (fun hg => rd_sidx (s := v47) (ix := 2) (gd_spec he hg) (by kernel_rfl)) rfl rfl ?_
  clear he
  refine zE (.c (Bo (decide (u88 < 128)))) ?_
  refine zP (.bool ((((decide ((ByteArray.size v47 : Int) < 4)) || (decide (u86 < e77.lo))) || (decide (e77.hi < u87))) || (decide (u88 < 128)))) ?_
  refine zke 1 (L' := [(0, .c (Sx v47)), (6, .c (.ptr 20 0)), (128, .c (Bo ((IntKind.wrap .i64 (bAnd .u8 e76 7)) == 4))), (130, .c (Sx v47)), (131, .c (I (ByteArray.size v47 : Int))), (132, .c (Bo (decide ((ByteArray.size v47 : Int) < 4)))), (133, .c (Bo (decide ((ByteArray.size v47 : Int) < 4)))), (134, .cnd [(!(decide ((ByteArray.size v47 : Int) < 4)))] (.c (Sx v47))), (135, .cnd [(!(decide ((ByteArray.size v47 : Int) < 4)))] (.c (U8 u86))), (136, .cnd [(!(decide ((ByteArray.size v47 : Int) < 4)))] (.c (.ptr 20 0))), (137, .cnd [(!(decide ((ByteArray.size v47 : Int) < 4)))] (.c (U8 e77.lo))), (138, .cnd [(!(decide ((ByteArray.size v47 : Int) < 4)))] (.c (Bo (decide (u86 < e77.lo))))), (139, .c (Bo ((decide ((ByteArray.size v47 : Int) < 4)) || (decide (u86 < e77.lo))))), (140, .c (Bo ((decide ((ByteArray.size v47 : Int) < 4)) || (decide (u86 < e77.lo))))), (141, .cnd [(!((decide ((ByteArray.size v47 : Int) < 4)) || (decide (u86 < e77.lo))))] (.c (.ptr 20 1))), (142, .cnd [(!((decide ((ByteArray.size v47 : Int) < 4)) || (decide (u86 < e77.lo))))] (.c (U8 e77.hi))), (143, .cnd [(!((decide ((ByteArray.size v47 : Int) < 4)) || (decide (u86 < e77.lo))))] (.c (Sx v47))), (144, .cnd [(!((decide ((ByteArray.size v47 : Int) < 4)) || (decide (u86 < e77.lo))))] (.c (U8 u87))), (145, .cnd [(!((decide ((ByteArray.size v47 : Int) < 4)) || (decide (u86 < e77.lo))))] (.c (Bo (decide (e77.hi < u87))))), (146, .c (Bo (((decide ((ByteArray.size v47 : Int) < 4)) || (decide (u86 < e77.lo))) || (decide (e77.hi < u87))))), (147, .c (Bo (((decide ((ByteArray.size v47 : Int) < 4)) || (decide (u86 < e77.lo))) || (decide (e77.hi < u87))))), (148, .cnd [(!(((decide ((ByteArray.size v47 : Int) < 4)) || (decide (u86 < e77.lo))) || (decide (e77.hi < u87))))] (.c (Sx v47))), (149, .cnd [(!(((decide ((ByteArray.size v47 : Int) < 4)) || (decide (u86 < e77.lo))) || (decide (e77.hi < u87))))] (.c (U8 u88))), (150, .cnd [(!(((decide ((ByteArray.size v47 : Int) < 4)) || (decide (u86 < e77.lo))) || (decide (e77.hi < u87))))] (.c (Bo (decide (u88 < 128))))), (151, .c (Bo ((((decide ((ByteArray.size v47 : Int) < 4)) || (decide (u86 < e77.lo))) || (decide (e77.hi < u87))) || (decide (u88 < 128))))), (152, .c (Bo ((((decide ((ByteArray.size v47 : Int) < 4)) || (decide (u86 < e77.lo))) || (decide (e77.hi < u87))) || (decide (u88 < 128)))))]) (G' := [(20, .blk 183 [U8 e77.lo, U8 e77.hi])]) (X' := [(0, ⟨[], []⟩), (1, ⟨[], []⟩), (2, ⟨[], []⟩), (3, ⟨[], []⟩), (4, ⟨[], []⟩), (5, ⟨[], []⟩), (6, ⟨[], []⟩), (7, ⟨[20], []⟩), (8, ⟨[], []⟩), (9, ⟨[], []⟩), (10, ⟨[], []⟩), (11, ⟨[], []⟩), (12, ⟨[20], []⟩), (13, ⟨[], []⟩), (14, ⟨[], []⟩), (15, ⟨[], []⟩), (16, ⟨[], []⟩), (17, ⟨[], []⟩), (18, ⟨[], []⟩), (19, ⟨[], []⟩), (20, ⟨[], []⟩), (21, ⟨[], []⟩), (22, ⟨[], []⟩)]) ?_
  refine zE (.c (Sx v47)) ?_
  obtain ⟨u89, he, h⟩ := bindE h
  refine rx_E (e := [(!((((decide ((ByteArray.size v47 : Int) < 4)) || (decide (u86 < e77.lo))) || (decide (e77.hi < u87))) || (decide (u88 < 128))))]) [(153, .c (Sx v47), some 1)] (v := .c (U8 u89)) (foot := []) (by kernel_rfl) (by kernel_rfl) (by kernel_rfl) (fun hg => rd_sidx (s := v47) (ix := 2) (gd_spec he hg) (by kernel_rfl)) rfl rfl ?_
  clear he
  refine zE (.c (Bo (decide ((191 : Int) < u89)))) ?_
  refine zP (.bool (((((decide ((ByteArray.size v47 : Int) < 4)) || (decide (u86 < e77.lo))) || (decide (e77.hi < u87))) || (decide (u88 < 128))) || (decide ((191 : Int) < u89)))) ?_
  refine zk 1 ?_
  refine zE (.c (Sx v47)) ?_
  obtain ⟨u90, he, h⟩ := bindE h
  refine rx_E (e := [(!(((((decide ((ByteArray.size v47 : Int) < 4)) || (decide (u86 < e77.lo))) || (decide (e77.hi < u87))) || (decide (u88 < 128))) || (decide ((191 : Int) < u89))))]) [(158, .c (Sx v47), some 1)] (v := .c (U8 u90)) (foot := []) (by kernel_rfl) (by kernel_rfl) (by kernel_rfl) (fun hg => rd_sidx (s := v47) (ix := 3) (gd_spec he hg) (by kernel_rfl)) rfl rfl ?_
  clear he
  refine zE (.c (Bo (decide (u90 < 128)))) ?_
  refine zP (.bool ((((((decide ((ByteArray.size v47 : Int) < 4)) || (decide (u86 < e77.lo))) || (decide (e77.hi < u87))) || (decide (u88 < 128))) || (decide ((191 : Int) < u89))) || (decide (u90 < 128)))) ?_
  refine zk 1 ?_
  refine zE (.c (Sx v47)) ?_
  obtain ⟨u91, he, h⟩ := bindE h
  refine rx_E (e := [(!((((((decide ((ByteArray.size v47 : Int) < 4)) || (decide (u86 < e77.lo))) || (decide (e77.hi < u87))) || (decide (u88 < 128))) || (decide ((191 : Int) < u89))) || (decide (u90 < 128))))]) [(163, .c (Sx v47), some 1)] (v := .c (U8 u91)) (foot := []) (by kernel_rfl) (by kernel_rfl) (by kernel_rfl) (fun hg => rd_sidx (s := v47) (ix := 3) (gd_spec he hg) (by kernel_rfl)) rfl rfl ?_
  clear he
  refine zE (.c (Bo (decide ((191 : Int) < u91)))) ?_
  refine zP (.bool (((((((decide ((ByteArray.size v47 : Int) < 4)) || (decide (u86 < e77.lo))) || (decide (e77.hi < u87))) || (decide (u88 < 128))) || (decide ((191 : Int) < u89))) || (decide (u90 < 128))) || (decide ((191 : Int) < u91)))) ?_
  refine zee [0, 166] (L2 := [(0, .c (Sx v47)), (166, .c (Bo (((((((decide ((ByteArray.size v47 : Int) < 4)) || (decide (u86 < e77.lo))) || (decide (e77.hi < u87))) || (decide (u88 < 128))) || (decide ((191 : Int) < u89))) || (decide (u90 < 128))) || (decide ((191 : Int) < u91)))))]) (G2 := [(20, .blk 183 [U8 e77.lo, U8 e77.hi])]) 66 ?_
  refine zi h (fun h => ?_) fun h => ?_
  refine za [2] ?_
  cases h
  exact aw_ret zr
  refine aw_skip ?_
  refine aw_out ?_
  refine zy fun _ => ?_
  refine zk 1 ?_
  obtain ⟨s92, he, h⟩ := bindE h
  refine zw (v := .c (Sx s92)) [] (rdW_substr (s := v47) (p := 4) (q := (ByteArray.size v47 : Int)) he (by kernel_rfl)) ?_
  clear he
  refine zk 1 ?_
  refine x_last ?_
  exact via (zv [] [0] 0) (⟨_, h, rfl⟩)
  refine za [2] ?_
  cases h
  exact aw_ret zr
  exact aw_views (zv [] [] 0) (aw_exit (hj1 _ h))
def expr_listOf  (n : Nat) (p0 : GType) : Option GType := some (GType.mk 4 [p0])
theorem expr_listOf_ok  (n : Nat) (p0 : GType) (r : GType) (h : expr_listOf n p0 = some r) : FnD E 111 0 [.agg [I p0.Kind, .lit (List.map eGType p0.Of)]] [] (.agg [I r.Kind, .lit (List.map eGType r.Of)]) [] := by
  refine zfn Tryd.func111 rfl ?_
  unfold expr_listOf at h
  refine za [1, 2] ?_
  refine zx fun _ => ?_
  refine zk 1 ?_
  refine rx_bs (e := 163) (sz := 2) (len := 1) (r := [I p0.Kind, .lit (List.map eGType p0.Of)]) (l' := List.map eGType [p0]) (nm := 3) (by kernel_rfl) (by simp only [List.map_cons, List.map_nil, eGType_eq]; kernel_rfl) (by kernel_rfl) (by kernel_rfl) rfl rfl rfl ?_
  refine zk 2 ?_
  refine ze [2] ?_
  cases h
  exact aw_ret zr
def expr_join_body (self_expr_join : GType → GType → Option (GType × Bool)) (n : Nat) (p0 : GType) (p1 : GType) : Option (GType × Bool) := (if (p0.Kind != p1.Kind) = true then some ((GType.mk 0 ([] : List GType)), false) else (if ((List.length p0.Of : Int) == 0) = true then some (p1, true) else (if ((List.length p1.Of : Int) == 0) = true then some (p0, true) else (idx p0.Of 0).bind fun (e1 : GType) => (idx p1.Of 0).bind fun (e2 : GType) => (self_expr_join e1 e2).bind fun (y3 : (GType × Bool)) => (if (!y3.2) = true then some ((GType.mk 0 ([] : List GType)), false) else (expr_listOf n y3.1).bind fun (y4 : GType) => some (y4, true)))))
theorem expr_join_body_ok (self_expr_join : GType → GType → Option (GType × Bool)) (ih_expr_join : ∀ (p0 : GType) (p1 : GType) (r : (GType × Bool)), self_expr_join p0 p1 = some r → FnD E 113 0 [.agg [I p0.Kind, .lit (List.map eGType p0.Of)], .agg [I p1.Kind, .lit (List.map eGType p1.Of)]] [] (.tup [.agg [I r.1.Kind, .lit (List.map eGType r.1.Of)], .c (Bo r.2)]) []) (n : Nat) (p0 : GType) (p1 : GType) (r : (GType × Bool)) (h : expr_join_body self_expr_join n p0 p1 = some r) : FnD E 113 0 [.agg [I p0.Kind, .lit (List.map eGType p0.Of)], .agg [I p1.Kind, .lit (List.map eGType p1.Of)]] [] (.tup [.agg [I r.1.Kind, .lit (List.map eGType r.1.Of)], .c (Bo r.2)]) [] := by
  refine zfn Tryd.func113 rfl ?_
  unfold expr_join_body at h
  refine za [2, 3, 4] ?_
  refine aw_seq ?_
  refine aw_block ?_
  refine za [2, 3, 4, 8] ?_
  refine zi h (fun h => ?_) fun h => ?_
  refine za [4, 5] ?_
  cases h
  exact aw_ret zr
  refine zx fun _ => ?_
  refine zk 2 ?_
  refine zl eGType p0.Of ?_
  refine zk 2 ?_
  refine ze [2, 3, 4, 15] ?_
  refine zi h (fun h => ?_) fun h => ?_
  refine za [4, 5] ?_
  cases h
  exact aw_ret zr
  refine zx fun _ => ?_
  refine zk 2 ?_
  refine zl eGType p1.Of ?_
  refine zk 2 ?_
  refine ze [2, 3, 4, 21] ?_
  refine zi h (fun h => ?_) fun h => ?_
  refine za [4, 5] ?_
  cases h
  exact aw_ret zr
  refine aw_skip ?_
  refine zdx [[], [0], [1, 0], [2, 1, 0], [], [4], [5, 4], [6, 5, 4], [3, 7, 2, 1, 0, 6, 5, 4], [8, 3, 7, 2, 1, 0, 6, 5, 4], [9, 8, 3, 7, 2, 1, 0, 6, 5, 4], [9, 8, 3, 7, 2, 1, 0, 6, 5, 4], [], [12, 10, 8, 0, 1, 2, 3, 4, 5, 6, 7, 9], [11, 13, 0, 1, 2, 3, 4, 5, 6, 7, 8, 9, 10, 12]] fun _ => ?_
  refine zk 2 ?_
  obtain ⟨e1, he, h⟩ := bindE h
  refine rx_rd (v := .c (.imm [I e1.Kind, .lit (List.map eGType e1.Of)])) (foot := []) (rd_idx (enc := eGType) (sz := 2) (l := p0.Of) (ix := 0) he (by kernel_rfl) (eGType_eq e1) (by kernel_rfl)) (by kernel_rfl) rfl rfl ?_
  clear he
  refine zk 3 ?_
  obtain ⟨e2, he, h⟩ := bindE h
  refine rx_rd (v := .c (.imm [I e2.Kind, .lit (List.map eGType e2.Of)])) (foot := []) (rd_idx (enc := eGType) (sz := 2) (l := p1.Of) (ix := 0) he (by kernel_rfl) (eGType_eq e2) (by kernel_rfl)) (by kernel_rfl) rfl rfl ?_
  clear he
  refine zk 1 ?_
  obtain ⟨y3, he, h⟩ := bindE h
  refine zc fok113 (ih_expr_join _ _ y3 he) ?_
  clear he
  refine zk 6 ?_
  refine zee [4, 6, 7] (L2 := [(4, .c (.ptr 2 0)), (6, .c (.ptr 32 0)), (7, .c (Bo y3.2))]) (G2 := [(0, .blk 163 [I p0.Kind, .lit (List.map eGType p0.Of)]), (1, .blk 163 [I p1.Kind, .lit (List.map eGType p1.Of)]), (2, .blk 163 [I 0, NilS]), (32, .blk 163 [I y3.1.Kind, .lit (List.map eGType y3.1.Of)])]) 35 ?_
  refine aw_seq ?_
  refine za [4, 6, 40] ?_
  refine zi h (fun h => ?_) fun h => ?_
  refine za [4, 5] ?_
  cases h
  exact aw_ret zr
  refine aw_skip ?_
  refine zx fun _ => ?_
  refine zk 1 ?_
  obtain ⟨y4, he, h⟩ := bindE h
  refine zc fok111 (expr_listOf_ok n _ y4 he) ?_
  clear he
  refine zk 2 ?_
  refine ze [4, 5] ?_
  cases h
  exact aw_ret zr
def expr_join : Nat → GType → GType → Option (GType × Bool)
  | 0, _, _ => none
  | n + 1, p0, p1 => expr_join_body (fun a0 a1 => expr_join n a0 a1) n p0 p1
theorem expr_join_ok (n : Nat) : (∀ (p0 : GType) (p1 : GType) (r : (GType × Bool)), expr_join n p0 p1 = some r → FnD E 113 0 [.agg [I p0.Kind, .lit (List.map eGType p0.Of)], .agg [I p1.Kind, .lit (List.map eGType p1.Of)]] [] (.tup [.agg [I r.1.Kind, .lit (List.map eGType r.1.Of)], .c (Bo r.2)]) []) := by
  induction n with
  | zero => intro p0 p1 r h; rw [expr_join] at h; cases h
  | succ n ih => intro p0 p1 r h; rw [expr_join] at h; exact expr_join_body_ok _ ih n _ _ r h
def expr_common_L0 (l3 : List GType) (j2 : Int → List GType → Option (GType × Bool)) : Nat → Int → Int → List GType → Option (GType × Bool)
  | 0, _, _, _ => none
  | n + 1, v6, v7, v8 => (if (decide (v6 < (List.length l3 : Int))) = true then (idx l3 v6).bind fun (e9 : GType) => (expr_join n (GType.mk v7 v8) e9).bind fun (y10 : (GType × Bool)) => (if (!y10.2) = true then some ((GType.mk 0 ([] : List GType)), false) else expr_common_L0 l3 j2 n (IntKind.wrap .i64 (v6 + 1)) y10.1.Kind y10.1.Of) else j2 v7 v8)
def expr_common  (n : Nat) (p0 : (List GType)) : Option (GType × Bool) := (if ((List.length p0 : Int) == 0) = true then some ((GType.mk 4 ([] : List GType)), true) else (idx p0 0).bind fun (e1 : GType) => (withJ (fun (v14 : Int) (v15 : List GType) => (expr_listOf n (GType.mk v14 v15)).bind fun (y16 : GType) => some (y16, true)) (fun (j2 : Int → List GType → Option (GType × Bool)) => (subl p0 1 (List.length p0 : Int)).bind fun (l3 : List GType) => expr_common_L0 l3 j2 n 0 e1.Kind e1.Of)))
theorem expr_common_ok  (n : Nat) (p0 : (List GType)) (r : (GType × Bool)) (h : expr_common n p0 = some r) : FnD E 110 0 [.c (.lit (List.map eGType p0))] [] (.tup [.agg [I r.1.Kind, .lit (List.map eGType r.1.Of)], .c (Bo r.2)]) [] := by
  refine zfn Tryd.func110 rfl ?_
  unfold expr_common at h
  refine za [0, 2] ?_
  refine aw_seq ?_
  refine zx fun _ => ?_
  refine zk 1 ?_
  refine zl eGType p0 ?_
  refine zk 1 ?_
  refine ze [0, 2, 10] ?_
  refine zi h (fun h => ?_) fun h => ?_
  refine za [2, 3] ?_
  cases h
  exact aw_ret zr
  refine aw_skip ?_
  refine zx fun _ => ?_
  refine zk 1 ?_
  obtain ⟨e1, he, h⟩ := bindE h
  refine rx_rd (v := .c (.imm [I e1.Kind, .lit (List.map eGType e1.Of)])) (foot := []) (rd_idx (enc := eGType) (sz := 2) (l := p0) (ix := 0) he (by kernel_rfl) (eGType_eq e1) (by kernel_rfl)) (by kernel_rfl) rfl rfl ?_
  clear he
  refine zk 3 ?_
  refine ze [0, 2, 4] ?_
  refine aw_join h (fun A j => ∀ v14 v15, j v14 v15 = some r → A (mk [(2, .c (.ptr 0 0)), (4, .c (.ptr 1 0))] [(0, .blk 163 [I 0, NilS]), (1, .blk 163 [I v14, .lit (List.map eGType v15)])] 2)) (fun v14 v15 h => ?_) (fun j2 Aj2 hj2 h => ?_)
  refine zx fun _ => ?_
  refine zk 1 ?_
  obtain ⟨y16, he, h⟩ := bindE h
  refine zc fok111 (expr_listOf_ok n _ y16 he) ?_
  clear he
  refine zk 2 ?_
  refine ze [2, 3] ?_
  cases h
  exact aw_ret zr
  refine zx fun _ => ?_
  refine zk 1 ?_
  obtain ⟨l3, he, h⟩ := bindE h
  refine zw (v := .c (.lit (List.map eGType l3))) [] (rdW_slice (enc := eGType) (l := p0) (p := 1) (q := (List.length p0 : Int)) (sz := 2) he (by kernel_rfl) (fun x => by rw [eGType_eq]; rfl)) ?_
  clear he
  refine zl eGType l3 ?_
  refine zk 1 ?_
  refine zee [2, 4, 16, 17, 18] (L2 := [(2, .c (.ptr 0 0)), (4, .c (.ptr 8 0)), (16, .c (.lit (List.map eGType l3))), (17, .c (I (List.length l3 : Int))), (18, .c (I 0))]) (G2 := [(0, .blk 163 [I 0, NilS]), (8, .blk 163 [I e1.Kind, .lit (List.map eGType e1.Of)])]) 14 ?_
  refine aw_block ?_
  refine aw_loopJ (fun n s => ∃ v6 v7 v8, expr_common_L0 l3 j2 n v6 v7 v8 = some r ∧ s = mk [(2, .c (.ptr 0 0)), (4, .c (.ptr 1 0)), (16, .c (.lit (List.map eGType l3))), (17, .c (I (List.length l3 : Int))), (18, .c (I v6))] [(0, .blk 163 [I 0, NilS]), (1, .blk 163 [I v7, .lit (List.map eGType v8)])] 2) n _ (zv [(0, 0), (8, 1)] [2, 4, 16, 17, 18] 2) ⟨_, _, _, h, rfl⟩ (fun s ⟨v6, v7, v8, h, _⟩ => nomatch h) ?_
  rintro n s ⟨v6, v7, v8, h, rfl⟩
  rw [expr_common_L0] at h
  refine za [2, 4, 16, 17, 18, 19] ?_
  refine aw_seq ?_
  refine zi h (fun h => ?_) fun h => ?_
  refine aw_skip ?_
  refine aw_seq ?_
  refine aw_block ?_
  refine zx fun _ => ?_
  obtain ⟨e9, he, h⟩ := bindE h
  refine rx_rd (v := .c (.imm [I e9.Kind, .lit (List.map eGType e9.Of)])) (foot := []) (rd_idx (enc := eGType) (sz := 2) (l := l3) (ix := v6) he (by kernel_rfl) (eGType_eq e9) (by kernel_rfl)) (by kernel_rfl) rfl rfl ?_
  clear he
  refine zk 3 ?_
  refine ze [2, 4, 6, 16, 17, 18] ?_
  refine za [2, 4, 6, 16, 17, 18] ?_
  refine zx fun _ => ?_
  refine zk 2 ?_
  obtain ⟨y10, he, h⟩ := bindE h
  refine zc fok113 (expr_join_ok n _ _ y10 he) ?_
  clear he
  refine zk 5 ?_
  refine ze [2, 4, 7, 16, 17, 18] ?_
  refine za [2, 4, 16, 17, 18, 29] ?_
  refine zi h (fun h => ?_) fun h => ?_
  refine za [2, 3] ?_
  cases h
  exact aw_ret zr
  refine aw_skip ?_
  refine aw_out ?_
  refine zb ?_
  exact via (zv [(0, 0), (1, 1)] [2, 4, 16, 17, 18] 2) (⟨_, _, _, h, rfl⟩)
  exact aw_views (zv [(0, 0), (1, 1)] [2, 4] 2) (aw_exit (hj2 _ _ h))
end Go.Proofs.YtojkihhnioeggaaDoor.S
