/- Functions, and that the program's are they. Printed by ext.py. -/
import Derived.Test.YtojkihhnioeggaaDoorGI8
set_option linter.unusedVariables false
set_option linter.unusedSimpArgs false
set_option maxRecDepth 100000
set_option maxHeartbeats 4000000
namespace Go.Proofs.YtojkihhnioeggaaDoor.S
open Go Go.Bm
def Src_attrs_L0 (j37 : List Int → Int → List GValue → Option ((List GAttr) × GSrc)) (p1 : Int) (v32 : List GAttr) : Nat → Int → List Int → Int → List GValue → Option ((List GAttr) × GSrc)
  | 0, _, _, _, _ => none
  | n + 1, v46, v47, v48, v49 => (if (decide (v46 > 0)) = true then (Src_N n (GSrc.mk v47 v48) 6).bind fun (y50 : (Int × GSrc)) => (idx [0, 0, 30, 50, (-1 : Int), (-2 : Int)] y50.1).bind fun (e51 : Int) => (base_number n e51).bind fun (y52 : GValue) => (apd 56 v49 [y52]).bind fun (l53 : List GValue) => Src_attrs_L0 j37 p1 v32 n (IntKind.wrap .i64 (v46 - 1)) y50.2.L y50.2.At l53 else j37 v47 v48 v49)
def Src_attrs  (n : Nat) (p0 : GSrc) (p1 : Int) : Option ((List GAttr) × GSrc) := (withJ (fun (v7 : List GAttr) (v8 : List Int) (v9 : Int) => (withJ (fun (v16 : List GAttr) (v17 : List Int) (v18 : Int) => (withJ (fun (v24 : List GAttr) (v25 : List Int) (v26 : Int) => (withJ (fun (v32 : List GAttr) (v33 : List Int) (v34 : Int) => (withJ (fun (v65 : List GAttr) (v66 : List Int) (v67 : Int) => (withJ (fun (v73 : List GAttr) (v74 : List Int) (v75 : Int) => (withJ (fun (v81 : List GAttr) (v82 : List Int) (v83 : Int) => (withJ (fun (v89 : List GAttr) (v90 : List Int) (v91 : Int) => (withJ (fun (v98 : List GAttr) (v99 : List Int) (v100 : Int) => (withJ (fun (v105 : List GAttr) (v106 : List Int) (v107 : Int) => (withJ (fun (v113 : List GAttr) (v114 : List Int) (v115 : Int) => (withJ (fun (v121 : List GAttr) (v122 : List Int) (v123 : Int) => (withJ (fun (v130 : List GAttr) (v131 : List Int) (v132 : Int) => (withJ (fun (v138 : List GAttr) (v139 : List Int) (v140 : Int) => (withJ (fun (v146 : List GAttr) (v147 : List Int) (v148 : Int) => some (v146, (GSrc.mk v147 v148))) (fun (j141 : List GAttr → List Int → Int → Option ((List GAttr) × GSrc)) => (ifO [(!((p1 == 5) || (p1 == 13)))] (Src_N n (GSrc.mk v139 v140) 9) ((default : Int), (GSrc.mk v139 v140))).bind fun (y142 : (Int × GSrc)) => (if (((p1 == 5) || (p1 == 13)) || (y142.1 == 0)) = true then (Src_N n y142.2 90).bind fun (y143 : (Int × GSrc)) => (base_number n y143.1).bind fun (y144 : GValue) => (apd 72 v138 [(GAttr.mk (⟨#[119, 105, 100, 116, 104]⟩ : ByteArray) y144)]).bind fun (l145 : List GAttr) => j141 l145 y143.2.L y143.2.At else j141 v138 y142.2.L y142.2.At)))) (fun (j133 : List GAttr → List Int → Int → Option ((List GAttr) × GSrc)) => (Src_N n (GSrc.mk v131 v132) 8).bind fun (y134 : (Int × GSrc)) => (if (y134.1 == 0) = true then (Src_N n y134.2 5).bind fun (y135 : (Int × GSrc)) => (base_number n y135.1).bind fun (y136 : GValue) => (apd 72 v130 [(GAttr.mk (⟨#[116, 117, 114, 110]⟩ : ByteArray) y136)]).bind fun (l137 : List GAttr) => j133 l137 y135.2.L y135.2.At else j133 v130 y134.2.L y134.2.At)))) (fun (j124 : List GAttr → List Int → Int → Option ((List GAttr) × GSrc)) => (Src_N n (GSrc.mk v122 v123) 2).bind fun (y125 : (Int × GSrc)) => (if (y125.1 == 0) = true then (Src_Text n y125.2 8).bind fun (y126 : ((List Int) × GSrc)) => (Src_valid n y126.2 y126.1).bind fun (y127 : ((List Int) × GSrc)) => (base_text n (runesBytes y127.1)).bind fun (y128 : GValue) => (apd 72 v121 [(GAttr.mk (⟨#[116, 101, 120, 116]⟩ : ByteArray) y128)]).bind fun (l129 : List GAttr) => j124 l129 y127.2.L y127.2.At else j124 v121 y125.2.L y125.2.At)))) (fun (j116 : List GAttr → List Int → Int → Option ((List GAttr) × GSrc)) => (Src_N n (GSrc.mk v114 v115) 6).bind fun (y117 : (Int × GSrc)) => (if (y117.1 == 0) = true then (Src_N n y117.2 4).bind fun (y118 : (Int × GSrc)) => (base_number n y118.1).bind fun (y119 : GValue) => (apd 72 v113 [(GAttr.mk (⟨#[115, 112, 97, 110]⟩ : ByteArray) y119)]).bind fun (l120 : List GAttr) => j116 l120 y118.2.L y118.2.At else j116 v113 y117.2.L y117.2.At)))) (fun (j108 : List GAttr → List Int → Int → Option ((List GAttr) × GSrc)) => (Src_N n (GSrc.mk v106 v107) 8).bind fun (y109 : (Int × GSrc)) => (if (y109.1 == 0) = true then (Src_N n y109.2 4).bind fun (y110 : (Int × GSrc)) => (base_number n y110.1).bind fun (y111 : GValue) => (apd 72 v105 [(GAttr.mk (⟨#[115, 99, 97, 108, 101]⟩ : ByteArray) y111)]).bind fun (l112 : List GAttr) => j108 l112 y110.2.L y110.2.At else j108 v105 y109.2.L y109.2.At)))) (fun (j101 : List GAttr → List Int → Int → Option ((List GAttr) × GSrc)) => (Src_N n (GSrc.mk v99 v100) 6).bind fun (y102 : (Int × GSrc)) => (if (y102.1 == 0) = true then (base_flag n 1).bind fun (y103 : GValue) => (apd 72 v98 [(GAttr.mk (⟨#[112, 105, 110, 110, 101, 100]⟩ : ByteArray) y103)]).bind fun (l104 : List GAttr) => j101 l104 y102.2.L y102.2.At else j101 v98 y102.2.L y102.2.At)))) (fun (j92 : List GAttr → List Int → Int → Option ((List GAttr) × GSrc)) => (Src_N n (GSrc.mk v90 v91) 6).bind fun (y93 : (Int × GSrc)) => (if (y93.1 == 0) = true then (Src_N n y93.2 6).bind fun (y94 : (Int × GSrc)) => (catO (⟨#[107]⟩ : ByteArray) (bytesText [(IntKind.wrap .u8 (IntKind.wrap .i64 (97 + y94.1)))])).bind fun (s95 : ByteArray) => (base_text n s95).bind fun (y96 : GValue) => (apd 72 v89 [(GAttr.mk (⟨#[108, 101, 102, 116]⟩ : ByteArray) y96)]).bind fun (l97 : List GAttr) => j92 l97 y94.2.L y94.2.At else j92 v89 y93.2.L y93.2.At)))) (fun (j84 : List GAttr → List Int → Int → Option ((List GAttr) × GSrc)) => (Src_N n (GSrc.mk v82 v83) 12).bind fun (y85 : (Int × GSrc)) => (if (y85.1 == 0) = true then (Src_N n y85.2 2).bind fun (y86 : (Int × GSrc)) => (base_flag n y86.1).bind fun (y87 : GValue) => (apd 72 v81 [(GAttr.mk (⟨#[104, 105, 100, 100, 101, 110]⟩ : ByteArray) y87)]).bind fun (l88 : List GAttr) => j84 l88 y86.2.L y86.2.At else j84 v81 y85.2.L y85.2.At)))) (fun (j76 : List GAttr → List Int → Int → Option ((List GAttr) × GSrc)) => (ifO [(!((p1 == 5) || (p1 == 13)))] (Src_N n (GSrc.mk v74 v75) 9) ((default : Int), (GSrc.mk v74 v75))).bind fun (y77 : (Int × GSrc)) => (if (((p1 == 5) || (p1 == 13)) || (y77.1 == 0)) = true then (Src_N n y77.2 60).bind fun (y78 : (Int × GSrc)) => (base_number n y78.1).bind fun (y79 : GValue) => (apd 72 v73 [(GAttr.mk (⟨#[104, 101, 105, 103, 104, 116]⟩ : ByteArray) y79)]).bind fun (l80 : List GAttr) => j76 l80 y78.2.L y78.2.At else j76 v73 y77.2.L y77.2.At)))) (fun (j68 : List GAttr → List Int → Int → Option ((List GAttr) × GSrc)) => (Src_N n (GSrc.mk v66 v67) 9).bind fun (y69 : (Int × GSrc)) => (if (y69.1 == 0) = true then (Src_N n y69.2 2).bind fun (y70 : (Int × GSrc)) => (base_flag n y70.1).bind fun (y71 : GValue) => (apd 72 v65 [(GAttr.mk (⟨#[100, 105, 115, 97, 98, 108, 101, 100]⟩ : ByteArray) y71)]).bind fun (l72 : List GAttr) => j68 l72 y70.2.L y70.2.At else j68 v65 y69.2.L y69.2.At)))) (fun (j35 : List GAttr → List Int → Int → Option ((List GAttr) × GSrc)) => (Src_N n (GSrc.mk v33 v34) 4).bind fun (y36 : (Int × GSrc)) => (if (y36.1 == 0) = true then (withJ (fun (v61 : List Int) (v62 : Int) (v63 : List GValue) => (apd 72 v32 [(GAttr.mk (⟨#[99, 111, 108, 117, 109, 110, 115]⟩ : ByteArray) (GValue.mk 4 0 (⟨#[]⟩ : ByteArray) v63))]).bind fun (l64 : List GAttr) => j35 l64 v61 v62) (fun (j37 : List Int → Int → List GValue → Option ((List GAttr) × GSrc)) => (Src_Range n y36.2 1 3).bind fun (y38 : (Int × GSrc)) => Src_attrs_L0 j37 p1 v32 n y38.1 y38.2.L y38.2.At ([] : List GValue))) else j35 v32 y36.2.L y36.2.At)))) (fun (j27 : List GAttr → List Int → Int → Option ((List GAttr) × GSrc)) => (Src_N n (GSrc.mk v25 v26) 3).bind fun (y28 : (Int × GSrc)) => (if (y28.1 == 0) = true then (Src_Name n y28.2).bind fun (y29 : (ByteArray × GSrc)) => (base_text n y29.1).bind fun (y30 : GValue) => (apd 72 v24 [(GAttr.mk (⟨#[99, 108, 97, 115, 115]⟩ : ByteArray) y30)]).bind fun (l31 : List GAttr) => j27 l31 y29.2.L y29.2.At else j27 v24 y28.2.L y28.2.At)))) (fun (j19 : List GAttr → List Int → Int → Option ((List GAttr) × GSrc)) => (Src_N n (GSrc.mk v17 v18) 9).bind fun (y20 : (Int × GSrc)) => (if (y20.1 == 0) = true then (Src_N n y20.2 2).bind fun (y21 : (Int × GSrc)) => (base_flag n y21.1).bind fun (y22 : GValue) => (apd 72 v16 [(GAttr.mk (⟨#[99, 104, 101, 99, 107, 101, 100]⟩ : ByteArray) y22)]).bind fun (l23 : List GAttr) => j19 l23 y21.2.L y21.2.At else j19 v16 y20.2.L y20.2.At)))) (fun (j10 : List GAttr → List Int → Int → Option ((List GAttr) × GSrc)) => (Src_N n (GSrc.mk v8 v9) 9).bind fun (y11 : (Int × GSrc)) => (if (y11.1 == 0) = true then (Src_N n y11.2 6).bind fun (y12 : (Int × GSrc)) => (catO (⟨#[107]⟩ : ByteArray) (bytesText [(IntKind.wrap .u8 (IntKind.wrap .i64 (97 + y12.1)))])).bind fun (s13 : ByteArray) => (base_text n s13).bind fun (y14 : GValue) => (apd 72 v7 [(GAttr.mk (⟨#[97, 108, 105, 103, 110, 108, 101, 102, 116]⟩ : ByteArray) y14)]).bind fun (l15 : List GAttr) => j10 l15 y12.2.L y12.2.At else j10 v7 y11.2.L y11.2.At)))) (fun (j1 : List GAttr → List Int → Int → Option ((List GAttr) × GSrc)) => (Src_N n p0 6).bind fun (y2 : (Int × GSrc)) => (if (y2.1 == 0) = true then (Src_N n y2.2 6).bind fun (y3 : (Int × GSrc)) => (catO (⟨#[107]⟩ : ByteArray) (bytesText [(IntKind.wrap .u8 (IntKind.wrap .i64 (97 + y3.1)))])).bind fun (s4 : ByteArray) => (base_text n s4).bind fun (y5 : GValue) => (apd 72 ([] : List GAttr) [(GAttr.mk (⟨#[97, 98, 111, 118, 101]⟩ : ByteArray) y5)]).bind fun (l6 : List GAttr) => j1 l6 y3.2.L y3.2.At else j1 ([] : List GAttr) y2.2.L y2.2.At)))
theorem Src_attrs_ok  (n : Nat) (p0 : GSrc) (p1 : Int) (r : ((List GAttr) × GSrc)) (h : Src_attrs n p0 p1 = some r) : FnD E 62 1 [.c (.ptr 0 0), .c (I p1)] [(0, .blk 90 [.lit (List.map eI64 p0.L), I p0.At])] (.c (.lit (List.map eGAttr r.1))) [(0, .blk 90 [.lit (List.map eI64 r.2.L), I r.2.At])] := by
  refine zfn Tryd.func62 rfl ?_
  unfold Src_attrs at h
  refine za [0, 1] ?_
  refine za [0, 1, 5] ?_
  refine aw_join h (fun A j => ∀ v7 v8 v9, j v7 v8 v9 = some r → A (mk [(0, .c (.ptr 0 0)), (1, .c (I p1)), (5, .c (.app 1 (List.map eGAttr v7)))] [(0, .blk 90 [.lit (List.map eI64 v8), I v9]), (1, .tok 72 5 (List.length v7))] 2)) (fun v7 v8 v9 h => ?_) (fun j1 Aj1 hj1 h => ?_)
  refine aw_join h (fun A j => ∀ v16 v17 v18, j v16 v17 v18 = some r → A (mk [(0, .c (.ptr 0 0)), (1, .c (I p1)), (5, .c (.app 1 (List.map eGAttr v16)))] [(0, .blk 90 [.lit (List.map eI64 v17), I v18]), (1, .tok 72 5 (List.length v16))] 2)) (fun v16 v17 v18 h => ?_) (fun j10 Aj10 hj10 h => ?_)
  refine aw_join h (fun A j => ∀ v24 v25 v26, j v24 v25 v26 = some r → A (mk [(0, .c (.ptr 0 0)), (1, .c (I p1)), (5, .c (.app 1 (List.map eGAttr v24)))] [(0, .blk 90 [.lit (List.map eI64 v25), I v26]), (1, .tok 72 5 (List.length v24))] 2)) (fun v24 v25 v26 h => ?_) (fun j19 Aj19 hj19 h => ?_)
  refine aw_join h (fun A j => ∀ v32 v33 v34, j v32 v33 v34 = some r → A (mk [(0, .c (.ptr 0 0)), (1, .c (I p1)), (5, .c (.app 1 (List.map eGAttr v32)))] [(0, .blk 90 [.lit (List.map eI64 v33), I v34]), (1, .tok 72 5 (List.length v32))] 2)) (fun v32 v33 v34 h => ?_) (fun j27 Aj27 hj27 h => ?_)
  refine aw_join h (fun A j => ∀ v65 v66 v67, j v65 v66 v67 = some r → A (mk [(0, .c (.ptr 0 0)), (1, .c (I p1)), (5, .c (.app 1 (List.map eGAttr v65)))] [(0, .blk 90 [.lit (List.map eI64 v66), I v67]), (1, .tok 72 5 (List.length v65))] 2)) (fun v65 v66 v67 h => ?_) (fun j35 Aj35 hj35 h => ?_)
  refine aw_join h (fun A j => ∀ v73 v74 v75, j v73 v74 v75 = some r → A (mk [(0, .c (.ptr 0 0)), (1, .c (I p1)), (5, .c (.app 1 (List.map eGAttr v73)))] [(0, .blk 90 [.lit (List.map eI64 v74), I v75]), (1, .tok 72 5 (List.length v73))] 2)) (fun v73 v74 v75 h => ?_) (fun j68 Aj68 hj68 h => ?_)
  refine aw_join h (fun A j => ∀ v81 v82 v83, j v81 v82 v83 = some r → A (mk [(0, .c (.ptr 0 0)), (1, .c (I p1)), (5, .c (.app 1 (List.map eGAttr v81)))] [(0, .blk 90 [.lit (List.map eI64 v82), I v83]), (1, .tok 72 5 (List.length v81))] 2)) (fun v81 v82 v83 h => ?_) (fun j76 Aj76 hj76 h => ?_)
  refine aw_join h (fun A j => ∀ v89 v90 v91, j v89 v90 v91 = some r → A (mk [(0, .c (.ptr 0 0)), (1, .c (I p1)), (5, .c (.app 1 (List.map eGAttr v89)))] [(0, .blk 90 [.lit (List.map eI64 v90), I v91]), (1, .tok 72 5 (List.length v89))] 2)) (fun v89 v90 v91 h => ?_) (fun j84 Aj84 hj84 h => ?_)
  refine aw_join h (fun A j => ∀ v98 v99 v100, j v98 v99 v100 = some r → A (mk [(0, .c (.ptr 0 0)), (1, .c (I p1)), (5, .c (.app 1 (List.map eGAttr v98)))] [(0, .blk 90 [.lit (List.map eI64 v99), I v100]), (1, .tok 72 5 (List.length v98))] 2)) (fun v98 v99 v100 h => ?_) (fun j92 Aj92 hj92 h => ?_)
  refine aw_join h (fun A j => ∀ v105 v106 v107, j v105 v106 v107 = some r → A (mk [(0, .c (.ptr 0 0)), (1, .c (I p1)), (5, .c (.app 1 (List.map eGAttr v105)))] [(0, .blk 90 [.lit (List.map eI64 v106), I v107]), (1, .tok 72 5 (List.length v105))] 2)) (fun v105 v106 v107 h => ?_) (fun j101 Aj101 hj101 h => ?_)
  refine aw_join h (fun A j => ∀ v113 v114 v115, j v113 v114 v115 = some r → A (mk [(0, .c (.ptr 0 0)), (1, .c (I p1)), (5, .c (.app 1 (List.map eGAttr v113)))] [(0, .blk 90 [.lit (List.map eI64 v114), I v115]), (1, .tok 72 5 (List.length v113))] 2)) (fun v113 v114 v115 h => ?_) (fun j108 Aj108 hj108 h => ?_)
  refine aw_join h (fun A j => ∀ v121 v122 v123, j v121 v122 v123 = some r → A (mk [(0, .c (.ptr 0 0)), (1, .c (I p1)), (5, .c (.app 1 (List.map eGAttr v121)))] [(0, .blk 90 [.lit (List.map eI64 v122), I v123]), (1, .tok 72 5 (List.length v121))] 2)) (fun v121 v122 v123 h => ?_) (fun j116 Aj116 hj116 h => ?_)
  refine aw_join h (fun A j => ∀ v130 v131 v132, j v130 v131 v132 = some r → A (mk [(0, .c (.ptr 0 0)), (1, .c (I p1)), (5, .c (.app 1 (List.map eGAttr v130)))] [(0, .blk 90 [.lit (List.map eI64 v131), I v132]), (1, .tok 72 5 (List.length v130))] 2)) (fun v130 v131 v132 h => ?_) (fun j124 Aj124 hj124 h => ?_)
  refine aw_join h (fun A j => ∀ v138 v139 v140, j v138 v139 v140 = some r → A (mk [(0, .c (.ptr 0 0)), (1, .c (I p1)), (5, .c (.app 1 (List.map eGAttr v138)))] [(0, .blk 90 [.lit (List.map eI64 v139), I v140]), (1, .tok 72 5 (List.length v138))] 2)) (fun v138 v139 v140 h => ?_) (fun j133 Aj133 hj133 h => ?_)
  refine aw_join h (fun A j => ∀ v146 v147 v148, j v146 v147 v148 = some r → A (mk [(5, .c (.app 1 (List.map eGAttr v146)))] [(0, .blk 90 [.lit (List.map eI64 v147), I v148]), (1, .tok 72 5 (List.length v146))] 2)) (fun v146 v147 v148 h => ?_) (fun j141 Aj141 hj141 h => ?_)
  refine za [4] ?_
  cases h
  exact aw_ret zr
  refine zx fun _ => ?_
  refine zk 3 ?_
  refine zE (.c (I p1)) ?_
  refine zE (.c (Bo (p1 == 13))) ?_
  refine zP (.bool ((p1 == 5) || (p1 == 13))) ?_
  refine zk 1 ?_
  refine zE (.c (.ptr 0 0)) ?_
  obtain ⟨y142, he, h⟩ := bindE h
  refine rx_EcallO (e := [(!((p1 == 5) || (p1 == 13)))]) [(195, .c (.ptr 0 0), some 1)] (F := 20) (As := [.c (.ptr 0 0), .c (I 9)]) (Bs := [.c (.ptr 0 0), .c (I 9)]) (σ := [(0, 0)]) (k := 1) (Gc := [(0, .blk 90 [.lit (List.map eI64 v139), I v140])]) (Gf := [(0, .blk 90 [.lit (List.map eI64 y142.2.L), I y142.2.At])]) (r := .c (I y142.1)) (v := .c (I y142.1)) (by kernel_rfl) (by kernel_rfl) (by kernel_rfl) (by kernel_rfl) (by kernel_rfl) (by kernel_rfl) fok20 ⟨.inr ⟨(by kernel_rfl), (by kernel_rfl)⟩, ⟨.inl (by kernel_rfl), trivial⟩⟩ (fun hg => Src_N_ok n _ _ y142 (ifO_t he hg)) (by kernel_rfl) (by kernel_rfl) (by kernel_rfl) (fun hg => by rw [ifO_f he hg]; kernel_rfl) (by kernel_rfl) rfl rfl rfl ?_
  clear he
  refine zE (.c (Bo (y142.1 == 0))) ?_
  refine zP (.bool (((p1 == 5) || (p1 == 13)) || (y142.1 == 0))) ?_
  refine ze [0, 5, 198] ?_
  refine zi h (fun h => ?_) fun h => ?_
  refine aw_out ?_
  refine zy fun _ => ?_
  refine zk 2 ?_
  obtain ⟨y143, he, h⟩ := bindE h
  refine zo [(0, 0)] fok20 (Src_N_ok n _ _ y143 he) ?_
  clear he
  obtain ⟨y144, he, h⟩ := bindE h
  refine zc fok80 (base_number_ok n _ y144 he) ?_
  clear he
  refine zk 2 ?_
  obtain ⟨l145, he, h⟩ := bindE h
  refine rx_append (enc := eGAttr) (l := v138) (els := [(GAttr.mk (⟨#[119, 105, 100, 116, 104]⟩ : ByteArray) y144)]) (r := l145) (old := some 1) (e := 72) (sz := 5) (bytes := 72) (k := (List.length v138)) (nm := 19) he (by kernel_rfl) (by kernel_rfl) (fun x => by kernel_rfl) (by kernel_rfl) (by kernel_rfl) rfl rfl rfl ?_
  clear he
  refine zk 1 ?_
  refine x_last ?_
  exact via (zv [(0, 0), (19, 1)] [5] 2) (hj141 _ _ _ h)
  exact aw_views (zv [(0, 0), (1, 1)] [5] 2) (aw_skip (hj141 _ _ _ h))
  refine zx fun _ => ?_
  refine zk 1 ?_
  obtain ⟨y134, he, h⟩ := bindE h
  refine zo [(0, 0)] fok20 (Src_N_ok n _ _ y134 he) ?_
  clear he
  refine zk 1 ?_
  refine ze [0, 1, 5, 180] ?_
  refine zi h (fun h => ?_) fun h => ?_
  refine aw_out ?_
  refine zy fun _ => ?_
  refine zk 2 ?_
  obtain ⟨y135, he, h⟩ := bindE h
  refine zo [(0, 0)] fok20 (Src_N_ok n _ _ y135 he) ?_
  clear he
  obtain ⟨y136, he, h⟩ := bindE h
  refine zc fok80 (base_number_ok n _ y136 he) ?_
  clear he
  refine zk 2 ?_
  obtain ⟨l137, he, h⟩ := bindE h
  refine rx_append (enc := eGAttr) (l := v130) (els := [(GAttr.mk (⟨#[116, 117, 114, 110]⟩ : ByteArray) y136)]) (r := l137) (old := some 1) (e := 72) (sz := 5) (bytes := 72) (k := (List.length v130)) (nm := 11) he (by kernel_rfl) (by kernel_rfl) (fun x => by kernel_rfl) (by kernel_rfl) (by kernel_rfl) rfl rfl rfl ?_
  clear he
  refine zk 1 ?_
  refine x_last ?_
  exact via (zv [(0, 0), (11, 1)] [0, 1, 5] 2) (hj133 _ _ _ h)
  exact aw_views (zv [(0, 0), (1, 1)] [0, 1, 5] 2) (aw_skip (hj133 _ _ _ h))
  refine zx fun _ => ?_
  refine zk 1 ?_
  obtain ⟨y125, he, h⟩ := bindE h
  refine zo [(0, 0)] fok20 (Src_N_ok n _ _ y125 he) ?_
  clear he
  refine zk 1 ?_
  refine ze [0, 1, 5, 167] ?_
  refine zi h (fun h => ?_) fun h => ?_
  refine aw_out ?_
  refine zy fun _ => ?_
  refine zk 3 ?_
  obtain ⟨y126, he, h⟩ := bindE h
  refine zo [(0, 0)] fok82 (Src_Text_ok n _ _ y126 he) ?_
  clear he
  obtain ⟨y127, he, h⟩ := bindE h
  refine zo [(0, 0)] fok81 (Src_valid_ok n _ _ y127 he) ?_
  clear he
  refine zw (v := .c (Sx (runesBytes y127.1))) [] (rdW_runesText (ns := y127.1) (by kernel_rfl)) ?_
  obtain ⟨y128, he, h⟩ := bindE h
  refine zc fok78 (base_text_ok n _ y128 he) ?_
  clear he
  refine zk 2 ?_
  obtain ⟨l129, he, h⟩ := bindE h
  refine rx_append (enc := eGAttr) (l := v121) (els := [(GAttr.mk (⟨#[116, 101, 120, 116]⟩ : ByteArray) y128)]) (r := l129) (old := some 1) (e := 72) (sz := 5) (bytes := 72) (k := (List.length v121)) (nm := 14) he (by kernel_rfl) (by kernel_rfl) (fun x => by kernel_rfl) (by kernel_rfl) (by kernel_rfl) rfl rfl rfl ?_
  clear he
  refine zk 1 ?_
  refine x_last ?_
  exact via (zv [(0, 0), (14, 1)] [0, 1, 5] 2) (hj124 _ _ _ h)
  exact aw_views (zv [(0, 0), (1, 1)] [0, 1, 5] 2) (aw_skip (hj124 _ _ _ h))
  refine zx fun _ => ?_
  refine zk 1 ?_
  obtain ⟨y117, he, h⟩ := bindE h
  refine zo [(0, 0)] fok20 (Src_N_ok n _ _ y117 he) ?_
  clear he
  refine zk 1 ?_
  refine ze [0, 1, 5, 157] ?_
  refine zi h (fun h => ?_) fun h => ?_
  refine aw_out ?_
  refine zy fun _ => ?_
  refine zk 2 ?_
  obtain ⟨y118, he, h⟩ := bindE h
  refine zo [(0, 0)] fok20 (Src_N_ok n _ _ y118 he) ?_
  clear he
  obtain ⟨y119, he, h⟩ := bindE h
  refine zc fok80 (base_number_ok n _ y119 he) ?_
  clear he
  refine zk 2 ?_
  obtain ⟨l120, he, h⟩ := bindE h
  refine rx_append (enc := eGAttr) (l := v113) (els := [(GAttr.mk (⟨#[115, 112, 97, 110]⟩ : ByteArray) y119)]) (r := l120) (old := some 1) (e := 72) (sz := 5) (bytes := 72) (k := (List.length v113)) (nm := 11) he (by kernel_rfl) (by kernel_rfl) (fun x => by kernel_rfl) (by kernel_rfl) (by kernel_rfl) rfl rfl rfl ?_
  clear he
  refine zk 1 ?_
  refine x_last ?_
  exact via (zv [(0, 0), (11, 1)] [0, 1, 5] 2) (hj116 _ _ _ h)
  exact aw_views (zv [(0, 0), (1, 1)] [0, 1, 5] 2) (aw_skip (hj116 _ _ _ h))
  refine zx fun _ => ?_
  refine zk 1 ?_
  obtain ⟨y109, he, h⟩ := bindE h
  refine zo [(0, 0)] fok20 (Src_N_ok n _ _ y109 he) ?_
  clear he
  refine zk 1 ?_
  refine ze [0, 1, 5, 147] ?_
  refine zi h (fun h => ?_) fun h => ?_
  refine aw_out ?_
  refine zy fun _ => ?_
  refine zk 2 ?_
  obtain ⟨y110, he, h⟩ := bindE h
  refine zo [(0, 0)] fok20 (Src_N_ok n _ _ y110 he) ?_
  clear he
  obtain ⟨y111, he, h⟩ := bindE h
  refine zc fok80 (base_number_ok n _ y111 he) ?_
  clear he
  refine zk 2 ?_
  obtain ⟨l112, he, h⟩ := bindE h
  refine rx_append (enc := eGAttr) (l := v105) (els := [(GAttr.mk (⟨#[115, 99, 97, 108, 101]⟩ : ByteArray) y111)]) (r := l112) (old := some 1) (e := 72) (sz := 5) (bytes := 72) (k := (List.length v105)) (nm := 11) he (by kernel_rfl) (by kernel_rfl) (fun x => by kernel_rfl) (by kernel_rfl) (by kernel_rfl) rfl rfl rfl ?_
  clear he
  refine zk 1 ?_
  refine x_last ?_
  exact via (zv [(0, 0), (11, 1)] [0, 1, 5] 2) (hj108 _ _ _ h)
  exact aw_views (zv [(0, 0), (1, 1)] [0, 1, 5] 2) (aw_skip (hj108 _ _ _ h))
  refine zx fun _ => ?_
  refine zk 1 ?_
  obtain ⟨y102, he, h⟩ := bindE h
  refine zo [(0, 0)] fok20 (Src_N_ok n _ _ y102 he) ?_
  clear he
  refine zk 1 ?_
  refine ze [0, 1, 5, 139] ?_
  refine zi h (fun h => ?_) fun h => ?_
  refine aw_out ?_
  refine zy fun _ => ?_
  refine zk 1 ?_
  obtain ⟨y103, he, h⟩ := bindE h
  refine zc fok79 (base_flag_ok n _ y103 he) ?_
  clear he
  refine zk 2 ?_
  obtain ⟨l104, he, h⟩ := bindE h
  refine rx_append (enc := eGAttr) (l := v98) (els := [(GAttr.mk (⟨#[112, 105, 110, 110, 101, 100]⟩ : ByteArray) y103)]) (r := l104) (old := some 1) (e := 72) (sz := 5) (bytes := 72) (k := (List.length v98)) (nm := 9) he (by kernel_rfl) (by kernel_rfl) (fun x => by kernel_rfl) (by kernel_rfl) (by kernel_rfl) rfl rfl rfl ?_
  clear he
  refine zk 1 ?_
  refine x_last ?_
  exact via (zv [(0, 0), (9, 1)] [0, 1, 5] 2) (hj101 _ _ _ h)
  exact aw_views (zv [(0, 0), (1, 1)] [0, 1, 5] 2) (aw_skip (hj101 _ _ _ h))
  refine zx fun _ => ?_
  refine zk 1 ?_
  obtain ⟨y93, he, h⟩ := bindE h
  refine zo [(0, 0)] fok20 (Src_N_ok n _ _ y93 he) ?_
  clear he
  refine zk 1 ?_
  refine ze [0, 1, 5, 124] ?_
  refine zi h (fun h => ?_) fun h => ?_
  refine aw_out ?_
  refine zy fun _ => ?_
  refine zk 2 ?_
  obtain ⟨y94, he, h⟩ := bindE h
  refine zo [(0, 0)] fok20 (Src_N_ok n _ _ y94 he) ?_
  clear he
  refine zk 3 ?_
  refine zw (v := .c (Sx (bytesText [(IntKind.wrap .u8 (IntKind.wrap .i64 (97 + y94.1)))]))) [] (rdW_bytesText (ns := [(IntKind.wrap .u8 (IntKind.wrap .i64 (97 + y94.1)))]) (by kernel_rfl)) ?_
  obtain ⟨s95, he, h⟩ := bindE h
  refine zw (v := .c (Sx s95)) [] (rdW_cat (p := (⟨#[107]⟩ : ByteArray)) (q := (bytesText [(IntKind.wrap .u8 (IntKind.wrap .i64 (97 + y94.1)))])) he (by kernel_rfl)) ?_
  clear he
  obtain ⟨y96, he, h⟩ := bindE h
  refine zc fok78 (base_text_ok n _ y96 he) ?_
  clear he
  refine zk 2 ?_
  obtain ⟨l97, he, h⟩ := bindE h
  refine rx_append (enc := eGAttr) (l := v89) (els := [(GAttr.mk (⟨#[108, 101, 102, 116]⟩ : ByteArray) y96)]) (r := l97) (old := some 1) (e := 72) (sz := 5) (bytes := 72) (k := (List.length v89)) (nm := 16) he (by kernel_rfl) (by kernel_rfl) (fun x => by kernel_rfl) (by kernel_rfl) (by kernel_rfl) rfl rfl rfl ?_
  clear he
  refine zk 1 ?_
  refine x_last ?_
  exact via (zv [(0, 0), (16, 1)] [0, 1, 5] 2) (hj92 _ _ _ h)
  exact aw_views (zv [(0, 0), (1, 1)] [0, 1, 5] 2) (aw_skip (hj92 _ _ _ h))
  refine zx fun _ => ?_
  refine zk 1 ?_
  obtain ⟨y85, he, h⟩ := bindE h
  refine zo [(0, 0)] fok20 (Src_N_ok n _ _ y85 he) ?_
  clear he
  refine zk 1 ?_
  refine ze [0, 1, 5, 114] ?_
  refine zi h (fun h => ?_) fun h => ?_
  refine aw_out ?_
  refine zy fun _ => ?_
  refine zk 2 ?_
  obtain ⟨y86, he, h⟩ := bindE h
  refine zo [(0, 0)] fok20 (Src_N_ok n _ _ y86 he) ?_
  clear he
  obtain ⟨y87, he, h⟩ := bindE h
  refine zc fok79 (base_flag_ok n _ y87 he) ?_
  clear he
  refine zk 2 ?_
  obtain ⟨l88, he, h⟩ := bindE h
  refine rx_append (enc := eGAttr) (l := v81) (els := [(GAttr.mk (⟨#[104, 105, 100, 100, 101, 110]⟩ : ByteArray) y87)]) (r := l88) (old := some 1) (e := 72) (sz := 5) (bytes := 72) (k := (List.length v81)) (nm := 11) he (by kernel_rfl) (by kernel_rfl) (fun x => by kernel_rfl) (by kernel_rfl) (by kernel_rfl) rfl rfl rfl ?_
  clear he
  refine zk 1 ?_
  refine x_last ?_
  exact via (zv [(0, 0), (11, 1)] [0, 1, 5] 2) (hj84 _ _ _ h)
  exact aw_views (zv [(0, 0), (1, 1)] [0, 1, 5] 2) (aw_skip (hj84 _ _ _ h))
  refine zx fun _ => ?_
  refine zk 3 ?_
  refine zE (.c (I p1)) ?_
  refine zE (.c (Bo (p1 == 13))) ?_
  refine zP (.bool ((p1 == 5) || (p1 == 13))) ?_
  refine zk 1 ?_
  refine zE (.c (.ptr 0 0)) ?_
  obtain ⟨y77, he, h⟩ := bindE h
  refine rx_EcallO (e := [(!((p1 == 5) || (p1 == 13)))]) [(101, .c (.ptr 0 0), some 1)] (F := 20) (As := [.c (.ptr 0 0), .c (I 9)]) (Bs := [.c (.ptr 0 0), .c (I 9)]) (σ := [(0, 0)]) (k := 1) (Gc := [(0, .blk 90 [.lit (List.map eI64 v74), I v75])]) (Gf := [(0, .blk 90 [.lit (List.map eI64 y77.2.L), I y77.2.At])]) (r := .c (I y77.1)) (v := .c (I y77.1)) (by kernel_rfl) (by kernel_rfl) (by kernel_rfl) (by kernel_rfl) (by kernel_rfl) (by kernel_rfl) fok20 ⟨.inr ⟨(by kernel_rfl), (by kernel_rfl)⟩, ⟨.inl (by kernel_rfl), trivial⟩⟩ (fun hg => Src_N_ok n _ _ y77 (ifO_t he hg)) (by kernel_rfl) (by kernel_rfl) (by kernel_rfl) (fun hg => by rw [ifO_f he hg]; kernel_rfl) (by kernel_rfl) rfl rfl rfl ?_
  clear he
  refine zE (.c (Bo (y77.1 == 0))) ?_
  refine zP (.bool (((p1 == 5) || (p1 == 13)) || (y77.1 == 0))) ?_
  refine ze [0, 1, 5, 104] ?_
  refine zi h (fun h => ?_) fun h => ?_
  refine aw_out ?_
  refine zy fun _ => ?_
  refine zk 2 ?_
  obtain ⟨y78, he, h⟩ := bindE h
  refine zo [(0, 0)] fok20 (Src_N_ok n _ _ y78 he) ?_
  clear he
  obtain ⟨y79, he, h⟩ := bindE h
  refine zc fok80 (base_number_ok n _ y79 he) ?_
  clear he
  refine zk 2 ?_
  obtain ⟨l80, he, h⟩ := bindE h
  refine rx_append (enc := eGAttr) (l := v73) (els := [(GAttr.mk (⟨#[104, 101, 105, 103, 104, 116]⟩ : ByteArray) y79)]) (r := l80) (old := some 1) (e := 72) (sz := 5) (bytes := 72) (k := (List.length v73)) (nm := 19) he (by kernel_rfl) (by kernel_rfl) (fun x => by kernel_rfl) (by kernel_rfl) (by kernel_rfl) rfl rfl rfl ?_
  clear he
  refine zk 1 ?_
  refine x_last ?_
  exact via (zv [(0, 0), (19, 1)] [0, 1, 5] 2) (hj76 _ _ _ h)
  exact aw_views (zv [(0, 0), (1, 1)] [0, 1, 5] 2) (aw_skip (hj76 _ _ _ h))
  refine zx fun _ => ?_
  refine zk 1 ?_
  obtain ⟨y69, he, h⟩ := bindE h
  refine zo [(0, 0)] fok20 (Src_N_ok n _ _ y69 he) ?_
  clear he
  refine zk 1 ?_
  refine ze [0, 1, 5, 86] ?_
  refine zi h (fun h => ?_) fun h => ?_
  refine aw_out ?_
  refine zy fun _ => ?_
  refine zk 2 ?_
  obtain ⟨y70, he, h⟩ := bindE h
  refine zo [(0, 0)] fok20 (Src_N_ok n _ _ y70 he) ?_
  clear he
  obtain ⟨y71, he, h⟩ := bindE h
  refine zc fok79 (base_flag_ok n _ y71 he) ?_
  clear he
  refine zk 2 ?_
  obtain ⟨l72, he, h⟩ := bindE h
  refine rx_append (enc := eGAttr) (l := v65) (els := [(GAttr.mk (⟨#[100, 105, 115, 97, 98, 108, 101, 100]⟩ : ByteArray) y71)]) (r := l72) (old := some 1) (e := 72) (sz := 5) (bytes := 72) (k := (List.length v65)) (nm := 11) he (by kernel_rfl) (by kernel_rfl) (fun x => by kernel_rfl) (by kernel_rfl) (by kernel_rfl) rfl rfl rfl ?_
  clear he
  refine zk 1 ?_
  refine x_last ?_
  exact via (zv [(0, 0), (11, 1)] [0, 1, 5] 2) (hj68 _ _ _ h)
  exact aw_views (zv [(0, 0), (1, 1)] [0, 1, 5] 2) (aw_skip (hj68 _ _ _ h))
  refine zx fun _ => ?_
  refine zk 1 ?_
  obtain ⟨y36, he, h⟩ := bindE h
  refine zo [(0, 0)] fok20 (Src_N_ok n _ _ y36 he) ?_
  clear he
  refine zk 1 ?_
  refine ze [0, 1, 5, 60] ?_
  refine zi h (fun h => ?_) fun h => ?_
  refine za [0, 1, 5, 6] ?_
  refine aw_join h (fun A j => ∀ v61 v62 v63, j v61 v62 v63 = some r → A (mk [(0, .c (.ptr 0 0)), (1, .c (I p1)), (5, .c (.app 1 (List.map eGAttr v32))), (6, .c (.ptr 2 0))] [(0, .blk 90 [.lit (List.map eI64 v61), I v62]), (1, .tok 72 5 (List.length v32)), (2, .blk 70 [I 4, I 0, Sx (⟨#[]⟩ : ByteArray), .app 3 (List.map eGValue v63)]), (3, .tok 70 4 (List.length v63))] 4)) (fun v61 v62 v63 h => ?_) (fun j37 Aj37 hj37 h => ?_)
  refine aw_out ?_
  refine zy fun _ => ?_
  refine zk 4 ?_
  obtain ⟨l64, he, h⟩ := bindE h
  refine rx_append (enc := eGAttr) (l := v32) (els := [(GAttr.mk (⟨#[99, 111, 108, 117, 109, 110, 115]⟩ : ByteArray) (GValue.mk 4 0 (⟨#[]⟩ : ByteArray) v63))]) (r := l64) (old := some 1) (e := 72) (sz := 5) (bytes := 72) (k := (List.length v32)) (nm := 8) he (by kernel_rfl) (by kernel_rfl) (fun x => by kernel_rfl) (by kernel_rfl) (by kernel_rfl) rfl rfl rfl ?_
  clear he
  refine zk 1 ?_
  refine x_last ?_
  exact via (zv [(0, 0), (8, 1)] [0, 1, 5] 2) (hj35 _ _ _ h)
  refine zx fun _ => ?_
  refine zk 1 ?_
  obtain ⟨y38, he, h⟩ := bindE h
  refine zo [(0, 0)] fok21 (Src_Range_ok n _ _ _ y38 he) ?_
  clear he
  refine zk 1 ?_
  refine ze [0, 1, 5, 6, 7] ?_
  refine aw_block ?_
  refine aw_loopJ (fun n s => ∃ v46 v47 v48 v49, Src_attrs_L0 j37 p1 v32 n v46 v47 v48 v49 = some r ∧ s = mk [(0, .c (.ptr 0 0)), (1, .c (I p1)), (5, .c (.app 1 (List.map eGAttr v32))), (6, .c (.ptr 2 0)), (7, .c (I v46))] [(0, .blk 90 [.lit (List.map eI64 v47), I v48]), (1, .tok 72 5 (List.length v32)), (2, .blk 70 [I 4, I 0, Sx (⟨#[]⟩ : ByteArray), .app 3 (List.map eGValue v49)]), (3, .tok 70 4 (List.length v49))] 4) n _ (Views.trans (view_nilC (n := 6) (T0 := 70) (l := [I 4, I 0, Sx (⟨#[]⟩ : ByteArray), NilS]) (G2 := [(0, .blk 90 [.lit (List.map eI64 y38.2.L), I y38.2.At]), (1, .tok 72 5 (List.length v32)), (6, .blk 70 [I 4, I 0, Sx (⟨#[]⟩ : ByteArray), .app 11 (List.map eGValue ([] : List GValue))]), (11, .tok 70 4 (List.length ([] : List GValue)))]) (lim2 := 12) 3 70 4 (by kernel_rfl) (by kernel_rfl) (by kernel_rfl) (by kernel_rfl)) (zv [(0, 0), (1, 1), (6, 2), (11, 3)] [0, 1, 5, 6, 7] 4)) ⟨_, _, _, _, h, rfl⟩ (fun s ⟨v46, v47, v48, v49, h, _⟩ => nomatch h) ?_
  rintro n s ⟨v46, v47, v48, v49, h, rfl⟩
  rw [Src_attrs_L0] at h
  refine aw_seq ?_
  refine za [0, 1, 5, 6, 7, 65] ?_
  refine zi h (fun h => ?_) fun h => ?_
  refine aw_skip ?_
  refine aw_seq ?_
  refine aw_block ?_
  refine zdy [[], [0], [], [], [3], [2, 4, 3], [5, 2, 4, 3], [6, 4, 5, 2, 3], [7, 6, 4, 5, 2, 3], [1, 8, 7, 0, 6, 4, 5, 2, 3], [0, 1, 2, 3, 4, 5, 6, 7, 8, 9], [10, 9, 0, 1, 2, 3, 4, 5, 6, 7, 8]] fun _ => ?_
  refine zk 4 ?_
  obtain ⟨y50, he, h⟩ := bindE h
  refine zo [(0, 0)] fok20 (Src_N_ok n _ _ y50 he) ?_
  clear he
  obtain ⟨e51, he, h⟩ := bindE h
  refine zd eI64 he ?_
  clear he
  refine zk 1 ?_
  obtain ⟨y52, he, h⟩ := bindE h
  refine zc fok80 (base_number_ok n _ y52 he) ?_
  clear he
  refine rx_bs (e := 70) (sz := 4) (len := 1) (r := [I y52.Kind, I y52.N, Sx y52.S, .lit (List.map eGValue y52.L)]) (l' := List.map eGValue [y52]) (nm := 14) (by kernel_rfl) (by simp only [List.map_cons, List.map_nil, eGValue_eq]; kernel_rfl) (by kernel_rfl) (by kernel_rfl) rfl rfl rfl ?_
  obtain ⟨l53, he, h⟩ := bindE h
  refine rx_append (enc := eGValue) (l := v49) (els := [y52]) (r := l53) (old := some 3) (e := 70) (sz := 4) (bytes := 56) (k := (List.length v49)) (nm := 15) he (by kernel_rfl) (by kernel_rfl) (fun x => by rw [eGValue_eq]; rfl) (by kernel_rfl) (by kernel_rfl) rfl rfl rfl ?_
  clear he
  refine zk 2 ?_
  refine x_last ?_
  refine aw_out ?_
  refine zb ?_
  exact via (zv [(0, 0), (1, 1), (2, 2), (15, 3)] [0, 1, 5, 6, 7] 4) (⟨_, _, _, _, h, rfl⟩)
  exact aw_views (zv [(0, 0), (1, 1), (2, 2), (3, 3)] [0, 1, 5, 6] 4) (aw_exit (hj37 _ _ _ h))
  exact aw_views (zv [(0, 0), (1, 1)] [0, 1, 5] 2) (aw_skip (hj35 _ _ _ h))
  refine zx fun _ => ?_
  refine zk 1 ?_
  obtain ⟨y28, he, h⟩ := bindE h
  refine zo [(0, 0)] fok20 (Src_N_ok n _ _ y28 he) ?_
  clear he
  refine zk 1 ?_
  refine ze [0, 1, 5, 50] ?_
  refine zi h (fun h => ?_) fun h => ?_
  refine aw_out ?_
  refine zy fun _ => ?_
  refine zk 2 ?_
  obtain ⟨y29, he, h⟩ := bindE h
  refine zo [(0, 0)] fok33 (Src_Name_ok n _ y29 he) ?_
  clear he
  obtain ⟨y30, he, h⟩ := bindE h
  refine zc fok78 (base_text_ok n _ y30 he) ?_
  clear he
  refine zk 2 ?_
  obtain ⟨l31, he, h⟩ := bindE h
  refine rx_append (enc := eGAttr) (l := v24) (els := [(GAttr.mk (⟨#[99, 108, 97, 115, 115]⟩ : ByteArray) y30)]) (r := l31) (old := some 1) (e := 72) (sz := 5) (bytes := 72) (k := (List.length v24)) (nm := 11) he (by kernel_rfl) (by kernel_rfl) (fun x => by kernel_rfl) (by kernel_rfl) (by kernel_rfl) rfl rfl rfl ?_
  clear he
  refine zk 1 ?_
  refine x_last ?_
  exact via (zv [(0, 0), (11, 1)] [0, 1, 5] 2) (hj27 _ _ _ h)
  exact aw_views (zv [(0, 0), (1, 1)] [0, 1, 5] 2) (aw_skip (hj27 _ _ _ h))
  refine zx fun _ => ?_
  refine zk 1 ?_
  obtain ⟨y20, he, h⟩ := bindE h
  refine zo [(0, 0)] fok20 (Src_N_ok n _ _ y20 he) ?_
  clear he
  refine zk 1 ?_
  refine ze [0, 1, 5, 40] ?_
  refine zi h (fun h => ?_) fun h => ?_
  refine aw_out ?_
  refine zy fun _ => ?_
  refine zk 2 ?_
  obtain ⟨y21, he, h⟩ := bindE h
  refine zo [(0, 0)] fok20 (Src_N_ok n _ _ y21 he) ?_
  clear he
  obtain ⟨y22, he, h⟩ := bindE h
  refine zc fok79 (base_flag_ok n _ y22 he) ?_
  clear he
  refine zk 2 ?_
  obtain ⟨l23, he, h⟩ := bindE h
  refine rx_append (enc := eGAttr) (l := v16) (els := [(GAttr.mk (⟨#[99, 104, 101, 99, 107, 101, 100]⟩ : ByteArray) y22)]) (r := l23) (old := some 1) (e := 72) (sz := 5) (bytes := 72) (k := (List.length v16)) (nm := 11) he (by kernel_rfl) (by kernel_rfl) (fun x => by kernel_rfl) (by kernel_rfl) (by kernel_rfl) rfl rfl rfl ?_
  clear he
  refine zk 1 ?_
  refine x_last ?_
  exact via (zv [(0, 0), (11, 1)] [0, 1, 5] 2) (hj19 _ _ _ h)
  exact aw_views (zv [(0, 0), (1, 1)] [0, 1, 5] 2) (aw_skip (hj19 _ _ _ h))
  refine zx fun _ => ?_
  refine zk 1 ?_
  obtain ⟨y11, he, h⟩ := bindE h
  refine zo [(0, 0)] fok20 (Src_N_ok n _ _ y11 he) ?_
  clear he
  refine zk 1 ?_
  refine ze [0, 1, 5, 25] ?_
  refine zi h (fun h => ?_) fun h => ?_
  refine aw_out ?_
  refine zy fun _ => ?_
  refine zk 2 ?_
  obtain ⟨y12, he, h⟩ := bindE h
  refine zo [(0, 0)] fok20 (Src_N_ok n _ _ y12 he) ?_
  clear he
  refine zk 3 ?_
  refine zw (v := .c (Sx (bytesText [(IntKind.wrap .u8 (IntKind.wrap .i64 (97 + y12.1)))]))) [] (rdW_bytesText (ns := [(IntKind.wrap .u8 (IntKind.wrap .i64 (97 + y12.1)))]) (by kernel_rfl)) ?_
  obtain ⟨s13, he, h⟩ := bindE h
  refine zw (v := .c (Sx s13)) [] (rdW_cat (p := (⟨#[107]⟩ : ByteArray)) (q := (bytesText [(IntKind.wrap .u8 (IntKind.wrap .i64 (97 + y12.1)))])) he (by kernel_rfl)) ?_
  clear he
  obtain ⟨y14, he, h⟩ := bindE h
  refine zc fok78 (base_text_ok n _ y14 he) ?_
  clear he
  refine zk 2 ?_
  obtain ⟨l15, he, h⟩ := bindE h
  refine rx_append (enc := eGAttr) (l := v7) (els := [(GAttr.mk (⟨#[97, 108, 105, 103, 110, 108, 101, 102, 116]⟩ : ByteArray) y14)]) (r := l15) (old := some 1) (e := 72) (sz := 5) (bytes := 72) (k := (List.length v7)) (nm := 16) he (by kernel_rfl) (by kernel_rfl) (fun x => by kernel_rfl) (by kernel_rfl) (by kernel_rfl) rfl rfl rfl ?_
  clear he
  refine zk 1 ?_
  refine x_last ?_
  exact via (zv [(0, 0), (16, 1)] [0, 1, 5] 2) (hj10 _ _ _ h)
  exact aw_views (zv [(0, 0), (1, 1)] [0, 1, 5] 2) (aw_skip (hj10 _ _ _ h))
  refine zx fun _ => ?_
  refine zk 1 ?_
  obtain ⟨y2, he, h⟩ := bindE h
  refine zo [(0, 0)] fok20 (Src_N_ok n _ _ y2 he) ?_
  clear he
  refine zk 1 ?_
  refine ze [0, 1, 5, 10] ?_
  refine zi h (fun h => ?_) fun h => ?_
  refine aw_out ?_
  refine zy fun _ => ?_
  refine zk 2 ?_
  obtain ⟨y3, he, h⟩ := bindE h
  refine zo [(0, 0)] fok20 (Src_N_ok n _ _ y3 he) ?_
  clear he
  refine zk 3 ?_
  refine zw (v := .c (Sx (bytesText [(IntKind.wrap .u8 (IntKind.wrap .i64 (97 + y3.1)))]))) [] (rdW_bytesText (ns := [(IntKind.wrap .u8 (IntKind.wrap .i64 (97 + y3.1)))]) (by kernel_rfl)) ?_
  obtain ⟨s4, he, h⟩ := bindE h
  refine zw (v := .c (Sx s4)) [] (rdW_cat (p := (⟨#[107]⟩ : ByteArray)) (q := (bytesText [(IntKind.wrap .u8 (IntKind.wrap .i64 (97 + y3.1)))])) he (by kernel_rfl)) ?_
  clear he
  obtain ⟨y5, he, h⟩ := bindE h
  refine zc fok78 (base_text_ok n _ y5 he) ?_
  clear he
  refine zk 2 ?_
  obtain ⟨l6, he, h⟩ := bindE h
  refine rx_append (enc := eGAttr) (l := ([] : List GAttr)) (els := [(GAttr.mk (⟨#[97, 98, 111, 118, 101]⟩ : ByteArray) y5)]) (r := l6) (old := none) (e := 72) (sz := 5) (bytes := 72) (k := 0) (nm := 17) he (by kernel_rfl) (by kernel_rfl) (fun x => by kernel_rfl) (by kernel_rfl) (by kernel_rfl) rfl rfl rfl ?_
  clear he
  refine zk 1 ?_
  refine x_last ?_
  exact via (zv [(0, 0), (17, 1)] [0, 1, 5] 2) (hj1 _ _ _ h)
  exact aw_views (Views.trans (view_nilS (L2 := [(0, .c (.ptr 0 0)), (1, .c (I p1)), (5, .c (.app 6 (List.map eGAttr ([] : List GAttr)))), (10, .c (Bo (y2.1 == 0)))]) (G2 := [(0, .blk 90 [.lit (List.map eI64 y2.2.L), I y2.2.At]), (6, .tok 72 5 (List.length ([] : List GAttr)))]) (lim2 := 7) 5 72 5 (by kernel_rfl) (by kernel_rfl) (by kernel_rfl) (by kernel_rfl)) (zv [(0, 0), (6, 1)] [0, 1, 5] 2)) (aw_skip (hj1 _ _ _ h))
def Src_Word_L0 (y1 : (Int × GSrc)) (j3 : List Int → List Int → Int → Option (ByteArray × GSrc)) : Nat → Int → List Int → Int → List Int → Option (ByteArray × GSrc)
  | 0, _, _, _, _ => none
  | n + 1, v7, v8, v9, v10 => (if (decide (v7 < y1.1)) = true then (Src_N n (GSrc.mk v8 v9) 4).bind fun (y11 : (Int × GSrc)) => (inb v7 (List.length v10)).bind fun (k12 : Nat) => (v10[k12]?).bind fun (e13 : Int) => Src_Word_L0 y1 j3 n (IntKind.wrap .i64 (v7 + 1)) y11.2.L y11.2.At (List.set v10 k12 (IntKind.wrap .u8 (IntKind.wrap .i64 (97 + y11.1)))) else j3 v10 v8 v9)
def Src_Word  (n : Nat) (p0 : GSrc) (p1 : Int) : Option (ByteArray × GSrc) := (Src_N n p0 (IntKind.wrap .i64 (p1 + 1))).bind fun (y1 : (Int × GSrc)) => (mkO 1 y1.1).bind fun (k2 : Nat) => (withJ (fun (v18 : List Int) (v19 : List Int) (v20 : Int) => some ((bytesText v18), (GSrc.mk v19 v20))) (fun (j3 : List Int → List Int → Int → Option (ByteArray × GSrc)) => Src_Word_L0 y1 j3 n 0 y1.2.L y1.2.At (List.replicate k2 (0 : Int))))
theorem Src_Word_ok  (n : Nat) (p0 : GSrc) (p1 : Int) (r : (ByteArray × GSrc)) (h : Src_Word n p0 p1 = some r) : FnD E 83 1 [.c (.ptr 0 0), .c (I p1)] [(0, .blk 90 [.lit (List.map eI64 p0.L), I p0.At])] (.c (Sx r.1)) [(0, .blk 90 [.lit (List.map eI64 r.2.L), I r.2.At])] := by
  refine zfn Tryd.func83 rfl ?_
  unfold Src_Word at h
  refine za [0, 1] ?_
  refine zx fun _ => ?_
  refine zk 3 ?_
  obtain ⟨y1, he, h⟩ := bindE h
  refine zo [(0, 0)] fok20 (Src_N_ok n _ _ y1 he) ?_
  clear he
  refine zk 1 ?_
  refine ze [0, 5] ?_
  refine zx fun _ => ?_
  refine zk 1 ?_
  obtain ⟨k2, he, h⟩ := bindE h
  refine rx_make (enc := eU8) (e := 5) (sz := 1) (bytes := 1) (nm := 8) (q := k2) (l := y1.1) (0 : Int) he (by kernel_rfl) (by kernel_rfl) (by kernel_rfl) rfl rfl rfl ?_
  clear he
  refine zk 1 ?_
  refine ze [0, 5, 6] ?_
  refine aw_join h (fun A j => ∀ v18 v19 v20, j v18 v19 v20 = some r → A (mk [(6, .c (.row 1))] [(0, .blk 90 [.lit (List.map eI64 v19), I v20]), (1, .vec 5 1 (List.map eU8 v18))] 2)) (fun v18 v19 v20 h => ?_) (fun j3 Aj3 hj3 h => ?_)
  refine aw_views (view_frzV 1 (T := 5) (sz := 1) (l := List.map eU8 v18) (L2 := [(6, .c (.lit (List.map eU8 v18)))]) (G2 := [(0, .blk 90 [.lit (List.map eI64 v19), I v20])]) (by kernel_rfl) (by kernel_rfl) (by kernel_rfl)) ?_
  refine zx fun _ => ?_
  refine zk 1 ?_
  refine zw (v := .c (Sx (bytesText v18))) [] (rdW_bytesText (ns := v18) (by kernel_rfl)) ?_
  refine zk 1 ?_
  refine ze [4] ?_
  cases h
  exact aw_ret zr
  refine za [0, 5, 6, 7] ?_
  refine aw_block ?_
  refine aw_loopJ (fun n s => ∃ v7 v8 v9 v10, Src_Word_L0 y1 j3 n v7 v8 v9 v10 = some r ∧ s = mk [(0, .c (.ptr 0 0)), (5, .c (I y1.1)), (6, .c (.row 1)), (7, .c (I v7))] [(0, .blk 90 [.lit (List.map eI64 v8), I v9]), (1, .vec 5 1 (List.map eU8 v10))] 2) n _ (zv [(0, 0), (8, 1)] [0, 5, 6, 7] 2) ⟨_, _, _, _, h, rfl⟩ (fun s ⟨v7, v8, v9, v10, h, _⟩ => nomatch h) ?_
  rintro n s ⟨v7, v8, v9, v10, h, rfl⟩
  rw [Src_Word_L0] at h
  refine aw_seq ?_
  refine za [0, 5, 6, 7, 16] ?_
  refine zi h (fun h => ?_) fun h => ?_
  refine aw_skip ?_
  refine aw_seq ?_
  refine aw_block ?_
  refine zy fun _ => ?_
  refine zk 3 ?_
  obtain ⟨y11, he, h⟩ := bindE h
  refine zo [(0, 0)] fok20 (Src_N_ok n _ _ y11 he) ?_
  clear he
  refine zk 2 ?_
  obtain ⟨k12, he, h⟩ := bindE h
  refine rx_rd (v := .c (.ptr 1 (k12 * 1))) (foot := [1]) (rd_rowA (enc := eU8) (l := v10) (n := 1) (sz := 1) (k := k12) (ix := v7) he (by kernel_rfl)) (by kernel_rfl) rfl rfl ?_
  have hb_k12 := inb_lt he; clear he
  obtain ⟨e13, he, h⟩ := bindE h
  refine rx_storeV (enc := eU8) (n := 1) (q := k12) (f := 0) (sz := 1) (T0 := 5) (lp := [U8 (IntKind.wrap .u8 (IntKind.wrap .i64 (97 + y11.1)))]) (l := v10) (e := e13) (e2 := (IntKind.wrap .u8 (IntKind.wrap .i64 (97 + y11.1)))) he (by kernel_rfl) (by simp only [List.length_cons, List.length_nil]; omega) (by kernel_rfl) (by kernel_rfl) rfl rfl ?_
  clear he
  refine x_last ?_
  refine aw_out ?_
  refine zb ?_
  exact via (zv [(0, 0), (1, 1)] [0, 5, 6, 7] 2) (⟨_, _, _, _, h, rfl⟩)
  exact aw_views (zv [(0, 0), (1, 1)] [6] 2) (aw_exit (hj3 _ _ _ h))
def Src_Like_L0 (p1 : GValue) (self_Src_Like : GSrc → GValue → Option (GValue × GSrc)) (j4 : List GValue → List Int → Int → Option (GValue × GSrc)) : Nat → Int → List Int → Int → List GValue → Option (GValue × GSrc)
  | 0, _, _, _, _ => none
  | n + 1, v18, v19, v20, v21 => (if (decide (v18 < (List.length p1.L : Int))) = true then (withJ (fun (v27 : List Int) (v28 : Int) (v29 : List GValue) => Src_Like_L0 p1 self_Src_Like j4 n (IntKind.wrap .i64 (v18 + 1)) v27 v28 v29) (fun (j22 : List Int → Int → List GValue → Option (GValue × GSrc)) => (Src_N n (GSrc.mk v19 v20) 3).bind fun (y23 : (Int × GSrc)) => (if (decide (y23.1 > 0)) = true then (idx p1.L v18).bind fun (e24 : GValue) => (self_Src_Like y23.2 e24).bind fun (y25 : (GValue × GSrc)) => (apd 56 v21 [y25.1]).bind fun (l26 : List GValue) => j22 y25.2.L y25.2.At l26 else j22 y23.2.L y23.2.At v21))) else j4 v21 v19 v20)
def Src_Like_body (self_Src_Like : GSrc → GValue → Option (GValue × GSrc)) (n : Nat) (p0 : GSrc) (p1 : GValue) : Option (GValue × GSrc) := (if (p1.Kind == 1) = true then (Src_Range n p0 (-3 : Int) 9).bind fun (y1 : (Int × GSrc)) => some ((GValue.mk 1 y1.1 (⟨#[]⟩ : ByteArray) ([] : List GValue)), y1.2) else (if (p1.Kind == 2) = true then (Src_N n p0 2).bind fun (y2 : (Int × GSrc)) => some ((GValue.mk 2 y2.1 (⟨#[]⟩ : ByteArray) ([] : List GValue)), y2.2) else (if (p1.Kind == 3) = true then (Src_Word n p0 4).bind fun (y3 : (ByteArray × GSrc)) => some ((GValue.mk 3 0 y3.1 ([] : List GValue)), y3.2) else (withJ (fun (v37 : List GValue) (v38 : List Int) (v39 : Int) => some ((GValue.mk 4 0 (⟨#[]⟩ : ByteArray) v37), (GSrc.mk v38 v39))) (fun (j4 : List GValue → List Int → Int → Option (GValue × GSrc)) => Src_Like_L0 p1 self_Src_Like j4 n 0 p0.L p0.At ([] : List GValue))))))
theorem Src_Like_body_ok (self_Src_Like : GSrc → GValue → Option (GValue × GSrc)) (ih_Src_Like : ∀ (p0 : GSrc) (p1 : GValue) (r : (GValue × GSrc)), self_Src_Like p0 p1 = some r → FnD E 84 1 [.c (.ptr 0 0), .agg [I p1.Kind, I p1.N, Sx p1.S, .lit (List.map eGValue p1.L)]] [(0, .blk 90 [.lit (List.map eI64 p0.L), I p0.At])] (.agg [I r.1.Kind, I r.1.N, Sx r.1.S, .lit (List.map eGValue r.1.L)]) [(0, .blk 90 [.lit (List.map eI64 r.2.L), I r.2.At])]) (n : Nat) (p0 : GSrc) (p1 : GValue) (r : (GValue × GSrc)) (h : Src_Like_body self_Src_Like n p0 p1 = some r) : FnD E 84 1 [.c (.ptr 0 0), .agg [I p1.Kind, I p1.N, Sx p1.S, .lit (List.map eGValue p1.L)]] [(0, .blk 90 [.lit (List.map eI64 p0.L), I p0.At])] (.agg [I r.1.Kind, I r.1.N, Sx r.1.S, .lit (List.map eGValue r.1.L)]) [(0, .blk 90 [.lit (List.map eI64 r.2.L), I r.2.At])] := by
  refine zfn Tryd.func84 rfl ?_
  unfold Src_Like_body at h
  refine za [0, 3, 4] ?_
  refine aw_seq ?_
  refine za [0, 3, 4, 8] ?_
  refine aw_block ?_
  refine za [0, 3, 4, 8, 9] ?_
  refine zi h (fun h => ?_) fun h => ?_
  refine zx fun _ => ?_
  refine zk 1 ?_
  obtain ⟨y1, he, h⟩ := bindE h
  refine zo [(0, 0)] fok21 (Src_Range_ok n _ _ _ y1 he) ?_
  clear he
  refine zk 2 ?_
  refine ze [4] ?_
  cases h
  exact aw_ret zr
  refine za [0, 3, 4, 8, 14] ?_
  refine zi h (fun h => ?_) fun h => ?_
  refine zx fun _ => ?_
  refine zk 1 ?_
  obtain ⟨y2, he, h⟩ := bindE h
  refine zo [(0, 0)] fok20 (Src_N_ok n _ _ y2 he) ?_
  clear he
  refine zk 2 ?_
  refine ze [4] ?_
  cases h
  exact aw_ret zr
  refine za [0, 3, 4, 19] ?_
  refine zi h (fun h => ?_) fun h => ?_
  refine zx fun _ => ?_
  refine zk 1 ?_
  obtain ⟨y3, he, h⟩ := bindE h
  refine zo [(0, 0)] fok83 (Src_Word_ok n _ _ y3 he) ?_
  clear he
  refine zk 2 ?_
  refine ze [4] ?_
  cases h
  exact aw_ret zr
  refine aw_skip ?_
  refine za [0, 3, 4, 5] ?_
  refine aw_join h (fun A j => ∀ v37 v38 v39, j v37 v38 v39 = some r → A (mk [(4, .c (.ptr 1 0)), (5, .c (.ptr 2 0))] [(0, .blk 90 [.lit (List.map eI64 v38), I v39]), (1, .blk 70 [I 0, I 0, Sx (⟨#[]⟩ : ByteArray), NilS]), (2, .blk 70 [I 4, I 0, Sx (⟨#[]⟩ : ByteArray), .app 3 (List.map eGValue v37)]), (3, .tok 70 4 (List.length v37))] 4)) (fun v37 v38 v39 h => ?_) (fun j4 Aj4 hj4 h => ?_)
  refine za [4] ?_
  cases h
  exact aw_ret zr
  refine za [0, 3, 4, 5, 6] ?_
  refine aw_block ?_
  refine aw_loopJ (fun n s => ∃ v18 v19 v20 v21, Src_Like_L0 p1 self_Src_Like j4 n v18 v19 v20 v21 = some r ∧ s = mk [(0, .c (.ptr 0 0)), (3, .c (.ptr 1 0)), (4, .c (.ptr 2 0)), (5, .c (.ptr 3 0)), (6, .c (I v18))] [(0, .blk 90 [.lit (List.map eI64 v19), I v20]), (1, .blk 70 [I p1.Kind, I p1.N, Sx p1.S, .lit (List.map eGValue p1.L)]), (2, .blk 70 [I 0, I 0, Sx (⟨#[]⟩ : ByteArray), NilS]), (3, .blk 70 [I 4, I 0, Sx (⟨#[]⟩ : ByteArray), .app 4 (List.map eGValue v21)]), (4, .tok 70 4 (List.length v21))] 5) n _ (Views.trans (view_nilC (n := 12) (T0 := 70) (l := [I 4, I 0, Sx (⟨#[]⟩ : ByteArray), NilS]) (G2 := [(0, .blk 90 [.lit (List.map eI64 p0.L), I p0.At]), (1, .blk 70 [I p1.Kind, I p1.N, Sx p1.S, .lit (List.map eGValue p1.L)]), (2, .blk 70 [I 0, I 0, Sx (⟨#[]⟩ : ByteArray), NilS]), (12, .blk 70 [I 4, I 0, Sx (⟨#[]⟩ : ByteArray), .app 15 (List.map eGValue ([] : List GValue))]), (15, .tok 70 4 (List.length ([] : List GValue)))]) (lim2 := 16) 3 70 4 (by kernel_rfl) (by kernel_rfl) (by kernel_rfl) (by kernel_rfl)) (zv [(0, 0), (1, 1), (2, 2), (12, 3), (15, 4)] [0, 3, 4, 5, 6] 5)) ⟨_, _, _, _, h, rfl⟩ (fun s ⟨v18, v19, v20, v21, h, _⟩ => nomatch h) ?_
  rintro n s ⟨v18, v19, v20, v21, h, rfl⟩
  rw [Src_Like_L0] at h
  refine aw_seq ?_
  refine zx fun _ => ?_
  refine zk 3 ?_
  refine zl eGValue p1.L ?_
  refine zk 1 ?_
  refine ze [0, 3, 4, 5, 6, 29] ?_
  refine zi h (fun h => ?_) fun h => ?_
  refine aw_skip ?_
  refine aw_join h (fun A j => ∀ v27 v28 v29, j v27 v28 v29 = some r → A (mk [(0, .c (.ptr 0 0)), (3, .c (.ptr 1 0)), (4, .c (.ptr 2 0)), (5, .c (.ptr 3 0)), (6, .c (I v18))] [(0, .blk 90 [.lit (List.map eI64 v27), I v28]), (1, .blk 70 [I p1.Kind, I p1.N, Sx p1.S, .lit (List.map eGValue p1.L)]), (2, .blk 70 [I 0, I 0, Sx (⟨#[]⟩ : ByteArray), NilS]), (3, .blk 70 [I 4, I 0, Sx (⟨#[]⟩ : ByteArray), .app 4 (List.map eGValue v29)]), (4, .tok 70 4 (List.length v29))] 5)) (fun v27 v28 v29 h => ?_) (fun j22 Aj22 hj22 h => ?_)
  refine aw_out ?_
  refine zb ?_
  exact via (zv [(0, 0), (1, 1), (2, 2), (3, 3), (4, 4)] [0, 3, 4, 5, 6] 5) (⟨_, _, _, _, h, rfl⟩)
  refine aw_block ?_
  refine zx fun _ => ?_
  refine zk 1 ?_
  obtain ⟨y23, he, h⟩ := bindE h
  refine zo [(0, 0)] fok20 (Src_N_ok n _ _ y23 he) ?_
  clear he
  refine zk 1 ?_
  refine ze [0, 3, 4, 5, 6, 34] ?_
  refine zi h (fun h => ?_) fun h => ?_
  refine aw_out ?_
  refine zdy [[], [0], [], [], [3], [], [4, 5, 3], [6, 4, 5, 3], [2, 7, 6, 4, 5, 3], [8, 2, 7, 6, 4, 5, 3], [1, 9, 8, 0, 2, 7, 6, 4, 5, 3], [0, 1, 2, 3, 4, 5, 6, 7, 8, 9, 10], [11, 10, 0, 1, 2, 3, 4, 5, 6, 7, 8, 9]] fun _ => ?_
  refine zk 6 ?_
  obtain ⟨e24, he, h⟩ := bindE h
  refine rx_rd (v := .c (.imm [I e24.Kind, I e24.N, Sx e24.S, .lit (List.map eGValue e24.L)])) (foot := []) (rd_idx (enc := eGValue) (sz := 4) (l := p1.L) (ix := v18) he (by kernel_rfl) (eGValue_eq e24) (by kernel_rfl)) (by kernel_rfl) rfl rfl ?_
  clear he
  refine zk 1 ?_
  obtain ⟨y25, he, h⟩ := bindE h
  refine zo [(0, 0)] fok84 (ih_Src_Like _ _ y25 he) ?_
  clear he
  refine rx_bs (e := 70) (sz := 4) (len := 1) (r := [I y25.1.Kind, I y25.1.N, Sx y25.1.S, .lit (List.map eGValue y25.1.L)]) (l' := List.map eGValue [y25.1]) (nm := 22) (by kernel_rfl) (by simp only [List.map_cons, List.map_nil, eGValue_eq]; kernel_rfl) (by kernel_rfl) (by kernel_rfl) rfl rfl rfl ?_
  obtain ⟨l26, he, h⟩ := bindE h
  refine rx_append (enc := eGValue) (l := v21) (els := [y25.1]) (r := l26) (old := some 4) (e := 70) (sz := 4) (bytes := 56) (k := (List.length v21)) (nm := 23) he (by kernel_rfl) (by kernel_rfl) (fun x => by rw [eGValue_eq]; rfl) (by kernel_rfl) (by kernel_rfl) rfl rfl rfl ?_
  clear he
  refine zk 2 ?_
  refine x_last ?_
  exact via (zv [(0, 0), (1, 1), (2, 2), (3, 3), (23, 4)] [0, 3, 4, 5, 6] 5) (hj22 _ _ _ h)
  exact aw_views (zv [(0, 0), (1, 1), (2, 2), (3, 3), (4, 4)] [0, 3, 4, 5, 6] 5) (aw_skip (hj22 _ _ _ h))
  exact aw_views (zv [(0, 0), (2, 1), (3, 2), (4, 3)] [4, 5] 4) (aw_exit (hj4 _ _ _ h))
def Src_Like : Nat → GSrc → GValue → Option (GValue × GSrc)
  | 0, _, _ => none
  | n + 1, p0, p1 => Src_Like_body (fun a0 a1 => Src_Like n a0 a1) n p0 p1
theorem Src_Like_ok (n : Nat) : (∀ (p0 : GSrc) (p1 : GValue) (r : (GValue × GSrc)), Src_Like n p0 p1 = some r → FnD E 84 1 [.c (.ptr 0 0), .agg [I p1.Kind, I p1.N, Sx p1.S, .lit (List.map eGValue p1.L)]] [(0, .blk 90 [.lit (List.map eI64 p0.L), I p0.At])] (.agg [I r.1.Kind, I r.1.N, Sx r.1.S, .lit (List.map eGValue r.1.L)]) [(0, .blk 90 [.lit (List.map eI64 r.2.L), I r.2.At])]) := by
  induction n with
  | zero => intro p0 p1 r h; rw [Src_Like] at h; cases h
  | succ n ih => intro p0 p1 r h; rw [Src_Like] at h; exact Src_Like_body_ok _ ih n _ _ r h
def Src_Value_L0 (y8 : (Int × GSrc)) (y9 : (GValue × GSrc)) (j7 : List GValue → List Int → Int → Option (GValue × GSrc)) : Nat → Int → List Int → Int → List GValue → Option (GValue × GSrc)
  | 0, _, _, _, _ => none
  | n + 1, v13, v14, v15, v16 => (if (decide (v13 < y8.1)) = true then (Src_Like n (GSrc.mk v14 v15) y9.1).bind fun (y17 : (GValue × GSrc)) => (apd 56 v16 [y17.1]).bind fun (l18 : List GValue) => Src_Value_L0 y8 y9 j7 n (IntKind.wrap .i64 (v13 + 1)) y17.2.L y17.2.At l18 else j7 v16 v14 v15)
def Src_Value_body (self_Src_Value : GSrc → Int → Option (GValue × GSrc)) (n : Nat) (p0 : GSrc) (p1 : Int) : Option (GValue × GSrc) := (withJ (fun (v26 : List Int) (v27 : Int) => (Src_N n (GSrc.mk v26 v27) (List.length [0, 1, 2, 3, (-1 : Int), 7, 10, 1099511627776, (-1099511627776 : Int), 1099511627775] : Int)).bind fun (y28 : (Int × GSrc)) => (idx [0, 1, 2, 3, (-1 : Int), 7, 10, 1099511627776, (-1099511627776 : Int), 1099511627775] y28.1).bind fun (e29 : Int) => some ((GValue.mk 1 e29 (⟨#[]⟩ : ByteArray) ([] : List GValue)), y28.2)) (fun (j1 : List Int → Int → Option (GValue × GSrc)) => (Src_N n p0 5).bind fun (y2 : (Int × GSrc)) => (if (y2.1 == 0) = true then (Src_N n y2.2 2).bind fun (y3 : (Int × GSrc)) => some ((GValue.mk 2 y3.1 (⟨#[]⟩ : ByteArray) ([] : List GValue)), y3.2) else (withJ (fun (v5 : Bool) => (if v5 = true then (Src_Word n y2.2 4).bind fun (y6 : (ByteArray × GSrc)) => some ((GValue.mk 3 0 y6.1 ([] : List GValue)), y6.2) else (if (y2.1 == 3) = true then (if (decide (p1 > 0)) = true then (withJ (fun (v23 : List GValue) (v24 : List Int) (v25 : Int) => some ((GValue.mk 4 0 (⟨#[]⟩ : ByteArray) v23), (GSrc.mk v24 v25))) (fun (j7 : List GValue → List Int → Int → Option (GValue × GSrc)) => (Src_N n y2.2 4).bind fun (y8 : (Int × GSrc)) => (if (decide (y8.1 > 0)) = true then (self_Src_Value y8.2 (IntKind.wrap .i64 (p1 - 1))).bind fun (y9 : (GValue × GSrc)) => (apd 56 ([] : List GValue) [y9.1]).bind fun (l10 : List GValue) => Src_Value_L0 y8 y9 j7 n 1 y9.2.L y9.2.At l10 else j7 ([] : List GValue) y8.2.L y8.2.At))) else j1 y2.2.L y2.2.At) else j1 y2.2.L y2.2.At))) (fun (j4 : Bool → Option (GValue × GSrc)) => (if (y2.1 == 1) = true then j4 (y2.1 == 1) else j4 (y2.1 == 2)))))))
theorem Src_Value_body_ok (self_Src_Value : GSrc → Int → Option (GValue × GSrc)) (ih_Src_Value : ∀ (p0 : GSrc) (p1 : Int) (r : (GValue × GSrc)), self_Src_Value p0 p1 = some r → FnD E 63 1 [.c (.ptr 0 0), .c (I p1)] [(0, .blk 90 [.lit (List.map eI64 p0.L), I p0.At])] (.agg [I r.1.Kind, I r.1.N, Sx r.1.S, .lit (List.map eGValue r.1.L)]) [(0, .blk 90 [.lit (List.map eI64 r.2.L), I r.2.At])]) (n : Nat) (p0 : GSrc) (p1 : Int) (r : (GValue × GSrc)) (h : Src_Value_body self_Src_Value n p0 p1 = some r) : FnD E 63 1 [.c (.ptr 0 0), .c (I p1)] [(0, .blk 90 [.lit (List.map eI64 p0.L), I p0.At])] (.agg [I r.1.Kind, I r.1.N, Sx r.1.S, .lit (List.map eGValue r.1.L)]) [(0, .blk 90 [.lit (List.map eI64 r.2.L), I r.2.At])] := by
  refine zfn Tryd.func63 rfl ?_
  unfold Src_Value_body at h
  refine za [0, 1, 4] ?_
  refine aw_join h (fun A j => ∀ v26 v27, j v26 v27 = some r → A (mk [(0, .c (.ptr 0 0)), (4, .c (.ptr 1 0))] [(0, .blk 90 [.lit (List.map eI64 v26), I v27]), (1, .blk 70 [I 0, I 0, Sx (⟨#[]⟩ : ByteArray), NilS])] 2)) (fun v26 v27 h => ?_) (fun j1 Aj1 hj1 h => ?_)
  refine za [0, 4, 9] ?_
  refine zx fun _ => ?_
  refine zk 3 ?_
  refine zl eI64 [0, 1, 2, 3, (-1 : Int), 7, 10, 1099511627776, (-1099511627776 : Int), 1099511627775] ?_
  obtain ⟨y28, he, h⟩ := bindE h
  refine zo [(0, 0)] fok20 (Src_N_ok n _ _ y28 he) ?_
  clear he
  obtain ⟨e29, he, h⟩ := bindE h
  refine zd eI64 he ?_
  clear he
  refine zk 3 ?_
  refine ze [4] ?_
  cases h
  exact aw_ret zr
  refine zx fun _ => ?_
  refine zk 1 ?_
  obtain ⟨y2, he, h⟩ := bindE h
  refine zo [(0, 0)] fok20 (Src_N_ok n _ _ y2 he) ?_
  clear he
  refine ze [0, 1, 4, 11] ?_
  refine aw_block ?_
  refine za [0, 1, 4, 11, 12] ?_
  refine zi h (fun h => ?_) fun h => ?_
  refine zx fun _ => ?_
  refine zk 1 ?_
  obtain ⟨y3, he, h⟩ := bindE h
  refine zo [(0, 0)] fok20 (Src_N_ok n _ _ y3 he) ?_
  clear he
  refine zk 2 ?_
  refine ze [4] ?_
  cases h
  exact aw_ret zr
  refine aw_join h (fun A j => ∀ v5, j v5 = some r → A (mk [(0, .c (.ptr 0 0)), (1, .c (I p1)), (4, .c (.ptr 1 0)), (11, .c (I y2.1)), (17, .c (Bo v5))] [(0, .blk 90 [.lit (List.map eI64 y2.2.L), I y2.2.At]), (1, .blk 70 [I 0, I 0, Sx (⟨#[]⟩ : ByteArray), NilS])] 2)) (fun v5 h => ?_) (fun j4 Aj4 hj4 h => ?_)
  refine zi h (fun h => ?_) fun h => ?_
  refine zx fun _ => ?_
  refine zk 1 ?_
  obtain ⟨y6, he, h⟩ := bindE h
  refine zo [(0, 0)] fok83 (Src_Word_ok n _ _ y6 he) ?_
  clear he
  refine zk 2 ?_
  refine ze [4] ?_
  cases h
  exact aw_ret zr
  refine za [0, 1, 4, 23] ?_
  refine zi h (fun h => ?_) fun h => ?_
  refine za [0, 1, 4, 26] ?_
  refine zi h (fun h => ?_) fun h => ?_
  refine za [0, 1, 4, 5] ?_
  refine aw_join h (fun A j => ∀ v23 v24 v25, j v23 v24 v25 = some r → A (mk [(4, .c (.ptr 1 0)), (5, .c (.ptr 2 0))] [(0, .blk 90 [.lit (List.map eI64 v24), I v25]), (1, .blk 70 [I 0, I 0, Sx (⟨#[]⟩ : ByteArray), NilS]), (2, .blk 70 [I 4, I 0, Sx (⟨#[]⟩ : ByteArray), .app 3 (List.map eGValue v23)]), (3, .tok 70 4 (List.length v23))] 4)) (fun v23 v24 v25 h => ?_) (fun j7 Aj7 hj7 h => ?_)
  refine za [4] ?_
  cases h
  exact aw_ret zr
  refine zx fun _ => ?_
  refine zk 1 ?_
  obtain ⟨y8, he, h⟩ := bindE h
  refine zo [(0, 0)] fok20 (Src_N_ok n _ _ y8 he) ?_
  clear he
  refine zk 1 ?_
  refine ze [0, 1, 4, 5, 6] ?_
  refine za [0, 1, 4, 5, 6, 31] ?_
  refine zi h (fun h => ?_) fun h => ?_
  refine zx fun _ => ?_
  refine zk 3 ?_
  obtain ⟨y9, he, h⟩ := bindE h
  refine zo [(0, 0)] fok63 (ih_Src_Value _ _ y9 he) ?_
  clear he
  refine zk 2 ?_
  refine zee [0, 4, 5, 6, 7] (L2 := [(0, .c (.ptr 0 0)), (4, .c (.ptr 1 0)), (5, .c (.ptr 7 0)), (6, .c (I y8.1)), (7, .c (.ptr 18 0))]) (G2 := [(0, .blk 90 [.lit (List.map eI64 y9.2.L), I y9.2.At]), (1, .blk 70 [I 0, I 0, Sx (⟨#[]⟩ : ByteArray), NilS]), (7, .blk 70 [I 4, I 0, Sx (⟨#[]⟩ : ByteArray), NilS]), (18, .blk 70 [I y9.1.Kind, I y9.1.N, Sx y9.1.S, .lit (List.map eGValue y9.1.L)])]) 20 ?_
  refine zx fun _ => ?_
  refine zk 3 ?_
  refine rx_bs (e := 70) (sz := 4) (len := 1) (r := [I y9.1.Kind, I y9.1.N, Sx y9.1.S, .lit (List.map eGValue y9.1.L)]) (l' := List.map eGValue [y9.1]) (nm := 23) (by kernel_rfl) (by simp only [List.map_cons, List.map_nil, eGValue_eq]; kernel_rfl) (by kernel_rfl) (by kernel_rfl) rfl rfl rfl ?_
  obtain ⟨l10, he, h⟩ := bindE h
  refine rx_append (enc := eGValue) (l := ([] : List GValue)) (els := [y9.1]) (r := l10) (old := none) (e := 70) (sz := 4) (bytes := 56) (k := 0) (nm := 24) he (by kernel_rfl) (by kernel_rfl) (fun x => by rw [eGValue_eq]; rfl) (by kernel_rfl) (by kernel_rfl) rfl rfl rfl ?_
  clear he
  refine zk 2 ?_
  refine ze [0, 4, 5, 6, 7] ?_
  refine za [0, 4, 5, 6, 7, 8] ?_
  refine aw_block ?_
  refine aw_loopJ (fun n s => ∃ v13 v14 v15 v16, Src_Value_L0 y8 y9 j7 n v13 v14 v15 v16 = some r ∧ s = mk [(0, .c (.ptr 0 0)), (4, .c (.ptr 1 0)), (5, .c (.ptr 2 0)), (6, .c (I y8.1)), (7, .c (.ptr 3 0)), (8, .c (I v13))] [(0, .blk 90 [.lit (List.map eI64 v14), I v15]), (1, .blk 70 [I 0, I 0, Sx (⟨#[]⟩ : ByteArray), NilS]), (2, .blk 70 [I 4, I 0, Sx (⟨#[]⟩ : ByteArray), .app 4 (List.map eGValue v16)]), (3, .blk 70 [I y9.1.Kind, I y9.1.N, Sx y9.1.S, .lit (List.map eGValue y9.1.L)]), (4, .tok 70 4 (List.length v16))] 5) n _ (zv [(0, 0), (1, 1), (7, 2), (18, 3), (24, 4)] [0, 4, 5, 6, 7, 8] 5) ⟨_, _, _, _, h, rfl⟩ (fun s ⟨v13, v14, v15, v16, h, _⟩ => nomatch h) ?_
  rintro n s ⟨v13, v14, v15, v16, h, rfl⟩
  rw [Src_Value_L0] at h
  refine aw_seq ?_
  refine za [0, 4, 5, 6, 7, 8, 44] ?_
  refine zi h (fun h => ?_) fun h => ?_
  refine aw_skip ?_
  refine aw_seq ?_
  refine aw_block ?_
  refine zdy [[], [0], [], [], [2, 3], [4, 2, 3], [1, 5, 4, 0, 2, 3], [0, 1, 2, 3, 4, 5, 6], [7, 6, 0, 1, 2, 3, 4, 5]] fun _ => ?_
  refine zk 4 ?_
  obtain ⟨y17, he, h⟩ := bindE h
  refine zo [(0, 0)] fok84 (Src_Like_ok n _ _ y17 he) ?_
  clear he
  refine rx_bs (e := 70) (sz := 4) (len := 1) (r := [I y17.1.Kind, I y17.1.N, Sx y17.1.S, .lit (List.map eGValue y17.1.L)]) (l' := List.map eGValue [y17.1]) (nm := 13) (by kernel_rfl) (by simp only [List.map_cons, List.map_nil, eGValue_eq]; kernel_rfl) (by kernel_rfl) (by kernel_rfl) rfl rfl rfl ?_
  obtain ⟨l18, he, h⟩ := bindE h
  refine rx_append (enc := eGValue) (l := v16) (els := [y17.1]) (r := l18) (old := some 4) (e := 70) (sz := 4) (bytes := 56) (k := (List.length v16)) (nm := 14) he (by kernel_rfl) (by kernel_rfl) (fun x => by rw [eGValue_eq]; rfl) (by kernel_rfl) (by kernel_rfl) rfl rfl rfl ?_
  clear he
  refine zk 2 ?_
  refine x_last ?_
  refine aw_out ?_
  refine zb ?_
  exact via (zv [(0, 0), (1, 1), (2, 2), (3, 3), (14, 4)] [0, 4, 5, 6, 7, 8] 5) (⟨_, _, _, _, h, rfl⟩)
  exact aw_views (zv [(0, 0), (1, 1), (2, 2), (4, 3)] [4, 5] 4) (aw_exit (hj7 _ _ _ h))
  exact aw_views (Views.trans (view_nilC (n := 7) (T0 := 70) (l := [I 4, I 0, Sx (⟨#[]⟩ : ByteArray), NilS]) (G2 := [(0, .blk 90 [.lit (List.map eI64 y8.2.L), I y8.2.At]), (1, .blk 70 [I 0, I 0, Sx (⟨#[]⟩ : ByteArray), NilS]), (7, .blk 70 [I 4, I 0, Sx (⟨#[]⟩ : ByteArray), .app 14 (List.map eGValue ([] : List GValue))]), (14, .tok 70 4 (List.length ([] : List GValue)))]) (lim2 := 15) 3 70 4 (by kernel_rfl) (by kernel_rfl) (by kernel_rfl) (by kernel_rfl)) (zv [(0, 0), (1, 1), (7, 2), (14, 3)] [4, 5] 4)) (aw_skip (hj7 _ _ _ h))
  exact aw_views (zv [(0, 0), (1, 1)] [0, 4] 2) (aw_skip (hj1 _ _ h))
  exact aw_views (zv [(0, 0), (1, 1)] [0, 4] 2) (aw_skip (hj1 _ _ h))
  refine za [0, 1, 4, 11, 17] ?_
  refine zi h (fun h => ?_) fun h => ?_
  exact aw_views (zv [(0, 0), (1, 1)] [0, 1, 4, 11, 17] 2) (aw_skip (hj4 _ h))
  refine aw_out ?_
  refine zb ?_
  exact via (zv [(0, 0), (1, 1)] [0, 1, 4, 11, 17] 2) (hj4 _ h)
def Src_Value : Nat → GSrc → Int → Option (GValue × GSrc)
  | 0, _, _ => none
  | n + 1, p0, p1 => Src_Value_body (fun a0 a1 => Src_Value n a0 a1) n p0 p1
theorem Src_Value_ok (n : Nat) : (∀ (p0 : GSrc) (p1 : Int) (r : (GValue × GSrc)), Src_Value n p0 p1 = some r → FnD E 63 1 [.c (.ptr 0 0), .c (I p1)] [(0, .blk 90 [.lit (List.map eI64 p0.L), I p0.At])] (.agg [I r.1.Kind, I r.1.N, Sx r.1.S, .lit (List.map eGValue r.1.L)]) [(0, .blk 90 [.lit (List.map eI64 r.2.L), I r.2.At])]) := by
  induction n with
  | zero => intro p0 p1 r h; rw [Src_Value] at h; cases h
  | succ n ih => intro p0 p1 r h; rw [Src_Value] at h; exact Src_Value_body_ok _ ih n _ _ r h
end Go.Proofs.YtojkihhnioeggaaDoor.S
