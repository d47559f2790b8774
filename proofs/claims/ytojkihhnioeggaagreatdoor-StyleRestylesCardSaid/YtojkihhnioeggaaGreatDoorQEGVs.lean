import Derived.Test.YtojkihhnioeggaaGreatDoorQEGX
import Derived.Test.YtojkihhnioeggaaGreatDoorQEBE
import Derived.Shelf.Unicode.ValidAny
set_option linter.unusedVariables false
namespace Go.Proofs.YtojkihhnioeggaaGreatDoor.S
open Go Go.Bm Go.Shelf Go.RowKit
def Dp : Ren := ⟨fun | 196 => 151 | 259 => 154 | n => n, fun | 0 => 0 | 3 => 3 | 4 => 4 | 5 => 5 | 9 => 9 | 12 => 12 | 46 => 182 | 53 => 208 | 119 => 204 | 138 => 206 | 139 => 207 | n => n, fun | 3 => 1 | 4 => 2 | n => n⟩
theorem laysV : Lays.n196 Tryz.prog Dp := {
 mixed := by kernel_rfl
 f196 := Tryz.func151.trans (congrArg some (by kernel_rfl))
 f259 := Tryz.func154.trans (congrArg some (by kernel_rfl))
 t0 := by kernel_rfl
 a0 := fun w => by kernel_rfl
 z0 := fun w => by kernel_rfl
 v0 := fun w => by kernel_rfl
 t3 := by kernel_rfl
 a3 := fun w => by kernel_rfl
 z3 := fun w => by kernel_rfl
 v3 := fun w => by kernel_rfl
 t4 := by kernel_rfl
 a4 := fun w => by kernel_rfl
 z4 := fun w => by kernel_rfl
 v4 := fun w => by kernel_rfl
 t5 := by kernel_rfl
 a5 := fun w => by kernel_rfl
 z5 := fun w => by kernel_rfl
 v5 := fun w => by kernel_rfl
 t9 := by kernel_rfl
 a9 := fun w => by kernel_rfl
 z9 := fun w => by kernel_rfl
 v9 := fun w => by kernel_rfl
 t12 := by kernel_rfl
 a12 := fun w => by kernel_rfl
 z12 := fun w => by kernel_rfl
 v12 := fun w => by kernel_rfl
 t46 := by kernel_rfl
 a46 := fun w => by kernel_rfl
 z46 := fun w => by kernel_rfl
 v46 := fun w => by kernel_rfl
 t53 := by kernel_rfl
 a53 := fun w => by kernel_rfl
 z53 := fun w => by kernel_rfl
 v53 := fun w => by kernel_rfl
 t119 := by kernel_rfl
 a119 := fun w => by kernel_rfl
 z119 := fun w => by kernel_rfl
 t138 := by kernel_rfl
 a138 := fun w => by kernel_rfl
 z138 := fun w => by kernel_rfl
 v138 := fun w => by kernel_rfl
 t139 := by kernel_rfl
 a139 := fun w => by kernel_rfl
 z139 := fun w => by kernel_rfl
 v139 := fun w => by kernel_rfl
 g3 := by kernel_rfl
 g4 := by kernel_rfl
}
theorem Od {W : World} {μ : cL} (hi : fQ μ W) (hg : E.globOk μ) (g : Nat) (l : List CV) (h : Vd g = some l) (j : Nat) (v : Value) (hj : l[j]? = some (.v v)) : W.cell? ⟨g, j, none⟩ = some v := Xz hi (hg g l h) j v hj
theorem Ta : ∀ c, c < 256 → (List.flatten (List.map Ye iW))[c]? = some (.v (.int .u8 (Lib.firstT c))) := by
 have h : (List.flatten (List.map Ye iW)) = (List.range 256).map fun c => CV.v (.int .u8 (Lib.firstT c)) := by kernel_rfl
 intro c hc
 rw [h, List.getElem?_map, List.getElem?_range hc]
 rfl
theorem Po : ∀ i, i < 16 → (List.flatten (List.map kL dO))[2 * i]? = some (.v (.int .u8 (Lib.accLo i))) ∧ (List.flatten (List.map kL dO))[2 * i + 1]? = some (.v (.int .u8 (Lib.accHi i))) := by
 have h : (List.flatten (List.map kL dO)) = (List.range 16).flatMap fun i => [CV.v (.int .u8 (Lib.accLo i)), CV.v (.int .u8 (Lib.accHi i))] := by kernel_rfl
 intro i hi
 rw [h]
 rcases i with _ | _ | _ | _ | _ | _ | _ | _ | _ | _ | _ | _ | _ | _ | _ | _ | i
 iterate 16 exact ⟨by kernel_rfl, by kernel_rfl⟩
 omega
theorem tabs_ok {W : World} {μ : cL} (hi : fQ μ W) (hg : E.globOk μ) : Lib.Utf8Tabs (Dp.g 3) (Dp.g 4) W :=
 ⟨fun c hc => Od hi hg 1 _ rfl c _ (Ta c hc), fun i h => ⟨Od hi hg 2 _ rfl (2 * i) _ (Po i h).1, Od hi hg 2 _ rfl (2 * i + 1) _ (Po i h).2⟩⟩
def utf8_ValidString (n : Nat) (p0 : ByteArray) : Option Bool := if p0.size ≤ 9223372036854775807 then some (Lib.validD p0.data.toList) else none
theorem zC (n : Nat) (p0 : ByteArray) (r : Bool) (h : utf8_ValidString n p0 = some r) : dC E 151 0 [.c (Sx p0)] [] (.c (Bo r)) [] := by
 unfold utf8_ValidString at h
 split at h
 ·rename_i hs
  cases h
  exact fnD_lib (vs := [.string p0]) fun μ W hi hg => Any.utf8_ValidString laysV p0 W hs (tabs_ok hi hg)
 ·cases h
end Go.Proofs.YtojkihhnioeggaaGreatDoor.S
