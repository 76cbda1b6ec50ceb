/- What Go functions of the program come to: a Lean function and its contract for each. Written by a program of this session over the kit's printer, some contracts by hand. -/
import Derived.Test.YtkkammncpkgodaaP0
import Derived.Test.YtkkammncpkgodaaP5
import Derived.Test.YtkkammncpkgodaaP7
import Derived.Test.YtkkammncpkgodaaP8
import Derived.Test.YtkkammncpkgodaaP10
import Derived.Test.YtkkammncpkgodaaP12
import Derived.Test.YtkkammncpkgodaaP21
import Derived.Test.YtkkammncpkgodaaP22
namespace Go.Proofs.Ytkkammncpkgodaa.P
open Go.RowKit Go.Proofs.YtkkammncpkgodaaW.PrintWords Go.Proofs.YtkkammncpkgodaaW.PrintLast Go.Proofs.YtkkammncpkgodaaW.PrintMore
attribute [local go_sem] max2_int min2_int max_two min_two max_three min_three max_four min_four   -- for this text's walks alone
set_option linter.unusedVariables false
set_option linter.unusedSimpArgs false

/-! ### loesslaw02_RlpWrites: function 7 -/
mutual
def loesslaw02_RlpWrites.j0 : Nat → ByteArray → List ByteArray → Bool → Bool → ByteArray → Option (Bool)
  | 0, _, _, _, _, _ => none
  | k + 1, x1, x2, x7, x306000, x306001 => loesslaw02_RlpWrites.l0 k x1 x2 x7 ([] : List ByteArray) (⟨#[]⟩ : ByteArray) 0 x306000 x306001
def loesslaw02_RlpWrites.l0 : Nat → ByteArray → List ByteArray → Bool → List ByteArray → ByteArray → Int → Bool → ByteArray → Option (Bool)
  | 0, _, _, _, _, _, _, _, _ => none
  | k + 1, x1, x2, x7, x8, x9, x10, x306000, x306001 => if x10 < (x2.length : Int) then (loesslaw02_RlpWrites.j2 k x1 x2 x7 x8 x9 x10 (decide (x10 < 50)) x306000 x306001) else (loesslaw02_RlpWrites.j2 k x1 x2 x7 x8 x9 x10 false x306000 x306001)
def loesslaw02_RlpWrites.j2 : Nat → ByteArray → List ByteArray → Bool → List ByteArray → ByteArray → Int → Bool → Bool → ByteArray → Option (Bool)
  | 0, _, _, _, _, _, _, _, _, _ => none
  | k + 1, x1, x2, x7, x8, x9, x10, x32, x306000, x306001 => if x32 = true then (if 0 ≤ x10 then (if x10 < (x2.length : Int) then (if ((rdOf ByteArray.empty x2 x10).size : Int) ≤ 1000 then (if x8.length < 8796093022208 then (if x9.size + (rdOf ByteArray.empty x2 x10).size ≤ 9223372036854775807 then (loesslaw02_RlpWrites.l0 k x1 x2 x7 (x8 ++ [rdOf ByteArray.empty x2 x10]) (x9 ++ (rdOf ByteArray.empty x2 x10)) (wrap64 (x10 + 1)) x306000 x306001) else (none)) else (none)) else (loesslaw02_RlpWrites.l0 k x1 x2 x7 x8 x9 (wrap64 (x10 + 1)) x306000 x306001)) else (none)) else (none)) else ((rlp_Encode.f k x306000 x306001 ([] : List (S25))).bind fun bt314 => ((loessref02_Encode.f k x306000 x306001 ([] : List (S25))).bind fun bt316 => (if x7 = true then (if bt314.1.toList = bt316.1.toList then (if bt314.2 = bt316.2 then ((rlp_Bytes.f k x1).bind fun t318 => ((loessref02_Bytes.f k x1).bind fun t319 => (if t318.toList = t319.toList then ((rlp_List.f k x8).bind fun t320 => ((loessref02_List.f k x9).bind fun t321 => (some (t320.toList == t321.toList)))) else (none)))) else (none)) else (none)) else (none))))
def loesslaw02_RlpWrites.j3 : Nat → ByteArray → List ByteArray → Bool → Bool → ByteArray → List (S25) → Option (Bool)
  | 0, _, _, _, _, _, _ => none
  | k + 1, x1, x2, x7, x306000, x306001, x306002 => loesslaw02_RlpWrites.l100 k x1 x2 x7 ([] : List ByteArray) (⟨#[]⟩ : ByteArray) 0 x306000 x306001 x306002
def loesslaw02_RlpWrites.l100 : Nat → ByteArray → List ByteArray → Bool → List ByteArray → ByteArray → Int → Bool → ByteArray → List (S25) → Option (Bool)
  | 0, _, _, _, _, _, _, _, _, _ => none
  | k + 1, x1, x2, x7, x8, x9, x10, x306000, x306001, x306002 => if x10 < (x2.length : Int) then (loesslaw02_RlpWrites.j5 k x1 x2 x7 x8 x9 x10 (decide (x10 < 50)) x306000 x306001 x306002) else (loesslaw02_RlpWrites.j5 k x1 x2 x7 x8 x9 x10 false x306000 x306001 x306002)
def loesslaw02_RlpWrites.j5 : Nat → ByteArray → List ByteArray → Bool → List ByteArray → ByteArray → Int → Bool → Bool → ByteArray → List (S25) → Option (Bool)
  | 0, _, _, _, _, _, _, _, _, _, _ => none
  | k + 1, x1, x2, x7, x8, x9, x10, x32, x306000, x306001, x306002 => if x32 = true then (if 0 ≤ x10 then (if x10 < (x2.length : Int) then (if ((rdOf ByteArray.empty x2 x10).size : Int) ≤ 1000 then (if x8.length < 8796093022208 then (if x9.size + (rdOf ByteArray.empty x2 x10).size ≤ 9223372036854775807 then (loesslaw02_RlpWrites.l100 k x1 x2 x7 (x8 ++ [rdOf ByteArray.empty x2 x10]) (x9 ++ (rdOf ByteArray.empty x2 x10)) (wrap64 (x10 + 1)) x306000 x306001 x306002) else (none)) else (none)) else (loesslaw02_RlpWrites.l100 k x1 x2 x7 x8 x9 (wrap64 (x10 + 1)) x306000 x306001 x306002)) else (none)) else (none)) else ((rlp_Encode.f k x306000 x306001 x306002).bind fun bt328 => ((loessref02_Encode.f k x306000 x306001 x306002).bind fun bt330 => (if x7 = true then (if bt328.1.toList = bt330.1.toList then (if bt328.2 = bt330.2 then ((rlp_Bytes.f k x1).bind fun t332 => ((loessref02_Bytes.f k x1).bind fun t333 => (if t332.toList = t333.toList then ((rlp_List.f k x8).bind fun t334 => ((loessref02_List.f k x9).bind fun t335 => (some (t334.toList == t335.toList)))) else (none)))) else (none)) else (none)) else (none))))
end
def loesslaw02_RlpWrites.f (k : Nat) (a0_0 : Bool) (a0_1 : ByteArray) (l0_2 : List (S25)) (a1 : ByteArray) (l2 : List ByteArray) : Option (Bool) := (loesslaw02_awake.f).bind fun t306 => ((loessref02_Nodes.f k a0_0 a0_1 l0_2 2000).bind fun t307 => (if t307 > 2000 then (if (a1.size : Int) > 5000 then (if 0 ≤ 5000 then (if 5000 ≤ (a1.size : Int) then (loesslaw02_RlpWrites.j0 k (a1.extract 0 5000) l2 t306 false (⟨#[]⟩ : ByteArray)) else (none)) else (none)) else (loesslaw02_RlpWrites.j0 k a1 l2 t306 false (⟨#[]⟩ : ByteArray))) else (if (a1.size : Int) > 5000 then (if 0 ≤ 5000 then (if 5000 ≤ (a1.size : Int) then (loesslaw02_RlpWrites.j3 k (a1.extract 0 5000) l2 t306 a0_0 a0_1 l0_2) else (none)) else (none)) else (loesslaw02_RlpWrites.j3 k a1 l2 t306 a0_0 a0_1 l0_2))))
theorem loesslaw02_RlpWrites.mono_l : ∀ k, (∀ y0 y1 y2 y3 y4, LeO (loesslaw02_RlpWrites.j0 k y0 y1 y2 y3 y4) (loesslaw02_RlpWrites.j0 (k + 1) y0 y1 y2 y3 y4)) ∧ (∀ y0 y1 y2 y3 y4 y5 y6 y7, LeO (loesslaw02_RlpWrites.l0 k y0 y1 y2 y3 y4 y5 y6 y7) (loesslaw02_RlpWrites.l0 (k + 1) y0 y1 y2 y3 y4 y5 y6 y7)) ∧ (∀ y0 y1 y2 y3 y4 y5 y6 y7 y8, LeO (loesslaw02_RlpWrites.j2 k y0 y1 y2 y3 y4 y5 y6 y7 y8) (loesslaw02_RlpWrites.j2 (k + 1) y0 y1 y2 y3 y4 y5 y6 y7 y8)) ∧ (∀ y0 y1 y2 y3 y4 y5, LeO (loesslaw02_RlpWrites.j3 k y0 y1 y2 y3 y4 y5) (loesslaw02_RlpWrites.j3 (k + 1) y0 y1 y2 y3 y4 y5)) ∧ (∀ y0 y1 y2 y3 y4 y5 y6 y7 y8, LeO (loesslaw02_RlpWrites.l100 k y0 y1 y2 y3 y4 y5 y6 y7 y8) (loesslaw02_RlpWrites.l100 (k + 1) y0 y1 y2 y3 y4 y5 y6 y7 y8)) ∧ (∀ y0 y1 y2 y3 y4 y5 y6 y7 y8 y9, LeO (loesslaw02_RlpWrites.j5 k y0 y1 y2 y3 y4 y5 y6 y7 y8 y9) (loesslaw02_RlpWrites.j5 (k + 1) y0 y1 y2 y3 y4 y5 y6 y7 y8 y9))
  | 0 => ⟨fun _ _ _ _ _ r h => by simp [loesslaw02_RlpWrites.j0] at h, fun _ _ _ _ _ _ _ _ r h => by simp [loesslaw02_RlpWrites.l0] at h, fun _ _ _ _ _ _ _ _ _ r h => by simp [loesslaw02_RlpWrites.j2] at h, fun _ _ _ _ _ _ r h => by simp [loesslaw02_RlpWrites.j3] at h, fun _ _ _ _ _ _ _ _ _ r h => by simp [loesslaw02_RlpWrites.l100] at h, fun _ _ _ _ _ _ _ _ _ _ r h => by simp [loesslaw02_RlpWrites.j5] at h⟩
  | k + 1 => by
    obtain ⟨ih0, ih1, ih2, ih3, ih4, ih5⟩ := loesslaw02_RlpWrites.mono_l k
    refine ⟨?_, ?_, ?_, ?_, ?_, ?_⟩
    · intro y0 y1 y2 y3 y4
      unfold loesslaw02_RlpWrites.j0
      repeat' first
      | (with_reducible exact ih0 _ _ _ _ _)
      | (with_reducible exact ih1 _ _ _ _ _ _ _ _)
      | (with_reducible exact ih2 _ _ _ _ _ _ _ _ _)
      | (with_reducible exact ih3 _ _ _ _ _ _)
      | (with_reducible exact ih4 _ _ _ _ _ _ _ _ _)
      | (with_reducible exact ih5 _ _ _ _ _ _ _ _ _ _)
      | (with_reducible exact loessref02_Bytes.mono _ _)
      | (with_reducible exact loessref02_Encode.mono _ _ _ _)
      | (with_reducible exact loessref02_List.mono _ _)
      | (with_reducible exact loessref02_Nodes.mono _ _ _ _ _)
      | (with_reducible exact rlp_Bytes.mono _ _)
      | (with_reducible exact rlp_Encode.mono _ _ _ _)
      | (with_reducible exact rlp_List.mono _ _)
      | (with_reducible exact LeO.refl _)
      | (with_reducible exact LeO.none _)
      | (with_reducible refine LeO.ite ?_ ?_)
      | (with_reducible refine LeO.bind ?_ (fun _ => ?_))
      | exact ih0 _ _ _ _ _
      | exact ih1 _ _ _ _ _ _ _ _
      | exact ih2 _ _ _ _ _ _ _ _ _
      | exact ih3 _ _ _ _ _ _
      | exact ih4 _ _ _ _ _ _ _ _ _
      | exact ih5 _ _ _ _ _ _ _ _ _ _
      | exact loessref02_Bytes.mono _ _
      | exact loessref02_Encode.mono _ _ _ _
      | exact loessref02_List.mono _ _
      | exact loessref02_Nodes.mono _ _ _ _ _
      | exact rlp_Bytes.mono _ _
      | exact rlp_Encode.mono _ _ _ _
      | exact rlp_List.mono _ _
      | exact LeO.none _
      | refine LeO.ite ?_ ?_
      | refine LeO.bind ?_ (fun _ => ?_)
    · intro y0 y1 y2 y3 y4 y5 y6 y7
      unfold loesslaw02_RlpWrites.l0
      repeat' first
      | (with_reducible exact ih0 _ _ _ _ _)
      | (with_reducible exact ih1 _ _ _ _ _ _ _ _)
      | (with_reducible exact ih2 _ _ _ _ _ _ _ _ _)
      | (with_reducible exact ih3 _ _ _ _ _ _)
      | (with_reducible exact ih4 _ _ _ _ _ _ _ _ _)
      | (with_reducible exact ih5 _ _ _ _ _ _ _ _ _ _)
      | (with_reducible exact loessref02_Bytes.mono _ _)
      | (with_reducible exact loessref02_Encode.mono _ _ _ _)
      | (with_reducible exact loessref02_List.mono _ _)
      | (with_reducible exact loessref02_Nodes.mono _ _ _ _ _)
      | (with_reducible exact rlp_Bytes.mono _ _)
      | (with_reducible exact rlp_Encode.mono _ _ _ _)
      | (with_reducible exact rlp_List.mono _ _)
      | (with_reducible exact LeO.refl _)
      | (with_reducible exact LeO.none _)
      | (with_reducible refine LeO.ite ?_ ?_)
      | (with_reducible refine LeO.bind ?_ (fun _ => ?_))
      | exact ih0 _ _ _ _ _
      | exact ih1 _ _ _ _ _ _ _ _
      | exact ih2 _ _ _ _ _ _ _ _ _
      | exact ih3 _ _ _ _ _ _
      | exact ih4 _ _ _ _ _ _ _ _ _
      | exact ih5 _ _ _ _ _ _ _ _ _ _
      | exact loessref02_Bytes.mono _ _
      | exact loessref02_Encode.mono _ _ _ _
      | exact loessref02_List.mono _ _
      | exact loessref02_Nodes.mono _ _ _ _ _
      | exact rlp_Bytes.mono _ _
      | exact rlp_Encode.mono _ _ _ _
      | exact rlp_List.mono _ _
      | exact LeO.none _
      | refine LeO.ite ?_ ?_
      | refine LeO.bind ?_ (fun _ => ?_)
    · intro y0 y1 y2 y3 y4 y5 y6 y7 y8
      unfold loesslaw02_RlpWrites.j2
      repeat' first
      | (with_reducible exact ih0 _ _ _ _ _)
      | (with_reducible exact ih1 _ _ _ _ _ _ _ _)
      | (with_reducible exact ih2 _ _ _ _ _ _ _ _ _)
      | (with_reducible exact ih3 _ _ _ _ _ _)
      | (with_reducible exact ih4 _ _ _ _ _ _ _ _ _)
      | (with_reducible exact ih5 _ _ _ _ _ _ _ _ _ _)
      | (with_reducible exact loessref02_Bytes.mono _ _)
      | (with_reducible exact loessref02_Encode.mono _ _ _ _)
      | (with_reducible exact loessref02_List.mono _ _)
      | (with_reducible exact loessref02_Nodes.mono _ _ _ _ _)
      | (with_reducible exact rlp_Bytes.mono _ _)
      | (with_reducible exact rlp_Encode.mono _ _ _ _)
      | (with_reducible exact rlp_List.mono _ _)
      | (with_reducible exact LeO.refl _)
      | (with_reducible exact LeO.none _)
      | (with_reducible refine LeO.ite ?_ ?_)
      | (with_reducible refine LeO.bind ?_ (fun _ => ?_))
      | exact ih0 _ _ _ _ _
      | exact ih1 _ _ _ _ _ _ _ _
      | exact ih2 _ _ _ _ _ _ _ _ _
      | exact ih3 _ _ _ _ _ _
      | exact ih4 _ _ _ _ _ _ _ _ _
      | exact ih5 _ _ _ _ _ _ _ _ _ _
      | exact loessref02_Bytes.mono _ _
      | exact loessref02_Encode.mono _ _ _ _
      | exact loessref02_List.mono _ _
      | exact loessref02_Nodes.mono _ _ _ _ _
      | exact rlp_Bytes.mono _ _
      | exact rlp_Encode.mono _ _ _ _
      | exact rlp_List.mono _ _
      | exact LeO.none _
      | refine LeO.ite ?_ ?_
      | refine LeO.bind ?_ (fun _ => ?_)
    · intro y0 y1 y2 y3 y4 y5
      unfold loesslaw02_RlpWrites.j3
      repeat' first
      | (with_reducible exact ih0 _ _ _ _ _)
      | (with_reducible exact ih1 _ _ _ _ _ _ _ _)
      | (with_reducible exact ih2 _ _ _ _ _ _ _ _ _)
      | (with_reducible exact ih3 _ _ _ _ _ _)
      | (with_reducible exact ih4 _ _ _ _ _ _ _ _ _)
      | (with_reducible exact ih5 _ _ _ _ _ _ _ _ _ _)
      | (with_reducible exact loessref02_Bytes.mono _ _)
      | (with_reducible exact loessref02_Encode.mono _ _ _ _)
      | (with_reducible exact loessref02_List.mono _ _)
      | (with_reducible exact loessref02_Nodes.mono _ _ _ _ _)
      | (with_reducible exact rlp_Bytes.mono _ _)
      | (with_reducible exact rlp_Encode.mono _ _ _ _)
      | (with_reducible exact rlp_List.mono _ _)
      | (with_reducible exact LeO.refl _)
      | (with_reducible exact LeO.none _)
      | (with_reducible refine LeO.ite ?_ ?_)
      | (with_reducible refine LeO.bind ?_ (fun _ => ?_))
      | exact ih0 _ _ _ _ _
      | exact ih1 _ _ _ _ _ _ _ _
      | exact ih2 _ _ _ _ _ _ _ _ _
      | exact ih3 _ _ _ _ _ _
      | exact ih4 _ _ _ _ _ _ _ _ _
      | exact ih5 _ _ _ _ _ _ _ _ _ _
      | exact loessref02_Bytes.mono _ _
      | exact loessref02_Encode.mono _ _ _ _
      | exact loessref02_List.mono _ _
      | exact loessref02_Nodes.mono _ _ _ _ _
      | exact rlp_Bytes.mono _ _
      | exact rlp_Encode.mono _ _ _ _
      | exact rlp_List.mono _ _
      | exact LeO.none _
      | refine LeO.ite ?_ ?_
      | refine LeO.bind ?_ (fun _ => ?_)
    · intro y0 y1 y2 y3 y4 y5 y6 y7 y8
      unfold loesslaw02_RlpWrites.l100
      repeat' first
      | (with_reducible exact ih0 _ _ _ _ _)
      | (with_reducible exact ih1 _ _ _ _ _ _ _ _)
      | (with_reducible exact ih2 _ _ _ _ _ _ _ _ _)
      | (with_reducible exact ih3 _ _ _ _ _ _)
      | (with_reducible exact ih4 _ _ _ _ _ _ _ _ _)
      | (with_reducible exact ih5 _ _ _ _ _ _ _ _ _ _)
      | (with_reducible exact loessref02_Bytes.mono _ _)
      | (with_reducible exact loessref02_Encode.mono _ _ _ _)
      | (with_reducible exact loessref02_List.mono _ _)
      | (with_reducible exact loessref02_Nodes.mono _ _ _ _ _)
      | (with_reducible exact rlp_Bytes.mono _ _)
      | (with_reducible exact rlp_Encode.mono _ _ _ _)
      | (with_reducible exact rlp_List.mono _ _)
      | (with_reducible exact LeO.refl _)
      | (with_reducible exact LeO.none _)
      | (with_reducible refine LeO.ite ?_ ?_)
      | (with_reducible refine LeO.bind ?_ (fun _ => ?_))
      | exact ih0 _ _ _ _ _
      | exact ih1 _ _ _ _ _ _ _ _
      | exact ih2 _ _ _ _ _ _ _ _ _
      | exact ih3 _ _ _ _ _ _
      | exact ih4 _ _ _ _ _ _ _ _ _
      | exact ih5 _ _ _ _ _ _ _ _ _ _
      | exact loessref02_Bytes.mono _ _
      | exact loessref02_Encode.mono _ _ _ _
      | exact loessref02_List.mono _ _
      | exact loessref02_Nodes.mono _ _ _ _ _
      | exact rlp_Bytes.mono _ _
      | exact rlp_Encode.mono _ _ _ _
      | exact rlp_List.mono _ _
      | exact LeO.none _
      | refine LeO.ite ?_ ?_
      | refine LeO.bind ?_ (fun _ => ?_)
    · intro y0 y1 y2 y3 y4 y5 y6 y7 y8 y9
      unfold loesslaw02_RlpWrites.j5
      repeat' first
      | (with_reducible exact ih0 _ _ _ _ _)
      | (with_reducible exact ih1 _ _ _ _ _ _ _ _)
      | (with_reducible exact ih2 _ _ _ _ _ _ _ _ _)
      | (with_reducible exact ih3 _ _ _ _ _ _)
      | (with_reducible exact ih4 _ _ _ _ _ _ _ _ _)
      | (with_reducible exact ih5 _ _ _ _ _ _ _ _ _ _)
      | (with_reducible exact loessref02_Bytes.mono _ _)
      | (with_reducible exact loessref02_Encode.mono _ _ _ _)
      | (with_reducible exact loessref02_List.mono _ _)
      | (with_reducible exact loessref02_Nodes.mono _ _ _ _ _)
      | (with_reducible exact rlp_Bytes.mono _ _)
      | (with_reducible exact rlp_Encode.mono _ _ _ _)
      | (with_reducible exact rlp_List.mono _ _)
      | (with_reducible exact LeO.refl _)
      | (with_reducible exact LeO.none _)
      | (with_reducible refine LeO.ite ?_ ?_)
      | (with_reducible refine LeO.bind ?_ (fun _ => ?_))
      | exact ih0 _ _ _ _ _
      | exact ih1 _ _ _ _ _ _ _ _
      | exact ih2 _ _ _ _ _ _ _ _ _
      | exact ih3 _ _ _ _ _ _
      | exact ih4 _ _ _ _ _ _ _ _ _
      | exact ih5 _ _ _ _ _ _ _ _ _ _
      | exact loessref02_Bytes.mono _ _
      | exact loessref02_Encode.mono _ _ _ _
      | exact loessref02_List.mono _ _
      | exact loessref02_Nodes.mono _ _ _ _ _
      | exact rlp_Bytes.mono _ _
      | exact rlp_Encode.mono _ _ _ _
      | exact rlp_List.mono _ _
      | exact LeO.none _
      | refine LeO.ite ?_ ?_
      | refine LeO.bind ?_ (fun _ => ?_)
theorem loesslaw02_RlpWrites.mono : ∀ a0 a1 a2 a3 a4 k, LeO (loesslaw02_RlpWrites.f k a0 a1 a2 a3 a4) (loesslaw02_RlpWrites.f (k + 1) a0 a1 a2 a3 a4) := by
  intro a0 a1 a2 a3 a4 k
  obtain ⟨ih0, ih1, ih2, ih3, ih4, ih5⟩ := loesslaw02_RlpWrites.mono_l k
  unfold loesslaw02_RlpWrites.f
  repeat' first
      | (with_reducible exact ih0 _ _ _ _ _)
      | (with_reducible exact ih1 _ _ _ _ _ _ _ _)
      | (with_reducible exact ih2 _ _ _ _ _ _ _ _ _)
      | (with_reducible exact ih3 _ _ _ _ _ _)
      | (with_reducible exact ih4 _ _ _ _ _ _ _ _ _)
      | (with_reducible exact ih5 _ _ _ _ _ _ _ _ _ _)
      | (with_reducible exact loessref02_Bytes.mono _ _)
      | (with_reducible exact loessref02_Encode.mono _ _ _ _)
      | (with_reducible exact loessref02_List.mono _ _)
      | (with_reducible exact loessref02_Nodes.mono _ _ _ _ _)
      | (with_reducible exact rlp_Bytes.mono _ _)
      | (with_reducible exact rlp_Encode.mono _ _ _ _)
      | (with_reducible exact rlp_List.mono _ _)
      | (with_reducible exact LeO.refl _)
      | (with_reducible exact LeO.none _)
      | (with_reducible refine LeO.ite ?_ ?_)
      | (with_reducible refine LeO.bind ?_ (fun _ => ?_))
      | exact ih0 _ _ _ _ _
      | exact ih1 _ _ _ _ _ _ _ _
      | exact ih2 _ _ _ _ _ _ _ _ _
      | exact ih3 _ _ _ _ _ _
      | exact ih4 _ _ _ _ _ _ _ _ _
      | exact ih5 _ _ _ _ _ _ _ _ _ _
      | exact loessref02_Bytes.mono _ _
      | exact loessref02_Encode.mono _ _ _ _
      | exact loessref02_List.mono _ _
      | exact loessref02_Nodes.mono _ _ _ _ _
      | exact rlp_Bytes.mono _ _
      | exact rlp_Encode.mono _ _ _ _
      | exact rlp_List.mono _ _
      | exact LeO.none _
      | refine LeO.ite ?_ ?_
      | refine LeO.bind ?_ (fun _ => ?_)
set_option maxHeartbeats 8000000 in
set_option maxRecDepth 100000 in
theorem loesslaw02_RlpWrites.calls (k : Nat) (a0_0 : Bool) (a0_1 : ByteArray) (A0_2 : Option Addr) (c0_2 : Nat) (l0_2 : List (S25)) (a1 : ByteArray) (A2 : Option Addr) (c2 : Nat) (l2 : List ByteArray) (r : Bool) (w : World) (hr0_2 : Kd.C k25 w A0_2 l0_2.length l0_2) (hc0_2 : l0_2.length ≤ c0_2) (hr2 : Kd.C Kd.string w A2 l2.length l2) (hc2 : l2.length ≤ c2) (h : loesslaw02_RlpWrites.f k a0_0 a0_1 l0_2 a1 l2 = some r) :
    Calls Try.prog 7 #[.agg #[.bool a0_0, .string a0_1, .slice A0_2 l0_2.length c0_2], .string a1, .slice A2 l2.length c2] w fun e w' => e = .returned (.bool r) ∧ Below w.heap.size w w' := by
  have hu25 := Try.underlying25
  have HR0_2 := Aside0.mk hr0_2
  have HC0_2 := Aside0.mk hc0_2
  clear hr0_2 hc0_2
  have HR2 := Aside0.mk hr2
  have HC2 := Aside0.mk hc2
  clear hr2 hc2
  have HB := Aside0.mk (Below.refl w.heap.size w)
  have H : ((loesslaw02_awake.f).bind fun t306 => ((loessref02_Nodes.f k a0_0 a0_1 l0_2 2000).bind fun t307 => (if t307 > 2000 then (if (a1.size : Int) > 5000 then (if 0 ≤ 5000 then (if 5000 ≤ (a1.size : Int) then (loesslaw02_RlpWrites.j0 k (a1.extract 0 5000) l2 t306 false (⟨#[]⟩ : ByteArray)) else (none)) else (none)) else (loesslaw02_RlpWrites.j0 k a1 l2 t306 false (⟨#[]⟩ : ByteArray))) else (if (a1.size : Int) > 5000 then (if 0 ≤ 5000 then (if 5000 ≤ (a1.size : Int) then (loesslaw02_RlpWrites.j3 k (a1.extract 0 5000) l2 t306 a0_0 a0_1 l0_2) else (none)) else (none)) else (loesslaw02_RlpWrites.j3 k a1 l2 t306 a0_0 a0_1 l0_2))))) = some r := h
  clear h
  replace H := Option.bind_eq_some_iff.mp H
  obtain ⟨t306, A40, H⟩ := H
  replace H : ((loessref02_Nodes.f k a0_0 a0_1 l0_2 2000).bind fun t307 => (if t307 > 2000 then (if (a1.size : Int) > 5000 then (if 0 ≤ 5000 then (if 5000 ≤ (a1.size : Int) then (loesslaw02_RlpWrites.j0 k (a1.extract 0 5000) l2 t306 false (⟨#[]⟩ : ByteArray)) else (none)) else (none)) else (loesslaw02_RlpWrites.j0 k a1 l2 t306 false (⟨#[]⟩ : ByteArray))) else (if (a1.size : Int) > 5000 then (if 0 ≤ 5000 then (if 5000 ≤ (a1.size : Int) then (loesslaw02_RlpWrites.j3 k (a1.extract 0 5000) l2 t306 a0_0 a0_1 l0_2) else (none)) else (none)) else (loesslaw02_RlpWrites.j3 k a1 l2 t306 a0_0 a0_1 l0_2)))) = some r := H
  have A4 := Aside0.mk A40
  clear A40
  replace H := Option.bind_eq_some_iff.mp H
  obtain ⟨t307, A50, H⟩ := H
  replace H : (if t307 > 2000 then (if (a1.size : Int) > 5000 then (if 0 ≤ 5000 then (if 5000 ≤ (a1.size : Int) then (loesslaw02_RlpWrites.j0 k (a1.extract 0 5000) l2 t306 false (⟨#[]⟩ : ByteArray)) else (none)) else (none)) else (loesslaw02_RlpWrites.j0 k a1 l2 t306 false (⟨#[]⟩ : ByteArray))) else (if (a1.size : Int) > 5000 then (if 0 ≤ 5000 then (if 5000 ≤ (a1.size : Int) then (loesslaw02_RlpWrites.j3 k (a1.extract 0 5000) l2 t306 a0_0 a0_1 l0_2) else (none)) else (none)) else (loesslaw02_RlpWrites.j3 k a1 l2 t306 a0_0 a0_1 l0_2))) = some r := H
  have A5 := Aside0.mk A50
  clear A50
  by_cases c6 : t307 > 2000
  · rw [if_pos c6] at H
    have c6b0 : decide (2000 < t307) = true := decide_eq_true c6
    clear c6
    have HC7 := Aside0.mk H
    clear H
    go_enter Try.func7, Try.ntmps7
    go_upto_if 22 with (first | ((with_reducible refine gate_dst (N := 3) rfl ?_); refine box_event ?hg (N := 3) ?hd (cs := #[.bool a0_0, .string a0_1, .slice A0_2 l0_2.length c0_2]) (t := 25) ?hr ?_; (case hd => rfl); (case hg => rfl); (case hr => first | (go_simp; done) | (go_simp; rfl)); intro gb305 hg w8 hbox hb; have n0_ := Aside0.mk (below_step (by repeat (first | (with_reducible first | exact HB.out | apply below_alloc | apply pw_below_drewN | apply below_drew1) | exact HB.out)) hb); have n1_ := Aside0.mk (hbox); have n2_ := Aside0.mk ((by rw [hg]; exact (below_size (by repeat (first | (with_reducible first | exact HB.out | apply below_alloc | apply pw_below_drewN | apply below_drew1) | exact HB.out))) : w.heap.size ≤ gb305)); have n3_ := Aside0.mk ((by rw [hg]; exact (below_size (by repeat (first | (with_reducible first | exact HB.out | apply below_alloc | apply pw_below_drewN | apply below_drew1) | exact HB.out))) : w.heap.size ≤ gb305)); clear HB; have HB := n0_; have BK305 := n1_; have GW305 := n2_; have GE305 := n3_; clear n0_ n1_ n2_ n3_; clear hb hbox hg) | ((with_reducible refine gate_callee (f := 9) rfl ?_); refine goesL_ (some 15) rfl rfl Try.func9 (by kernel_rfl) rfl #[] rfl (by (try simp only [List.map_toArray, List.map_cons, List.map_nil]); first | done | rfl | (simp only [List.length_drop, List.length_take]; rfl)) ?_; (with_reducible refine (loesslaw02_awake.calls  t306 _ A4.out).mono ?_); rintro e w9 ⟨rfl, hb⟩; refine ⟨_, rfl, ?_⟩; have n0_ := Aside0.mk (blk_below (g := gb305) (o := .cells #[.bool a0_0, .string a0_1, .slice A0_2 l0_2.length c0_2] 25 (0, 0)) (by (with_reducible repeat (first | refine blk_drewN ?_ _ | refine blk_drew ?_ | refine blk_alloc ?_ _)); exact BK305.out) hb); have n1_ := Aside0.mk (below_step (by repeat (first | (with_reducible first | exact HB.out | apply below_alloc | apply pw_below_drewN | apply below_drew1 | refine below_set ?_ GE305.out) | exact HB.out)) hb); clear BK305; clear HB; have BK305 := n0_; have HB := n1_; clear n0_ n1_; (try clear hb); (try clear hb2); (try clear hk); (try clear hi); have hcz10_0 : w9.cell? ⟨gb305, 0, none⟩ = some (.bool a0_0) := (blk_cell BK305.out 0).trans rfl; have hcz10_1 : w9.cell? ⟨gb305, 1, none⟩ = some (.string a0_1) := (blk_cell BK305.out 1).trans rfl; have hcz10_2 : w9.cell? ⟨gb305, 2, none⟩ = some (.slice A0_2 l0_2.length c0_2) := (blk_cell BK305.out 2).trans rfl; have hfz10_0 := blk_frozen BK305.out 0; have hfz10_1 := blk_frozen BK305.out 1; have hfz10_2 := blk_frozen BK305.out 2) | ((with_reducible refine gate_callee (f := 21) rfl ?_); refine goesL_ (some 17) rfl rfl Try.func21 (by kernel_rfl) rfl #[.agg #[.bool a0_0, .string a0_1, .slice A0_2 l0_2.length c0_2], .int .i64 2000] rfl (by (try simp only [List.map_toArray, List.map_cons, List.map_nil]); first | done | rfl | (simp only [List.length_drop, List.length_take]; rfl)) ?_; (with_reducible refine (loessref02_Nodes.calls k a0_0 a0_1 _ _ l0_2 2000 t307 _ ?side1 ?side2 A5.out).mono ?_); (case side1 => repeat (first | exact (Kd.C_below HR0_2.out HB.out) | (with_reducible refine Kd.C_alloc ?_ _) | (with_reducible refine Kd.C_drewN ?_ _) | (with_reducible refine Kd.C_drew ?_))); (case side2 => exact HC0_2.out); rintro e w11 ⟨rfl, hb⟩; refine ⟨_, rfl, ?_⟩; have n0_ := Aside0.mk (blk_below (g := gb305) (o := .cells #[.bool a0_0, .string a0_1, .slice A0_2 l0_2.length c0_2] 25 (0, 0)) (by (with_reducible repeat (first | refine blk_drewN ?_ _ | refine blk_drew ?_ | refine blk_alloc ?_ _)); exact BK305.out) hb); have n1_ := Aside0.mk (below_step (by repeat (first | (with_reducible first | exact HB.out | apply below_alloc | apply pw_below_drewN | apply below_drew1 | refine below_set ?_ GE305.out) | exact HB.out)) hb); clear BK305; clear HB; have BK305 := n0_; have HB := n1_; clear n0_ n1_; (try clear hb); (try clear hb2); (try clear hk); (try clear hi); have hcz12_0 : w11.cell? ⟨gb305, 0, none⟩ = some (.bool a0_0) := (blk_cell BK305.out 0).trans rfl; have hcz12_1 : w11.cell? ⟨gb305, 1, none⟩ = some (.string a0_1) := (blk_cell BK305.out 1).trans rfl; have hcz12_2 : w11.cell? ⟨gb305, 2, none⟩ = some (.slice A0_2 l0_2.length c0_2) := (blk_cell BK305.out 2).trans rfl; have hfz12_0 := blk_frozen BK305.out 0; have hfz12_1 := blk_frozen BK305.out 1; have hfz12_2 := blk_frozen BK305.out 2))
    (try simp only [Act.put, List.setIfInBounds_toArray, List.set_cons_zero, List.set_cons_succ])
    go_cut [1] (fun v1 wc => ∃ (kq : Nat) (x1_6 : ByteArray), v1 = .string x1_6 ∧ Aside0 (loesslaw02_RlpWrites.j0 kq x1_6 l2 t306 false (⟨#[]⟩ : ByteArray) = some r) ∧ Aside0 (kq ≤ k) ∧ Aside0 (wc.heap[gb305]? = some (.cells #[.bool false, .string (⟨#[]⟩ : ByteArray), (.slice none 0 0)] 25 (0, 0))) ∧ Aside0 (Below w.heap.size w wc))
    case first =>
      have H := HC7.out
      clear HC7
      by_cases c13 : (a1.size : Int) > 5000
      · rw [if_pos c13] at H
        have c13b0 : decide (5000 < (a1.size : Int)) = true := decide_eq_true c13
        have c13b1 : decide (5000 < a1.size) = true := decide_eq_true (by omega)
        clear c13
        (first | rw [c13b0] | (simp only [i64_w, i32_w]; rw [c13b0]) | skip)
        by_cases c14 : 0 ≤ 5000
        · rw [if_pos c14] at H
          have c14b0 := eq_true c14
          have c14b1 : decide (0 ≤ 5000) = true := decide_eq_true c14
          clear c14
          by_cases c15 : 5000 ≤ (a1.size : Int)
          · rw [if_pos c15] at H
            have c15b0 := eq_true c15
            have c15b1 : decide (5000 ≤ (a1.size : Int)) = true := decide_eq_true c15
            clear c15
            have H' := Aside0.mk H
            clear H
            go_wp2
            go_meet
            case rel => exact ⟨_, (a1.extract 0 5000), (by first | rfl | (simp; done) | (simp [*]; done)), H', ⟨by first | omega | exact Nat.le_refl _⟩, ⟨by (with_reducible repeat (first | refine blk_drewN ?_ _ | refine blk_drew ?_ | refine blk_alloc ?_ _)); refine blk_put (cs := #[.bool false, .string (⟨#[]⟩ : ByteArray), .slice A0_2 l0_2.length c0_2]) ?_ 2 _ rfl; (with_reducible repeat (first | refine blk_drewN ?_ _ | refine blk_drew ?_ | refine blk_alloc ?_ _)); refine blk_put (cs := #[.bool false, .string a0_1, .slice A0_2 l0_2.length c0_2]) ?_ 1 _ rfl; (with_reducible repeat (first | refine blk_drewN ?_ _ | refine blk_drew ?_ | refine blk_alloc ?_ _)); refine blk_put (cs := #[.bool a0_0, .string a0_1, .slice A0_2 l0_2.length c0_2]) ?_ 0 _ rfl; (with_reducible repeat (first | refine blk_drewN ?_ _ | refine blk_drew ?_ | refine blk_alloc ?_ _)); exact BK305.out⟩, ⟨by repeat (first | (with_reducible first | exact HB.out | apply below_alloc | apply pw_below_drewN | apply below_drew1 | refine below_set ?_ GE305.out) | exact HB.out)⟩⟩
          · rw [if_neg c15] at H
            exact absurd H (by simp)
        · rw [if_neg c14] at H
          exact absurd H (by simp)
      · rw [if_neg c13] at H
        have c13b0 : decide (5000 < (a1.size : Int)) = false := decide_eq_false c13
        have c13b1 : decide (5000 < a1.size) = false := decide_eq_false (by omega)
        clear c13
        (first | rw [c13b0] | (simp only [i64_w, i32_w]; rw [c13b0]) | skip)
        have H' := Aside0.mk H
        clear H
        go_wp2
        go_meet
        case rel => exact ⟨_, (a1), (by first | rfl | (simp; done) | (simp [*]; done)), H', ⟨by first | omega | exact Nat.le_refl _⟩, ⟨by (with_reducible repeat (first | refine blk_drewN ?_ _ | refine blk_drew ?_ | refine blk_alloc ?_ _)); refine blk_put (cs := #[.bool false, .string (⟨#[]⟩ : ByteArray), .slice A0_2 l0_2.length c0_2]) ?_ 2 _ rfl; (with_reducible repeat (first | refine blk_drewN ?_ _ | refine blk_drew ?_ | refine blk_alloc ?_ _)); refine blk_put (cs := #[.bool false, .string a0_1, .slice A0_2 l0_2.length c0_2]) ?_ 1 _ rfl; (with_reducible repeat (first | refine blk_drewN ?_ _ | refine blk_drew ?_ | refine blk_alloc ?_ _)); refine blk_put (cs := #[.bool a0_0, .string a0_1, .slice A0_2 l0_2.length c0_2]) ?_ 0 _ rfl; (with_reducible repeat (first | refine blk_drewN ?_ _ | refine blk_drew ?_ | refine blk_alloc ?_ _)); exact BK305.out⟩, ⟨by repeat (first | (with_reducible first | exact HB.out | apply below_alloc | apply pw_below_drewN | apply below_drew1 | refine below_set ?_ GE305.out) | exact HB.out)⟩⟩
    case rest =>
      clear HC7
      try clear c1
      try clear c2
      try clear p2
      try clear c6
      try clear c6b0
      try clear c7
      try clear c9
      try clear c13
      try clear c13b0
      try clear c13b1
      try clear c14
      try clear c14b0
      try clear c14b1
      try clear c15
      try clear c15b0
      try clear c15b1
      try clear hcz10_0
      try clear hcz10_1
      try clear hcz10_2
      try clear hcz12_0
      try clear hcz12_1
      try clear hcz12_2
      try clear hfz10_0
      try clear hfz10_1
      try clear hfz10_2
      try clear hfz12_0
      try clear hfz12_1
      try clear hfz12_2
      obtain ⟨kq, x1_6, rfl, HA, HJ6, BK305, HB⟩ := hcut
      cases kq with
      | zero => exact absurd HA.out (by simp [loesslaw02_RlpWrites.j0])
      | succ kj6 =>
        have H := HA.out
        clear HA
        simp only [loesslaw02_RlpWrites.j0] at H
        have H' := Aside0.mk H
        clear H
        go_wp2
        go_loopg [8, 9, 10] kj6 (fun kq v8 v9 v10 w' => ∃ (x8_2 : List ByteArray) (x9_2 : ByteArray) (x10_2 : Int), v9 = .string x9_2 ∧ v10 = .int .i64 x10_2 ∧ Aside0 (loesslaw02_RlpWrites.l0 kq x1_6 l2 t306 x8_2 x9_2 x10_2 false (⟨#[]⟩ : ByteArray) = some r) ∧ Aside0 (kq ≤ kj6) ∧ Aside0 (Kd.R Kd.string 9 w' w.heap.size (fun _ => True) v8 x8_2) ∧ Aside0 (w'.heap[gb305]? = some (.cells #[.bool false, .string (⟨#[]⟩ : ByteArray), (.slice none 0 0)] 25 (0, 0))) ∧ Aside0 (Below w.heap.size w w'))
        case atStart => exact ⟨(([] : List ByteArray)), ((⟨#[]⟩ : ByteArray)), (0), (by first | rfl | (simp; done) | (simp [*]; done)), (by first | rfl | (simp; done) | (simp [*]; done)), H', ⟨Nat.le_refl _⟩, ⟨by first | exact Kd.R_nil _ _ _ _ _ | exact Kd.N_nil _ _ _ _ _ | exact Kd.V_nil _ _ _ _ _ | exact Kd.Q_nil _ _ _ _ _ | exact Kd.S_nil _ _ _ _ _⟩, ⟨by (with_reducible repeat (first | refine blk_drewN ?_ _ | refine blk_drew ?_ | refine blk_alloc ?_ _)); exact BK305.out⟩, ⟨by repeat (first | (with_reducible first | exact HB.out | apply below_alloc | apply pw_below_drewN | apply below_drew1 | refine below_set ?_ GE305.out) | exact HB.out)⟩⟩
        case round =>
          clear H'
          try clear c1
          try clear c2
          try clear p2
          try clear c6
          try clear c6b0
          try clear c7
          try clear c9
          try clear c13
          try clear c13b0
          try clear c13b1
          try clear c14
          try clear c14b0
          try clear c14b1
          try clear c15
          try clear c15b0
          try clear c15b1
          try clear hcz10_0
          try clear hcz10_1
          try clear hcz10_2
          try clear hcz12_0
          try clear hcz12_1
          try clear hcz12_2
          try clear hfz10_0
          try clear hfz10_1
          try clear hfz10_2
          try clear hfz12_0
          try clear hfz12_1
          try clear hfz12_2
          try clear p2
          obtain ⟨x8_2, x9_2, x10_2, rfl, rfl, HA, HK2, HO_8, BK305, HB⟩ := hrel
          cases gk with
          | zero => exact absurd HA.out (by simp [loesslaw02_RlpWrites.l0])
          | succ k2 =>
            have H := HA.out
            clear HA
            simp only [loesslaw02_RlpWrites.l0] at H
            have HC16 := Aside0.mk H
            clear H
            go_upto_region 9 with (fail)
            go_cut [32] (fun v32 wc => ∃ (kq : Nat) (x32_15 : Bool), v32 = .bool x32_15 ∧ Aside0 (loesslaw02_RlpWrites.j2 kq x1_6 l2 t306 x8_2 x9_2 x10_2 x32_15 false (⟨#[]⟩ : ByteArray) = some r) ∧ Aside0 (kq ≤ k2) ∧ Aside0 (Kd.R Kd.string 9 wc w.heap.size (fun _ => True) u8 x8_2) ∧ Aside0 (wc.heap[gb305]? = some (.cells #[.bool false, .string (⟨#[]⟩ : ByteArray), (.slice none 0 0)] 25 (0, 0))) ∧ Aside0 (Below w.heap.size w wc))
            case first =>
              have H := HC16.out
              clear HC16
              by_cases c17 : x10_2 < (l2.length : Int)
              · rw [if_pos c17] at H
                have c17b0 : decide (x10_2 < (l2.length : Int)) = true := decide_eq_true c17
                clear c17
                (first | rw [c17b0] | (simp only [i64_w, i32_w]; rw [c17b0]) | skip)
                have H' := Aside0.mk H
                clear H
                go_wp2
                go_meet
                case rel => exact ⟨_, (decide (x10_2 < 50)), (by first | rfl | (simp; done) | (simp [*]; done)), H', ⟨by have := HJ6.out; have := HK2.out; first | omega | exact Nat.le_refl _⟩, ⟨by (with_reducible repeat (first | apply Kd.R_alloc | apply Kd.R_drewN | apply Kd.R_drew)); exact HO_8.out⟩, ⟨by (with_reducible repeat (first | refine blk_drewN ?_ _ | refine blk_drew ?_ | refine blk_alloc ?_ _)); exact BK305.out⟩, ⟨by repeat (first | (with_reducible first | exact HB.out | apply below_alloc | apply pw_below_drewN | apply below_drew1 | refine below_set ?_ GE305.out) | exact HB.out)⟩⟩
              · rw [if_neg c17] at H
                have c17b0 : decide (x10_2 < (l2.length : Int)) = false := decide_eq_false c17
                clear c17
                (first | rw [c17b0] | (simp only [i64_w, i32_w]; rw [c17b0]) | skip)
                have H' := Aside0.mk H
                clear H
                go_wp2
                go_meet
                case rel => exact ⟨_, (false), (by first | rfl | (simp; done) | (simp [*]; done)), H', ⟨by have := HJ6.out; have := HK2.out; first | omega | exact Nat.le_refl _⟩, ⟨by (with_reducible repeat (first | apply Kd.R_alloc | apply Kd.R_drewN | apply Kd.R_drew)); exact HO_8.out⟩, ⟨by (with_reducible repeat (first | refine blk_drewN ?_ _ | refine blk_drew ?_ | refine blk_alloc ?_ _)); exact BK305.out⟩, ⟨by repeat (first | (with_reducible first | exact HB.out | apply below_alloc | apply pw_below_drewN | apply below_drew1 | refine below_set ?_ GE305.out) | exact HB.out)⟩⟩
            case rest =>
              clear HC16
              try clear c1
              try clear c2
              try clear p2
              try clear c6
              try clear c6b0
              try clear c7
              try clear c9
              try clear c13
              try clear c13b0
              try clear c13b1
              try clear c14
              try clear c14b0
              try clear c14b1
              try clear c15
              try clear c15b0
              try clear c15b1
              try clear c17
              try clear c17b0
              try clear hcz10_0
              try clear hcz10_1
              try clear hcz10_2
              try clear hcz12_0
              try clear hcz12_1
              try clear hcz12_2
              try clear hfz10_0
              try clear hfz10_1
              try clear hfz10_2
              try clear hfz12_0
              try clear hfz12_1
              try clear hfz12_2
              try clear p2
              obtain ⟨kq, x32_15, rfl, HA, HJ15, HO_8, BK305, HB⟩ := hcut
              cases kq with
              | zero => exact absurd HA.out (by simp [loesslaw02_RlpWrites.j2])
              | succ kj15 =>
                have H := HA.out
                clear HA
                simp only [loesslaw02_RlpWrites.j2] at H
                by_cases c18 : x32_15 = true
                · subst c18
                  have H1 : (if 0 ≤ x10_2 then (if x10_2 < (l2.length : Int) then (if ((rdOf ByteArray.empty l2 x10_2).size : Int) ≤ 1000 then (if x8_2.length < 8796093022208 then (if x9_2.size + (rdOf ByteArray.empty l2 x10_2).size ≤ 9223372036854775807 then (loesslaw02_RlpWrites.l0 kj15 x1_6 l2 t306 (x8_2 ++ [rdOf ByteArray.empty l2 x10_2]) (x9_2 ++ (rdOf ByteArray.empty l2 x10_2)) (wrap64 (x10_2 + 1)) false (⟨#[]⟩ : ByteArray)) else (none)) else (none)) else (loesslaw02_RlpWrites.l0 kj15 x1_6 l2 t306 x8_2 x9_2 (wrap64 (x10_2 + 1)) false (⟨#[]⟩ : ByteArray))) else (none)) else (none)) = some r := by rw [if_pos rfl] at H; exact H
                  clear H
                  have H := H1
                  clear H1
                  by_cases c19 : 0 ≤ x10_2
                  · rw [if_pos c19] at H
                    have c19b0 : decide (0 ≤ x10_2) = true := decide_eq_true c19
                    clear c19
                    by_cases c20 : x10_2 < (l2.length : Int)
                    · rw [if_pos c20] at H
                      have c20b0 : decide (x10_2 < (l2.length : Int)) = true := decide_eq_true c20
                      clear c20
                      by_cases c21 : ((rdOf ByteArray.empty l2 x10_2).size : Int) ≤ 1000
                      · rw [if_pos c21] at H
                        have c21b0 : decide (((rdOf ByteArray.empty l2 x10_2).size : Int) ≤ 1000) = true := decide_eq_true c21
                        have c21b1 : decide ((rdOf ByteArray.empty l2 x10_2).size ≤ 1000) = true := decide_eq_true (by omega)
                        clear c21
                        by_cases c22 : x8_2.length < 8796093022208
                        · rw [if_pos c22] at H
                          have LMc22 := Aside0.mk c22
                          clear c22
                          obtain ⟨y310, hy310⟩ : ∃ y_ : List ByteArray, y_ = (x8_2 ++ [rdOf ByteArray.empty l2 x10_2]) := ⟨_, rfl⟩
                          replace H : (if x9_2.size + (rdOf ByteArray.empty l2 x10_2).size ≤ 9223372036854775807 then (loesslaw02_RlpWrites.l0 kj15 x1_6 l2 t306 y310 (x9_2 ++ (rdOf ByteArray.empty l2 x10_2)) (wrap64 (x10_2 + 1)) false (⟨#[]⟩ : ByteArray)) else (none)) = some r := by first | (rw [hy310]; with_reducible exact H) | (have H2_ := (Option.bind_some _ _).symm.trans H; rw [hy310]; with_reducible exact H2_) | (have H2_ := (Option.bind_some _ _).symm.trans H; with_reducible exact H2_) | with_reducible exact H | (rw [hy310]; exact H) | exact H
                          have Ny310 := Aside0.mk hy310
                          clear hy310
                          by_cases c23 : x9_2.size + (rdOf ByteArray.empty l2 x10_2).size ≤ 9223372036854775807
                          · rw [if_pos c23] at H
                            have c23b0 := eq_true c23
                            have c23b1 : decide (x9_2.size + (rdOf ByteArray.empty l2 x10_2).size ≤ 9223372036854775807) = true := decide_eq_true c23
                            try have c23b2 : (9223372036854775807 < x9_2.size + (rdOf ByteArray.empty l2 x10_2).size) = False := eq_false (Nat.not_lt.2 c23)
                            have H' := Aside0.mk H
                            clear H
                            have p308 : 0 ≤ (x10_2 : Int) := of_decide_eq_true (by first | (with_reducible assumption) | assumption)
                            have q308 : x10_2 < (l2.length : Int) := of_decide_eq_true (by first | (with_reducible assumption) | assumption)
                            obtain ⟨ad308, e308, hx308_0⟩ := Kd.at_string HR2.out x10_2 p308 q308
                            cases e308
                            replace hx308_0 := (HB.out.cell (World.block_lt_of_cell? w _ hx308_0)).trans hx308_0
                            replace p308 := eq_true p308
                            replace q308 := eq_true q308
                            have p309 : 0 ≤ (x10_2 : Int) := of_decide_eq_true (by first | (with_reducible assumption) | assumption)
                            have q309 : x10_2 < (l2.length : Int) := of_decide_eq_true (by first | (with_reducible assumption) | assumption)
                            obtain ⟨ad309, e309, hx309_0⟩ := Kd.at_string HR2.out x10_2 p309 q309
                            obtain rfl : ad308 = ad309 := (by injection e309)
                            replace hx309_0 := (HB.out.cell (World.block_lt_of_cell? w _ hx309_0)).trans hx309_0
                            replace p309 := eq_true p309
                            replace q309 := eq_true q309
                            go_wp2_with (first | ((with_reducible refine gate_builtin (b := .append) (xs := #[.tmp 41, .tmp 46]) rfl ?_); at_builtin; refine Kd.R_append Kd.string (w0 := w) w.heap.size rfl (.tmp 41) (.tmp 46) 38 9 (.string ⟨#[]⟩) 16 rfl Try.underlying38 info9 rfl (by decide) (by omega) u8 x8_2 (rdOf ByteArray.empty l2 x10_2) [.string (rdOf ByteArray.empty l2 x10_2)] (fun _ => True) (fun _ => False) rfl rfl ?aP (fun _ hk => hk.elim) ?aF ?aO ?aB ?aS ?aL ?_; (case aP => exact rfl); (case aB => exact (by repeat (first | (with_reducible first | exact HB.out | apply below_alloc | apply pw_below_drewN | apply below_drew1 | refine below_set ?_ GE305.out) | exact HB.out))); (case aF => exact (fun _ _ => trivial)); (case aO => exact (by (with_reducible repeat (first | apply Kd.R_alloc | apply Kd.R_drewN | apply Kd.R_drew)); exact HO_8.out)); (case aS => exact (below_size (by repeat (first | (with_reducible first | exact HB.out | apply below_alloc | apply pw_below_drewN | apply below_drew1 | refine below_set ?_ GE305.out) | exact HB.out)))); (case aL => have := LMc22.out; omega); intro v311 w24 ho hb hg hat; rw [← Ny310.out] at ho; have n0_ := Aside0.mk (blk_grown (g := gb305) (o := .cells #[.bool false, .string (⟨#[]⟩ : ByteArray), .slice none 0 0] 25 (0, 0)) (by (with_reducible repeat (first | refine blk_drewN ?_ _ | refine blk_drew ?_ | refine blk_alloc ?_ _)); exact BK305.out) hg (Kd.R_ne HO_8.out BK305.out (by decide))); have n1_ := Aside0.mk (hb); have n2_ := Aside0.mk (ho); clear BK305; clear HB; clear HO_8; have BK305 := n0_; have HB := n1_; have HO312 := n2_; clear n0_ n1_ n2_; clear ho hb hg hat; have p313 : 0 ≤ (x10_2 : Int) := of_decide_eq_true (by first | (with_reducible assumption) | assumption); have q313 : x10_2 < (l2.length : Int) := of_decide_eq_true (by first | (with_reducible assumption) | assumption); obtain ⟨ad313, e313, hx313_0⟩ := Kd.at_string HR2.out x10_2 p313 q313; obtain rfl : ad308 = ad313 := (by injection e313); replace hx313_0 := (HB.out.cell (World.block_lt_of_cell? w _ hx313_0)).trans hx313_0; replace p313 := eq_true p313; replace q313 := eq_true q313))
                            go_roundg kj15
                            case measure => have := HJ6.out; have := HK2.out; have := HJ15.out; omega
                            case rel => exact ⟨(y310), (x9_2 ++ (rdOf ByteArray.empty l2 x10_2)), (wrap64 (x10_2 + 1)), (by first | rfl | (simp; done) | (simp [*]; done)), (by first | rfl | (simp; done) | (simp [*]; done)), H', ⟨by have := HJ6.out; have := HK2.out; have := HJ15.out; omega⟩, ⟨by (with_reducible repeat (first | apply Kd.R_alloc | apply Kd.R_drewN | apply Kd.R_drew)); exact HO312.out⟩, ⟨by (with_reducible repeat (first | refine blk_drewN ?_ _ | refine blk_drew ?_ | refine blk_alloc ?_ _)); exact BK305.out⟩, ⟨by repeat (first | (with_reducible first | exact HB.out | apply below_alloc | apply pw_below_drewN | apply below_drew1 | refine below_set ?_ GE305.out) | exact HB.out)⟩⟩
                          · rw [if_neg c23] at H
                            exact absurd H (by simp)
                        · rw [if_neg c22] at H
                          exact absurd H (by simp)
                      · rw [if_neg c21] at H
                        have c21b0 : decide (((rdOf ByteArray.empty l2 x10_2).size : Int) ≤ 1000) = false := decide_eq_false c21
                        have c21b1 : decide ((rdOf ByteArray.empty l2 x10_2).size ≤ 1000) = false := decide_eq_false (by omega)
                        clear c21
                        have H' := Aside0.mk H
                        clear H
                        have p308 : 0 ≤ (x10_2 : Int) := of_decide_eq_true (by first | (with_reducible assumption) | assumption)
                        have q308 : x10_2 < (l2.length : Int) := of_decide_eq_true (by first | (with_reducible assumption) | assumption)
                        obtain ⟨ad308, e308, hx308_0⟩ := Kd.at_string HR2.out x10_2 p308 q308
                        cases e308
                        replace hx308_0 := (HB.out.cell (World.block_lt_of_cell? w _ hx308_0)).trans hx308_0
                        replace p308 := eq_true p308
                        replace q308 := eq_true q308
                        go_wp2
                        go_roundg kj15
                        case measure => have := HJ6.out; have := HK2.out; have := HJ15.out; omega
                        case rel => exact ⟨(x8_2), (x9_2), (wrap64 (x10_2 + 1)), (by first | rfl | (simp; done) | (simp [*]; done)), (by first | rfl | (simp; done) | (simp [*]; done)), H', ⟨by have := HJ6.out; have := HK2.out; have := HJ15.out; omega⟩, ⟨by (with_reducible repeat (first | apply Kd.R_alloc | apply Kd.R_drewN | apply Kd.R_drew)); exact HO_8.out⟩, ⟨by (with_reducible repeat (first | refine blk_drewN ?_ _ | refine blk_drew ?_ | refine blk_alloc ?_ _)); exact BK305.out⟩, ⟨by repeat (first | (with_reducible first | exact HB.out | apply below_alloc | apply pw_below_drewN | apply below_drew1 | refine below_set ?_ GE305.out) | exact HB.out)⟩⟩
                    · rw [if_neg c20] at H
                      exact absurd H (by simp)
                  · rw [if_neg c19] at H
                    exact absurd H (by simp)
                · replace c18 := Bool.eq_false_iff.mpr c18
                  subst c18
                  have H1 : ((rlp_Encode.f kj15 false (⟨#[]⟩ : ByteArray) ([] : List (S25))).bind fun bt314 => ((loessref02_Encode.f kj15 false (⟨#[]⟩ : ByteArray) ([] : List (S25))).bind fun bt316 => (if t306 = true then (if bt314.1.toList = bt316.1.toList then (if bt314.2 = bt316.2 then ((rlp_Bytes.f kj15 x1_6).bind fun t318 => ((loessref02_Bytes.f kj15 x1_6).bind fun t319 => (if t318.toList = t319.toList then ((rlp_List.f kj15 x8_2).bind fun t320 => ((loessref02_List.f kj15 x9_2).bind fun t321 => (some (t320.toList == t321.toList)))) else (none)))) else (none)) else (none)) else (none)))) = some r := by rw [if_neg (show ¬ (false = true) by decide)] at H; exact H
                  clear H
                  have H := H1
                  clear H1
                  replace H := Option.bind_eq_some_iff.mp H
                  obtain ⟨⟨t314, t315⟩, A250, H⟩ := H
                  replace H : ((loessref02_Encode.f kj15 false (⟨#[]⟩ : ByteArray) ([] : List (S25))).bind fun bt316 => (if t306 = true then (if t314.toList = bt316.1.toList then (if t315 = bt316.2 then ((rlp_Bytes.f kj15 x1_6).bind fun t318 => ((loessref02_Bytes.f kj15 x1_6).bind fun t319 => (if t318.toList = t319.toList then ((rlp_List.f kj15 x8_2).bind fun t320 => ((loessref02_List.f kj15 x9_2).bind fun t321 => (some (t320.toList == t321.toList)))) else (none)))) else (none)) else (none)) else (none))) = some r := H
                  have A25 := Aside0.mk A250
                  clear A250
                  replace H := Option.bind_eq_some_iff.mp H
                  obtain ⟨⟨t316, t317⟩, A260, H⟩ := H
                  replace H : (if t306 = true then (if t314.toList = t316.toList then (if t315 = t317 then ((rlp_Bytes.f kj15 x1_6).bind fun t318 => ((loessref02_Bytes.f kj15 x1_6).bind fun t319 => (if t318.toList = t319.toList then ((rlp_List.f kj15 x8_2).bind fun t320 => ((loessref02_List.f kj15 x9_2).bind fun t321 => (some (t320.toList == t321.toList)))) else (none)))) else (none)) else (none)) else (none)) = some r := H
                  have A26 := Aside0.mk A260
                  clear A260
                  by_cases c27 : t306 = true
                  · subst c27
                    have H1 : (if t314.toList = t316.toList then (if t315 = t317 then ((rlp_Bytes.f kj15 x1_6).bind fun t318 => ((loessref02_Bytes.f kj15 x1_6).bind fun t319 => (if t318.toList = t319.toList then ((rlp_List.f kj15 x8_2).bind fun t320 => ((loessref02_List.f kj15 x9_2).bind fun t321 => (some (t320.toList == t321.toList)))) else (none)))) else (none)) else (none)) = some r := by rw [if_pos rfl] at H; exact H
                    clear H
                    have H := H1
                    clear H1
                    by_cases c28 : t314.toList = t316.toList
                    · rw [if_pos c28] at H
                      have c28b0 : (t314.toList == t316.toList) = true := beq_iff_eq.mpr c28
                      have c28b1 : (t314.toList != t316.toList) = false := bne_eq_false_iff_eq.mpr c28
                      clear c28
                      by_cases c29 : t315 = t317
                      · rw [if_pos c29] at H
                        have c29b0 : (t315 == t317) = true := beq_iff_eq.mpr c29
                        have c29b1 : (t315 != t317) = false := bne_eq_false_iff_eq.mpr c29
                        clear c29
                        replace H := Option.bind_eq_some_iff.mp H
                        obtain ⟨t318, A300, H⟩ := H
                        replace H : ((loessref02_Bytes.f kj15 x1_6).bind fun t319 => (if t318.toList = t319.toList then ((rlp_List.f kj15 x8_2).bind fun t320 => ((loessref02_List.f kj15 x9_2).bind fun t321 => (some (t320.toList == t321.toList)))) else (none))) = some r := H
                        have A30 := Aside0.mk A300
                        clear A300
                        replace H := Option.bind_eq_some_iff.mp H
                        obtain ⟨t319, A310, H⟩ := H
                        replace H : (if t318.toList = t319.toList then ((rlp_List.f kj15 x8_2).bind fun t320 => ((loessref02_List.f kj15 x9_2).bind fun t321 => (some (t320.toList == t321.toList)))) else (none)) = some r := H
                        have A31 := Aside0.mk A310
                        clear A310
                        by_cases c32 : t318.toList = t319.toList
                        · rw [if_pos c32] at H
                          have c32b0 : (t318.toList == t319.toList) = true := beq_iff_eq.mpr c32
                          have c32b1 : (t318.toList != t319.toList) = false := bne_eq_false_iff_eq.mpr c32
                          clear c32
                          replace H := Option.bind_eq_some_iff.mp H
                          obtain ⟨t320, A330, H⟩ := H
                          replace H : ((loessref02_List.f kj15 x9_2).bind fun t321 => (some (t320.toList == t321.toList))) = some r := H
                          have A33 := Aside0.mk A330
                          clear A330
                          replace H := Option.bind_eq_some_iff.mp H
                          obtain ⟨t321, A340, H⟩ := H
                          replace H : (some (t320.toList == t321.toList)) = some r := H
                          have A34 := Aside0.mk A340
                          clear A340
                          obtain rfl := Option.some.inj H
                          have hcz35_0 : wc.cell? ⟨gb305, 0, none⟩ = some (.bool false) := (blk_cell BK305.out 0).trans rfl
                          have hcz35_1 : wc.cell? ⟨gb305, 1, none⟩ = some (.string (⟨#[]⟩ : ByteArray)) := (blk_cell BK305.out 1).trans rfl
                          have hcz35_2 : wc.cell? ⟨gb305, 2, none⟩ = some (.slice none 0 0) := (blk_cell BK305.out 2).trans rfl
                          have hfz35_0 := blk_frozen BK305.out 0
                          have hfz35_1 := blk_frozen BK305.out 1
                          have hfz35_2 := blk_frozen BK305.out 2
                          go_wp2_with (first | ((with_reducible refine gate_callee (f := 22) rfl ?_); refine goesL_ (some 56) rfl rfl Try.func22 (by kernel_rfl) rfl #[.agg #[.bool false, .string (⟨#[]⟩ : ByteArray), .slice none 0 0]] rfl (by (try simp only [List.map_toArray, List.map_cons, List.map_nil]); first | done | rfl | (simp only [List.length_drop, List.length_take]; rfl)) ?_; (refine (rlp_Encode.calls kj15 false (⟨#[]⟩ : ByteArray) _ _ ([] : List (S25)) t314 t315 _ ?side1 ?side2 A25.out).mono ?_); (case side1 => exact Kd.C_nil _ _); (case side2 => exact Nat.le_refl _); rintro e w36 ⟨rfl, hb⟩; refine ⟨_, rfl, ?_⟩; have n0_ := Aside0.mk (Kd.R_below (by (with_reducible repeat (first | apply Kd.R_alloc | apply Kd.R_drewN | apply Kd.R_drew)); exact HO_8.out) hb); have n1_ := Aside0.mk (blk_below (g := gb305) (o := .cells #[.bool false, .string (⟨#[]⟩ : ByteArray), .slice none 0 0] 25 (0, 0)) (by (with_reducible repeat (first | refine blk_drewN ?_ _ | refine blk_drew ?_ | refine blk_alloc ?_ _)); exact BK305.out) hb); have n2_ := Aside0.mk (below_step (by repeat (first | (with_reducible first | exact HB.out | apply below_alloc | apply pw_below_drewN | apply below_drew1 | refine below_set ?_ GE305.out) | exact HB.out)) hb); clear HO_8; clear BK305; clear HB; have HO_8 := n0_; have BK305 := n1_; have HB := n2_; clear n0_ n1_ n2_; (try clear hb); (try clear hb2); (try clear hk); (try clear hi); have hcz37_0 : w36.cell? ⟨gb305, 0, none⟩ = some (.bool false) := (blk_cell BK305.out 0).trans rfl; have hcz37_1 : w36.cell? ⟨gb305, 1, none⟩ = some (.string (⟨#[]⟩ : ByteArray)) := (blk_cell BK305.out 1).trans rfl; have hcz37_2 : w36.cell? ⟨gb305, 2, none⟩ = some (.slice none 0 0) := (blk_cell BK305.out 2).trans rfl; have hfz37_0 := blk_frozen BK305.out 0; have hfz37_1 := blk_frozen BK305.out 1; have hfz37_2 := blk_frozen BK305.out 2) | ((with_reducible refine gate_callee (f := 23) rfl ?_); refine goesL_ (some 61) rfl rfl Try.func23 (by kernel_rfl) rfl #[.agg #[.bool false, .string (⟨#[]⟩ : ByteArray), .slice none 0 0]] rfl (by (try simp only [List.map_toArray, List.map_cons, List.map_nil]); first | done | rfl | (simp only [List.length_drop, List.length_take]; rfl)) ?_; (refine (loessref02_Encode.calls kj15 false (⟨#[]⟩ : ByteArray) _ _ ([] : List (S25)) t316 t317 _ ?side1 ?side2 A26.out).mono ?_); (case side1 => exact Kd.C_nil _ _); (case side2 => exact Nat.le_refl _); rintro e w38 ⟨rfl, hb⟩; refine ⟨_, rfl, ?_⟩; have n0_ := Aside0.mk (Kd.R_below (by (with_reducible repeat (first | apply Kd.R_alloc | apply Kd.R_drewN | apply Kd.R_drew)); exact HO_8.out) hb); have n1_ := Aside0.mk (blk_below (g := gb305) (o := .cells #[.bool false, .string (⟨#[]⟩ : ByteArray), .slice none 0 0] 25 (0, 0)) (by (with_reducible repeat (first | refine blk_drewN ?_ _ | refine blk_drew ?_ | refine blk_alloc ?_ _)); exact BK305.out) hb); have n2_ := Aside0.mk (below_step (by repeat (first | (with_reducible first | exact HB.out | apply below_alloc | apply pw_below_drewN | apply below_drew1 | refine below_set ?_ GE305.out) | exact HB.out)) hb); clear HO_8; clear BK305; clear HB; have HO_8 := n0_; have BK305 := n1_; have HB := n2_; clear n0_ n1_ n2_; (try clear hb); (try clear hb2); (try clear hk); (try clear hi)) | (go_at_call 19; (with_reducible refine (rlp_Bytes.calls kj15 x1_6 t318 _ A30.out).mono ?_); rintro e w39 ⟨rfl, hb⟩; have n0_ := Aside0.mk (Kd.R_below (by (with_reducible repeat (first | apply Kd.R_alloc | apply Kd.R_drewN | apply Kd.R_drew)); exact HO_8.out) hb); have n1_ := Aside0.mk (blk_below (g := gb305) (o := .cells #[.bool false, .string (⟨#[]⟩ : ByteArray), .slice none 0 0] 25 (0, 0)) (by (with_reducible repeat (first | refine blk_drewN ?_ _ | refine blk_drew ?_ | refine blk_alloc ?_ _)); exact BK305.out) hb); have n2_ := Aside0.mk (below_step (by repeat (first | (with_reducible first | exact HB.out | apply below_alloc | apply pw_below_drewN | apply below_drew1 | refine below_set ?_ GE305.out) | exact HB.out)) hb); clear HO_8; clear BK305; clear HB; have HO_8 := n0_; have BK305 := n1_; have HB := n2_; clear n0_ n1_ n2_; (try clear hb); (try clear hb2); (try clear hk); (try clear hi)) | (go_at_call 24; (with_reducible refine (loessref02_Bytes.calls kj15 x1_6 t319 _ A31.out).mono ?_); rintro e w40 ⟨rfl, hb⟩; have n0_ := Aside0.mk (Kd.R_below (by (with_reducible repeat (first | apply Kd.R_alloc | apply Kd.R_drewN | apply Kd.R_drew)); exact HO_8.out) hb); have n1_ := Aside0.mk (blk_below (g := gb305) (o := .cells #[.bool false, .string (⟨#[]⟩ : ByteArray), .slice none 0 0] 25 (0, 0)) (by (with_reducible repeat (first | refine blk_drewN ?_ _ | refine blk_drew ?_ | refine blk_alloc ?_ _)); exact BK305.out) hb); have n2_ := Aside0.mk (below_step (by repeat (first | (with_reducible first | exact HB.out | apply below_alloc | apply pw_below_drewN | apply below_drew1 | refine below_set ?_ GE305.out) | exact HB.out)) hb); clear HO_8; clear BK305; clear HB; have HO_8 := n0_; have BK305 := n1_; have HB := n2_; clear n0_ n1_ n2_; (try clear hb); (try clear hb2); (try clear hk); (try clear hi); obtain ⟨Ao41, co41, eo41⟩ := Kd.R_slice HO_8.out; subst eo41) | (go_at_call 20; (with_reducible refine (rlp_List.calls kj15 _ _ x8_2 t320 _ ?side1 ?side2 A33.out).mono ?_); (case side1 => repeat (first | exact (Kd.R_reads' HO_8.out).2.2 | (with_reducible refine Kd.C_alloc ?_ _) | (with_reducible refine Kd.C_drewN ?_ _) | (with_reducible refine Kd.C_drew ?_))); (case side2 => exact (Kd.R_reads' HO_8.out).2.1); rintro e w42 ⟨rfl, hb⟩; have n0_ := Aside0.mk (Kd.R_below (by (with_reducible repeat (first | apply Kd.R_alloc | apply Kd.R_drewN | apply Kd.R_drew)); exact HO_8.out) hb); have n1_ := Aside0.mk (blk_below (g := gb305) (o := .cells #[.bool false, .string (⟨#[]⟩ : ByteArray), .slice none 0 0] 25 (0, 0)) (by (with_reducible repeat (first | refine blk_drewN ?_ _ | refine blk_drew ?_ | refine blk_alloc ?_ _)); exact BK305.out) hb); have n2_ := Aside0.mk (below_step (by repeat (first | (with_reducible first | exact HB.out | apply below_alloc | apply pw_below_drewN | apply below_drew1 | refine below_set ?_ GE305.out) | exact HB.out)) hb); clear HO_8; clear BK305; clear HB; have HO_8 := n0_; have BK305 := n1_; have HB := n2_; clear n0_ n1_ n2_; (try clear hb); (try clear hb2); (try clear hk); (try clear hi)) | (go_at_call 25; (with_reducible refine (loessref02_List.calls kj15 x9_2 t321 _ A34.out).mono ?_); rintro e w43 ⟨rfl, hb⟩; have n0_ := Aside0.mk (Kd.R_below (by (with_reducible repeat (first | apply Kd.R_alloc | apply Kd.R_drewN | apply Kd.R_drew)); exact HO_8.out) hb); have n1_ := Aside0.mk (blk_below (g := gb305) (o := .cells #[.bool false, .string (⟨#[]⟩ : ByteArray), .slice none 0 0] 25 (0, 0)) (by (with_reducible repeat (first | refine blk_drewN ?_ _ | refine blk_drew ?_ | refine blk_alloc ?_ _)); exact BK305.out) hb); have n2_ := Aside0.mk (below_step (by repeat (first | (with_reducible first | exact HB.out | apply below_alloc | apply pw_below_drewN | apply below_drew1 | refine below_set ?_ GE305.out) | exact HB.out)) hb); clear HO_8; clear BK305; clear HB; have HO_8 := n0_; have BK305 := n1_; have HB := n2_; clear n0_ n1_ n2_; (try clear hb); (try clear hb2); (try clear hk); (try clear hi)))
                          go_ret
                          exact ⟨by first | rfl | (simp [errW_none, errW_some] <;> rfl) | (simp [*, errW_none, errW_some] <;> rfl), by repeat (first | (with_reducible first | exact HB.out | apply below_alloc | apply pw_below_drewN | apply below_drew1 | refine below_set ?_ GE305.out) | exact HB.out)⟩
                        · rw [if_neg c32] at H
                          exact absurd H (by simp)
                      · rw [if_neg c29] at H
                        exact absurd H (by simp)
                    · rw [if_neg c28] at H
                      exact absurd H (by simp)
                  · replace c27 := Bool.eq_false_iff.mpr c27
                    subst c27
                    have H1 : (none) = some r := by rw [if_neg (show ¬ (false = true) by decide)] at H; exact H
                    clear H
                    have H := H1
                    clear H1
                    exact absurd H (by simp)
  · rw [if_neg c6] at H
    have c6b0 : decide (2000 < t307) = false := decide_eq_false c6
    clear c6
    have HC44 := Aside0.mk H
    clear H
    go_enter Try.func7, Try.ntmps7
    go_upto_if 22 with (first | ((with_reducible refine gate_dst (N := 3) rfl ?_); refine box_event ?hg (N := 3) ?hd (cs := #[.bool a0_0, .string a0_1, .slice A0_2 l0_2.length c0_2]) (t := 25) ?hr ?_; (case hd => rfl); (case hg => rfl); (case hr => first | (go_simp; done) | (go_simp; rfl)); intro gb305 hg w45 hbox hb; have n0_ := Aside0.mk (below_step (by repeat (first | (with_reducible first | exact HB.out | apply below_alloc | apply pw_below_drewN | apply below_drew1) | exact HB.out)) hb); have n1_ := Aside0.mk (hbox); have n2_ := Aside0.mk ((by rw [hg]; exact (below_size (by repeat (first | (with_reducible first | exact HB.out | apply below_alloc | apply pw_below_drewN | apply below_drew1) | exact HB.out))) : w.heap.size ≤ gb305)); have n3_ := Aside0.mk ((by rw [hg]; exact (below_size (by repeat (first | (with_reducible first | exact HB.out | apply below_alloc | apply pw_below_drewN | apply below_drew1) | exact HB.out))) : w.heap.size ≤ gb305)); clear HB; have HB := n0_; have BK305 := n1_; have GW305 := n2_; have GE305 := n3_; clear n0_ n1_ n2_ n3_; clear hb hbox hg) | ((with_reducible refine gate_callee (f := 9) rfl ?_); refine goesL_ (some 15) rfl rfl Try.func9 (by kernel_rfl) rfl #[] rfl (by (try simp only [List.map_toArray, List.map_cons, List.map_nil]); first | done | rfl | (simp only [List.length_drop, List.length_take]; rfl)) ?_; (with_reducible refine (loesslaw02_awake.calls  t306 _ A4.out).mono ?_); rintro e w46 ⟨rfl, hb⟩; refine ⟨_, rfl, ?_⟩; have n0_ := Aside0.mk (blk_below (g := gb305) (o := .cells #[.bool a0_0, .string a0_1, .slice A0_2 l0_2.length c0_2] 25 (0, 0)) (by (with_reducible repeat (first | refine blk_drewN ?_ _ | refine blk_drew ?_ | refine blk_alloc ?_ _)); exact BK305.out) hb); have n1_ := Aside0.mk (below_step (by repeat (first | (with_reducible first | exact HB.out | apply below_alloc | apply pw_below_drewN | apply below_drew1 | refine below_set ?_ GE305.out) | exact HB.out)) hb); clear BK305; clear HB; have BK305 := n0_; have HB := n1_; clear n0_ n1_; (try clear hb); (try clear hb2); (try clear hk); (try clear hi); have hcz47_0 : w46.cell? ⟨gb305, 0, none⟩ = some (.bool a0_0) := (blk_cell BK305.out 0).trans rfl; have hcz47_1 : w46.cell? ⟨gb305, 1, none⟩ = some (.string a0_1) := (blk_cell BK305.out 1).trans rfl; have hcz47_2 : w46.cell? ⟨gb305, 2, none⟩ = some (.slice A0_2 l0_2.length c0_2) := (blk_cell BK305.out 2).trans rfl; have hfz47_0 := blk_frozen BK305.out 0; have hfz47_1 := blk_frozen BK305.out 1; have hfz47_2 := blk_frozen BK305.out 2) | ((with_reducible refine gate_callee (f := 21) rfl ?_); refine goesL_ (some 17) rfl rfl Try.func21 (by kernel_rfl) rfl #[.agg #[.bool a0_0, .string a0_1, .slice A0_2 l0_2.length c0_2], .int .i64 2000] rfl (by (try simp only [List.map_toArray, List.map_cons, List.map_nil]); first | done | rfl | (simp only [List.length_drop, List.length_take]; rfl)) ?_; (with_reducible refine (loessref02_Nodes.calls k a0_0 a0_1 _ _ l0_2 2000 t307 _ ?side1 ?side2 A5.out).mono ?_); (case side1 => repeat (first | exact (Kd.C_below HR0_2.out HB.out) | (with_reducible refine Kd.C_alloc ?_ _) | (with_reducible refine Kd.C_drewN ?_ _) | (with_reducible refine Kd.C_drew ?_))); (case side2 => exact HC0_2.out); rintro e w48 ⟨rfl, hb⟩; refine ⟨_, rfl, ?_⟩; have n0_ := Aside0.mk (blk_below (g := gb305) (o := .cells #[.bool a0_0, .string a0_1, .slice A0_2 l0_2.length c0_2] 25 (0, 0)) (by (with_reducible repeat (first | refine blk_drewN ?_ _ | refine blk_drew ?_ | refine blk_alloc ?_ _)); exact BK305.out) hb); have n1_ := Aside0.mk (below_step (by repeat (first | (with_reducible first | exact HB.out | apply below_alloc | apply pw_below_drewN | apply below_drew1 | refine below_set ?_ GE305.out) | exact HB.out)) hb); clear BK305; clear HB; have BK305 := n0_; have HB := n1_; clear n0_ n1_; (try clear hb); (try clear hb2); (try clear hk); (try clear hi)))
    (try simp only [Act.put, List.setIfInBounds_toArray, List.set_cons_zero, List.set_cons_succ])
    go_cut [1] (fun v1 wc => ∃ (kq : Nat) (x1_43 : ByteArray), v1 = .string x1_43 ∧ Aside0 (loesslaw02_RlpWrites.j3 kq x1_43 l2 t306 a0_0 a0_1 l0_2 = some r) ∧ Aside0 (kq ≤ k) ∧ Aside0 (wc.heap[gb305]? = some (.cells #[.bool a0_0, .string a0_1, (.slice A0_2 l0_2.length c0_2)] 25 (0, 0))) ∧ Aside0 (Below w.heap.size w wc))
    case first =>
      have H := HC44.out
      clear HC44
      by_cases c49 : (a1.size : Int) > 5000
      · rw [if_pos c49] at H
        have c49b0 : decide (5000 < (a1.size : Int)) = true := decide_eq_true c49
        have c49b1 : decide (5000 < a1.size) = true := decide_eq_true (by omega)
        clear c49
        (first | rw [c49b0] | (simp only [i64_w, i32_w]; rw [c49b0]) | skip)
        by_cases c50 : 0 ≤ 5000
        · rw [if_pos c50] at H
          have c50b0 := eq_true c50
          have c50b1 : decide (0 ≤ 5000) = true := decide_eq_true c50
          clear c50
          by_cases c51 : 5000 ≤ (a1.size : Int)
          · rw [if_pos c51] at H
            have c51b0 := eq_true c51
            have c51b1 : decide (5000 ≤ (a1.size : Int)) = true := decide_eq_true c51
            clear c51
            have H' := Aside0.mk H
            clear H
            go_wp2
            go_meet
            case rel => exact ⟨_, (a1.extract 0 5000), (by first | rfl | (simp; done) | (simp [*]; done)), H', ⟨by first | omega | exact Nat.le_refl _⟩, ⟨by (with_reducible repeat (first | refine blk_drewN ?_ _ | refine blk_drew ?_ | refine blk_alloc ?_ _)); exact BK305.out⟩, ⟨by repeat (first | (with_reducible first | exact HB.out | apply below_alloc | apply pw_below_drewN | apply below_drew1 | refine below_set ?_ GE305.out) | exact HB.out)⟩⟩
          · rw [if_neg c51] at H
            exact absurd H (by simp)
        · rw [if_neg c50] at H
          exact absurd H (by simp)
      · rw [if_neg c49] at H
        have c49b0 : decide (5000 < (a1.size : Int)) = false := decide_eq_false c49
        have c49b1 : decide (5000 < a1.size) = false := decide_eq_false (by omega)
        clear c49
        (first | rw [c49b0] | (simp only [i64_w, i32_w]; rw [c49b0]) | skip)
        have H' := Aside0.mk H
        clear H
        go_wp2
        go_meet
        case rel => exact ⟨_, (a1), (by first | rfl | (simp; done) | (simp [*]; done)), H', ⟨by first | omega | exact Nat.le_refl _⟩, ⟨by (with_reducible repeat (first | refine blk_drewN ?_ _ | refine blk_drew ?_ | refine blk_alloc ?_ _)); exact BK305.out⟩, ⟨by repeat (first | (with_reducible first | exact HB.out | apply below_alloc | apply pw_below_drewN | apply below_drew1 | refine below_set ?_ GE305.out) | exact HB.out)⟩⟩
    case rest =>
      clear HC44
      try clear c1
      try clear c2
      try clear p2
      try clear c3
      try clear p3
      try clear q3
      try clear hx3
      try clear c4
      try clear c5
      try clear c6
      try clear c6b0
      try clear p6
      try clear c7
      try clear c9
      try clear c13
      try clear c13b0
      try clear c13b1
      try clear c14
      try clear c14b0
      try clear c14b1
      try clear c15
      try clear c15b0
      try clear c15b1
      try clear c17
      try clear c17b0
      try clear c18
      try clear c19
      try clear c19b0
      try clear c20
      try clear c20b0
      try clear c21
      try clear c21b0
      try clear c21b1
      try clear c22
      try clear c23
      try clear c23b0
      try clear c23b1
      try clear c23b2
      try clear c27
      try clear c28
      try clear c28b0
      try clear c28b1
      try clear c29
      try clear c29b0
      try clear c29b1
      try clear p30
      try clear q30
      try clear hx30
      try clear p31
      try clear q31
      try clear hx31
      try clear c32
      try clear c32b0
      try clear c32b1
      try clear c49
      try clear c49b0
      try clear c49b1
      try clear c50
      try clear c50b0
      try clear c50b1
      try clear c51
      try clear c51b0
      try clear c51b1
      try clear hcz10_0
      try clear hcz10_1
      try clear hcz10_2
      try clear hcz12_0
      try clear hcz12_1
      try clear hcz12_2
      try clear hcz35_0
      try clear hcz35_1
      try clear hcz35_2
      try clear hcz37_0
      try clear hcz37_1
      try clear hcz37_2
      try clear hcz47_0
      try clear hcz47_1
      try clear hcz47_2
      try clear hfz10_0
      try clear hfz10_1
      try clear hfz10_2
      try clear hfz12_0
      try clear hfz12_1
      try clear hfz12_2
      try clear hfz35_0
      try clear hfz35_1
      try clear hfz35_2
      try clear hfz37_0
      try clear hfz37_1
      try clear hfz37_2
      try clear hfz47_0
      try clear hfz47_1
      try clear hfz47_2
      try clear hx308_0
      try clear hx309_0
      try clear hx313_0
      try clear p2
      try clear p308
      try clear p309
      try clear p313
      try clear q308
      try clear q309
      try clear q313
      obtain ⟨kq, x1_43, rfl, HA, HJ43, BK305, HB⟩ := hcut
      cases kq with
      | zero => exact absurd HA.out (by simp [loesslaw02_RlpWrites.j3])
      | succ kj43 =>
        have H := HA.out
        clear HA
        simp only [loesslaw02_RlpWrites.j3] at H
        have H' := Aside0.mk H
        clear H
        go_wp2
        go_loopg [8, 9, 10] kj43 (fun kq v8 v9 v10 w' => ∃ (x8_2 : List ByteArray) (x9_2 : ByteArray) (x10_2 : Int), v9 = .string x9_2 ∧ v10 = .int .i64 x10_2 ∧ Aside0 (loesslaw02_RlpWrites.l100 kq x1_43 l2 t306 x8_2 x9_2 x10_2 a0_0 a0_1 l0_2 = some r) ∧ Aside0 (kq ≤ kj43) ∧ Aside0 (Kd.R Kd.string 9 w' w.heap.size (fun _ => True) v8 x8_2) ∧ Aside0 (w'.heap[gb305]? = some (.cells #[.bool a0_0, .string a0_1, (.slice A0_2 l0_2.length c0_2)] 25 (0, 0))) ∧ Aside0 (Below w.heap.size w w'))
        case atStart => exact ⟨(([] : List ByteArray)), ((⟨#[]⟩ : ByteArray)), (0), (by first | rfl | (simp; done) | (simp [*]; done)), (by first | rfl | (simp; done) | (simp [*]; done)), H', ⟨Nat.le_refl _⟩, ⟨by first | exact Kd.R_nil _ _ _ _ _ | exact Kd.N_nil _ _ _ _ _ | exact Kd.V_nil _ _ _ _ _ | exact Kd.Q_nil _ _ _ _ _ | exact Kd.S_nil _ _ _ _ _⟩, ⟨by (with_reducible repeat (first | refine blk_drewN ?_ _ | refine blk_drew ?_ | refine blk_alloc ?_ _)); exact BK305.out⟩, ⟨by repeat (first | (with_reducible first | exact HB.out | apply below_alloc | apply pw_below_drewN | apply below_drew1 | refine below_set ?_ GE305.out) | exact HB.out)⟩⟩
        case round =>
          clear H'
          try clear c1
          try clear c2
          try clear p2
          try clear c3
          try clear p3
          try clear q3
          try clear hx3
          try clear c4
          try clear c5
          try clear c6
          try clear c6b0
          try clear p6
          try clear c7
          try clear c9
          try clear c13
          try clear c13b0
          try clear c13b1
          try clear c14
          try clear c14b0
          try clear c14b1
          try clear c15
          try clear c15b0
          try clear c15b1
          try clear c17
          try clear c17b0
          try clear c18
          try clear c19
          try clear c19b0
          try clear c20
          try clear c20b0
          try clear c21
          try clear c21b0
          try clear c21b1
          try clear c22
          try clear c23
          try clear c23b0
          try clear c23b1
          try clear c23b2
          try clear c27
          try clear c28
          try clear c28b0
          try clear c28b1
          try clear c29
          try clear c29b0
          try clear c29b1
          try clear p30
          try clear q30
          try clear hx30
          try clear p31
          try clear q31
          try clear hx31
          try clear c32
          try clear c32b0
          try clear c32b1
          try clear c49
          try clear c49b0
          try clear c49b1
          try clear c50
          try clear c50b0
          try clear c50b1
          try clear c51
          try clear c51b0
          try clear c51b1
          try clear hcz10_0
          try clear hcz10_1
          try clear hcz10_2
          try clear hcz12_0
          try clear hcz12_1
          try clear hcz12_2
          try clear hcz35_0
          try clear hcz35_1
          try clear hcz35_2
          try clear hcz37_0
          try clear hcz37_1
          try clear hcz37_2
          try clear hcz47_0
          try clear hcz47_1
          try clear hcz47_2
          try clear hfz10_0
          try clear hfz10_1
          try clear hfz10_2
          try clear hfz12_0
          try clear hfz12_1
          try clear hfz12_2
          try clear hfz35_0
          try clear hfz35_1
          try clear hfz35_2
          try clear hfz37_0
          try clear hfz37_1
          try clear hfz37_2
          try clear hfz47_0
          try clear hfz47_1
          try clear hfz47_2
          try clear hx308_0
          try clear hx309_0
          try clear hx313_0
          try clear p2
          try clear p3
          try clear p30
          try clear p308
          try clear p309
          try clear p31
          try clear p313
          try clear p6
          try clear q3
          try clear q30
          try clear q308
          try clear q309
          try clear q31
          try clear q313
          obtain ⟨x8_2, x9_2, x10_2, rfl, rfl, HA, HK2, HO_8, BK305, HB⟩ := hrel
          cases gk with
          | zero => exact absurd HA.out (by simp [loesslaw02_RlpWrites.l100])
          | succ k2 =>
            have H := HA.out
            clear HA
            simp only [loesslaw02_RlpWrites.l100] at H
            have HC52 := Aside0.mk H
            clear H
            go_upto_region 9 with (fail)
            go_cut [32] (fun v32 wc => ∃ (kq : Nat) (x32_51 : Bool), v32 = .bool x32_51 ∧ Aside0 (loesslaw02_RlpWrites.j5 kq x1_43 l2 t306 x8_2 x9_2 x10_2 x32_51 a0_0 a0_1 l0_2 = some r) ∧ Aside0 (kq ≤ k2) ∧ Aside0 (Kd.R Kd.string 9 wc w.heap.size (fun _ => True) u8 x8_2) ∧ Aside0 (wc.heap[gb305]? = some (.cells #[.bool a0_0, .string a0_1, (.slice A0_2 l0_2.length c0_2)] 25 (0, 0))) ∧ Aside0 (Below w.heap.size w wc))
            case first =>
              have H := HC52.out
              clear HC52
              by_cases c53 : x10_2 < (l2.length : Int)
              · rw [if_pos c53] at H
                have c53b0 : decide (x10_2 < (l2.length : Int)) = true := decide_eq_true c53
                clear c53
                (first | rw [c53b0] | (simp only [i64_w, i32_w]; rw [c53b0]) | skip)
                have H' := Aside0.mk H
                clear H
                go_wp2
                go_meet
                case rel => exact ⟨_, (decide (x10_2 < 50)), (by first | rfl | (simp; done) | (simp [*]; done)), H', ⟨by have := HJ43.out; have := HK2.out; first | omega | exact Nat.le_refl _⟩, ⟨by (with_reducible repeat (first | apply Kd.R_alloc | apply Kd.R_drewN | apply Kd.R_drew)); exact HO_8.out⟩, ⟨by (with_reducible repeat (first | refine blk_drewN ?_ _ | refine blk_drew ?_ | refine blk_alloc ?_ _)); exact BK305.out⟩, ⟨by repeat (first | (with_reducible first | exact HB.out | apply below_alloc | apply pw_below_drewN | apply below_drew1 | refine below_set ?_ GE305.out) | exact HB.out)⟩⟩
              · rw [if_neg c53] at H
                have c53b0 : decide (x10_2 < (l2.length : Int)) = false := decide_eq_false c53
                clear c53
                (first | rw [c53b0] | (simp only [i64_w, i32_w]; rw [c53b0]) | skip)
                have H' := Aside0.mk H
                clear H
                go_wp2
                go_meet
                case rel => exact ⟨_, (false), (by first | rfl | (simp; done) | (simp [*]; done)), H', ⟨by have := HJ43.out; have := HK2.out; first | omega | exact Nat.le_refl _⟩, ⟨by (with_reducible repeat (first | apply Kd.R_alloc | apply Kd.R_drewN | apply Kd.R_drew)); exact HO_8.out⟩, ⟨by (with_reducible repeat (first | refine blk_drewN ?_ _ | refine blk_drew ?_ | refine blk_alloc ?_ _)); exact BK305.out⟩, ⟨by repeat (first | (with_reducible first | exact HB.out | apply below_alloc | apply pw_below_drewN | apply below_drew1 | refine below_set ?_ GE305.out) | exact HB.out)⟩⟩
            case rest =>
              clear HC52
              try clear c1
              try clear c2
              try clear p2
              try clear c3
              try clear p3
              try clear q3
              try clear hx3
              try clear c4
              try clear c5
              try clear c6
              try clear c6b0
              try clear p6
              try clear c7
              try clear c9
              try clear c13
              try clear c13b0
              try clear c13b1
              try clear c14
              try clear c14b0
              try clear c14b1
              try clear c15
              try clear c15b0
              try clear c15b1
              try clear c17
              try clear c17b0
              try clear c18
              try clear c19
              try clear c19b0
              try clear c20
              try clear c20b0
              try clear c21
              try clear c21b0
              try clear c21b1
              try clear c22
              try clear c23
              try clear c23b0
              try clear c23b1
              try clear c23b2
              try clear c27
              try clear c28
              try clear c28b0
              try clear c28b1
              try clear c29
              try clear c29b0
              try clear c29b1
              try clear p30
              try clear q30
              try clear hx30
              try clear p31
              try clear q31
              try clear hx31
              try clear c32
              try clear c32b0
              try clear c32b1
              try clear c49
              try clear c49b0
              try clear c49b1
              try clear c50
              try clear c50b0
              try clear c50b1
              try clear c51
              try clear c51b0
              try clear c51b1
              try clear c53
              try clear c53b0
              try clear hcz10_0
              try clear hcz10_1
              try clear hcz10_2
              try clear hcz12_0
              try clear hcz12_1
              try clear hcz12_2
              try clear hcz35_0
              try clear hcz35_1
              try clear hcz35_2
              try clear hcz37_0
              try clear hcz37_1
              try clear hcz37_2
              try clear hcz47_0
              try clear hcz47_1
              try clear hcz47_2
              try clear hfz10_0
              try clear hfz10_1
              try clear hfz10_2
              try clear hfz12_0
              try clear hfz12_1
              try clear hfz12_2
              try clear hfz35_0
              try clear hfz35_1
              try clear hfz35_2
              try clear hfz37_0
              try clear hfz37_1
              try clear hfz37_2
              try clear hfz47_0
              try clear hfz47_1
              try clear hfz47_2
              try clear hx308_0
              try clear hx309_0
              try clear hx313_0
              try clear p2
              try clear p3
              try clear p30
              try clear p308
              try clear p309
              try clear p31
              try clear p313
              try clear p6
              try clear q3
              try clear q30
              try clear q308
              try clear q309
              try clear q31
              try clear q313
              obtain ⟨kq, x32_51, rfl, HA, HJ51, HO_8, BK305, HB⟩ := hcut
              cases kq with
              | zero => exact absurd HA.out (by simp [loesslaw02_RlpWrites.j5])
              | succ kj51 =>
                have H := HA.out
                clear HA
                simp only [loesslaw02_RlpWrites.j5] at H
                by_cases c54 : x32_51 = true
                · subst c54
                  have H1 : (if 0 ≤ x10_2 then (if x10_2 < (l2.length : Int) then (if ((rdOf ByteArray.empty l2 x10_2).size : Int) ≤ 1000 then (if x8_2.length < 8796093022208 then (if x9_2.size + (rdOf ByteArray.empty l2 x10_2).size ≤ 9223372036854775807 then (loesslaw02_RlpWrites.l100 kj51 x1_43 l2 t306 (x8_2 ++ [rdOf ByteArray.empty l2 x10_2]) (x9_2 ++ (rdOf ByteArray.empty l2 x10_2)) (wrap64 (x10_2 + 1)) a0_0 a0_1 l0_2) else (none)) else (none)) else (loesslaw02_RlpWrites.l100 kj51 x1_43 l2 t306 x8_2 x9_2 (wrap64 (x10_2 + 1)) a0_0 a0_1 l0_2)) else (none)) else (none)) = some r := by rw [if_pos rfl] at H; exact H
                  clear H
                  have H := H1
                  clear H1
                  by_cases c55 : 0 ≤ x10_2
                  · rw [if_pos c55] at H
                    have c55b0 : decide (0 ≤ x10_2) = true := decide_eq_true c55
                    clear c55
                    by_cases c56 : x10_2 < (l2.length : Int)
                    · rw [if_pos c56] at H
                      have c56b0 : decide (x10_2 < (l2.length : Int)) = true := decide_eq_true c56
                      clear c56
                      by_cases c57 : ((rdOf ByteArray.empty l2 x10_2).size : Int) ≤ 1000
                      · rw [if_pos c57] at H
                        have c57b0 : decide (((rdOf ByteArray.empty l2 x10_2).size : Int) ≤ 1000) = true := decide_eq_true c57
                        have c57b1 : decide ((rdOf ByteArray.empty l2 x10_2).size ≤ 1000) = true := decide_eq_true (by omega)
                        clear c57
                        by_cases c58 : x8_2.length < 8796093022208
                        · rw [if_pos c58] at H
                          have LMc58 := Aside0.mk c58
                          clear c58
                          obtain ⟨y324, hy324⟩ : ∃ y_ : List ByteArray, y_ = (x8_2 ++ [rdOf ByteArray.empty l2 x10_2]) := ⟨_, rfl⟩
                          replace H : (if x9_2.size + (rdOf ByteArray.empty l2 x10_2).size ≤ 9223372036854775807 then (loesslaw02_RlpWrites.l100 kj51 x1_43 l2 t306 y324 (x9_2 ++ (rdOf ByteArray.empty l2 x10_2)) (wrap64 (x10_2 + 1)) a0_0 a0_1 l0_2) else (none)) = some r := by first | (rw [hy324]; with_reducible exact H) | (have H2_ := (Option.bind_some _ _).symm.trans H; rw [hy324]; with_reducible exact H2_) | (have H2_ := (Option.bind_some _ _).symm.trans H; with_reducible exact H2_) | with_reducible exact H | (rw [hy324]; exact H) | exact H
                          have Ny324 := Aside0.mk hy324
                          clear hy324
                          by_cases c59 : x9_2.size + (rdOf ByteArray.empty l2 x10_2).size ≤ 9223372036854775807
                          · rw [if_pos c59] at H
                            have c59b0 := eq_true c59
                            have c59b1 : decide (x9_2.size + (rdOf ByteArray.empty l2 x10_2).size ≤ 9223372036854775807) = true := decide_eq_true c59
                            try have c59b2 : (9223372036854775807 < x9_2.size + (rdOf ByteArray.empty l2 x10_2).size) = False := eq_false (Nat.not_lt.2 c59)
                            have H' := Aside0.mk H
                            clear H
                            have p322 : 0 ≤ (x10_2 : Int) := of_decide_eq_true (by first | (with_reducible assumption) | assumption)
                            have q322 : x10_2 < (l2.length : Int) := of_decide_eq_true (by first | (with_reducible assumption) | assumption)
                            obtain ⟨ad322, e322, hx322_0⟩ := Kd.at_string HR2.out x10_2 p322 q322
                            cases e322
                            replace hx322_0 := (HB.out.cell (World.block_lt_of_cell? w _ hx322_0)).trans hx322_0
                            replace p322 := eq_true p322
                            replace q322 := eq_true q322
                            have p323 : 0 ≤ (x10_2 : Int) := of_decide_eq_true (by first | (with_reducible assumption) | assumption)
                            have q323 : x10_2 < (l2.length : Int) := of_decide_eq_true (by first | (with_reducible assumption) | assumption)
                            obtain ⟨ad323, e323, hx323_0⟩ := Kd.at_string HR2.out x10_2 p323 q323
                            obtain rfl : ad322 = ad323 := (by injection e323)
                            replace hx323_0 := (HB.out.cell (World.block_lt_of_cell? w _ hx323_0)).trans hx323_0
                            replace p323 := eq_true p323
                            replace q323 := eq_true q323
                            go_wp2_with (first | ((with_reducible refine gate_builtin (b := .append) (xs := #[.tmp 41, .tmp 46]) rfl ?_); at_builtin; refine Kd.R_append Kd.string (w0 := w) w.heap.size rfl (.tmp 41) (.tmp 46) 38 9 (.string ⟨#[]⟩) 16 rfl Try.underlying38 info9 rfl (by decide) (by omega) u8 x8_2 (rdOf ByteArray.empty l2 x10_2) [.string (rdOf ByteArray.empty l2 x10_2)] (fun _ => True) (fun _ => False) rfl rfl ?aP (fun _ hk => hk.elim) ?aF ?aO ?aB ?aS ?aL ?_; (case aP => exact rfl); (case aB => exact (by repeat (first | (with_reducible first | exact HB.out | apply below_alloc | apply pw_below_drewN | apply below_drew1 | refine below_set ?_ GE305.out) | exact HB.out))); (case aF => exact (fun _ _ => trivial)); (case aO => exact (by (with_reducible repeat (first | apply Kd.R_alloc | apply Kd.R_drewN | apply Kd.R_drew)); exact HO_8.out)); (case aS => exact (below_size (by repeat (first | (with_reducible first | exact HB.out | apply below_alloc | apply pw_below_drewN | apply below_drew1 | refine below_set ?_ GE305.out) | exact HB.out)))); (case aL => have := LMc58.out; omega); intro v325 w60 ho hb hg hat; rw [← Ny324.out] at ho; have n0_ := Aside0.mk (blk_grown (g := gb305) (o := .cells #[.bool a0_0, .string a0_1, .slice A0_2 l0_2.length c0_2] 25 (0, 0)) (by (with_reducible repeat (first | refine blk_drewN ?_ _ | refine blk_drew ?_ | refine blk_alloc ?_ _)); exact BK305.out) hg (Kd.R_ne HO_8.out BK305.out (by decide))); have n1_ := Aside0.mk (hb); have n2_ := Aside0.mk (ho); clear BK305; clear HB; clear HO_8; have BK305 := n0_; have HB := n1_; have HO326 := n2_; clear n0_ n1_ n2_; clear ho hb hg hat; have p327 : 0 ≤ (x10_2 : Int) := of_decide_eq_true (by first | (with_reducible assumption) | assumption); have q327 : x10_2 < (l2.length : Int) := of_decide_eq_true (by first | (with_reducible assumption) | assumption); obtain ⟨ad327, e327, hx327_0⟩ := Kd.at_string HR2.out x10_2 p327 q327; obtain rfl : ad322 = ad327 := (by injection e327); replace hx327_0 := (HB.out.cell (World.block_lt_of_cell? w _ hx327_0)).trans hx327_0; replace p327 := eq_true p327; replace q327 := eq_true q327))
                            go_roundg kj51
                            case measure => have := HJ43.out; have := HK2.out; have := HJ51.out; omega
                            case rel => exact ⟨(y324), (x9_2 ++ (rdOf ByteArray.empty l2 x10_2)), (wrap64 (x10_2 + 1)), (by first | rfl | (simp; done) | (simp [*]; done)), (by first | rfl | (simp; done) | (simp [*]; done)), H', ⟨by have := HJ43.out; have := HK2.out; have := HJ51.out; omega⟩, ⟨by (with_reducible repeat (first | apply Kd.R_alloc | apply Kd.R_drewN | apply Kd.R_drew)); exact HO326.out⟩, ⟨by (with_reducible repeat (first | refine blk_drewN ?_ _ | refine blk_drew ?_ | refine blk_alloc ?_ _)); exact BK305.out⟩, ⟨by repeat (first | (with_reducible first | exact HB.out | apply below_alloc | apply pw_below_drewN | apply below_drew1 | refine below_set ?_ GE305.out) | exact HB.out)⟩⟩
                          · rw [if_neg c59] at H
                            exact absurd H (by simp)
                        · rw [if_neg c58] at H
                          exact absurd H (by simp)
                      · rw [if_neg c57] at H
                        have c57b0 : decide (((rdOf ByteArray.empty l2 x10_2).size : Int) ≤ 1000) = false := decide_eq_false c57
                        have c57b1 : decide ((rdOf ByteArray.empty l2 x10_2).size ≤ 1000) = false := decide_eq_false (by omega)
                        clear c57
                        have H' := Aside0.mk H
                        clear H
                        have p322 : 0 ≤ (x10_2 : Int) := of_decide_eq_true (by first | (with_reducible assumption) | assumption)
                        have q322 : x10_2 < (l2.length : Int) := of_decide_eq_true (by first | (with_reducible assumption) | assumption)
                        obtain ⟨ad322, e322, hx322_0⟩ := Kd.at_string HR2.out x10_2 p322 q322
                        cases e322
                        replace hx322_0 := (HB.out.cell (World.block_lt_of_cell? w _ hx322_0)).trans hx322_0
                        replace p322 := eq_true p322
                        replace q322 := eq_true q322
                        go_wp2
                        go_roundg kj51
                        case measure => have := HJ43.out; have := HK2.out; have := HJ51.out; omega
                        case rel => exact ⟨(x8_2), (x9_2), (wrap64 (x10_2 + 1)), (by first | rfl | (simp; done) | (simp [*]; done)), (by first | rfl | (simp; done) | (simp [*]; done)), H', ⟨by have := HJ43.out; have := HK2.out; have := HJ51.out; omega⟩, ⟨by (with_reducible repeat (first | apply Kd.R_alloc | apply Kd.R_drewN | apply Kd.R_drew)); exact HO_8.out⟩, ⟨by (with_reducible repeat (first | refine blk_drewN ?_ _ | refine blk_drew ?_ | refine blk_alloc ?_ _)); exact BK305.out⟩, ⟨by repeat (first | (with_reducible first | exact HB.out | apply below_alloc | apply pw_below_drewN | apply below_drew1 | refine below_set ?_ GE305.out) | exact HB.out)⟩⟩
                    · rw [if_neg c56] at H
                      exact absurd H (by simp)
                  · rw [if_neg c55] at H
                    exact absurd H (by simp)
                · replace c54 := Bool.eq_false_iff.mpr c54
                  subst c54
                  have H1 : ((rlp_Encode.f kj51 a0_0 a0_1 l0_2).bind fun bt328 => ((loessref02_Encode.f kj51 a0_0 a0_1 l0_2).bind fun bt330 => (if t306 = true then (if bt328.1.toList = bt330.1.toList then (if bt328.2 = bt330.2 then ((rlp_Bytes.f kj51 x1_43).bind fun t332 => ((loessref02_Bytes.f kj51 x1_43).bind fun t333 => (if t332.toList = t333.toList then ((rlp_List.f kj51 x8_2).bind fun t334 => ((loessref02_List.f kj51 x9_2).bind fun t335 => (some (t334.toList == t335.toList)))) else (none)))) else (none)) else (none)) else (none)))) = some r := by rw [if_neg (show ¬ (false = true) by decide)] at H; exact H
                  clear H
                  have H := H1
                  clear H1
                  replace H := Option.bind_eq_some_iff.mp H
                  obtain ⟨⟨t328, t329⟩, A610, H⟩ := H
                  replace H : ((loessref02_Encode.f kj51 a0_0 a0_1 l0_2).bind fun bt330 => (if t306 = true then (if t328.toList = bt330.1.toList then (if t329 = bt330.2 then ((rlp_Bytes.f kj51 x1_43).bind fun t332 => ((loessref02_Bytes.f kj51 x1_43).bind fun t333 => (if t332.toList = t333.toList then ((rlp_List.f kj51 x8_2).bind fun t334 => ((loessref02_List.f kj51 x9_2).bind fun t335 => (some (t334.toList == t335.toList)))) else (none)))) else (none)) else (none)) else (none))) = some r := H
                  have A61 := Aside0.mk A610
                  clear A610
                  replace H := Option.bind_eq_some_iff.mp H
                  obtain ⟨⟨t330, t331⟩, A620, H⟩ := H
                  replace H : (if t306 = true then (if t328.toList = t330.toList then (if t329 = t331 then ((rlp_Bytes.f kj51 x1_43).bind fun t332 => ((loessref02_Bytes.f kj51 x1_43).bind fun t333 => (if t332.toList = t333.toList then ((rlp_List.f kj51 x8_2).bind fun t334 => ((loessref02_List.f kj51 x9_2).bind fun t335 => (some (t334.toList == t335.toList)))) else (none)))) else (none)) else (none)) else (none)) = some r := H
                  have A62 := Aside0.mk A620
                  clear A620
                  by_cases c63 : t306 = true
                  · subst c63
                    have H1 : (if t328.toList = t330.toList then (if t329 = t331 then ((rlp_Bytes.f kj51 x1_43).bind fun t332 => ((loessref02_Bytes.f kj51 x1_43).bind fun t333 => (if t332.toList = t333.toList then ((rlp_List.f kj51 x8_2).bind fun t334 => ((loessref02_List.f kj51 x9_2).bind fun t335 => (some (t334.toList == t335.toList)))) else (none)))) else (none)) else (none)) = some r := by rw [if_pos rfl] at H; exact H
                    clear H
                    have H := H1
                    clear H1
                    by_cases c64 : t328.toList = t330.toList
                    · rw [if_pos c64] at H
                      have c64b0 : (t328.toList == t330.toList) = true := beq_iff_eq.mpr c64
                      have c64b1 : (t328.toList != t330.toList) = false := bne_eq_false_iff_eq.mpr c64
                      clear c64
                      by_cases c65 : t329 = t331
                      · rw [if_pos c65] at H
                        have c65b0 : (t329 == t331) = true := beq_iff_eq.mpr c65
                        have c65b1 : (t329 != t331) = false := bne_eq_false_iff_eq.mpr c65
                        clear c65
                        replace H := Option.bind_eq_some_iff.mp H
                        obtain ⟨t332, A660, H⟩ := H
                        replace H : ((loessref02_Bytes.f kj51 x1_43).bind fun t333 => (if t332.toList = t333.toList then ((rlp_List.f kj51 x8_2).bind fun t334 => ((loessref02_List.f kj51 x9_2).bind fun t335 => (some (t334.toList == t335.toList)))) else (none))) = some r := H
                        have A66 := Aside0.mk A660
                        clear A660
                        replace H := Option.bind_eq_some_iff.mp H
                        obtain ⟨t333, A670, H⟩ := H
                        replace H : (if t332.toList = t333.toList then ((rlp_List.f kj51 x8_2).bind fun t334 => ((loessref02_List.f kj51 x9_2).bind fun t335 => (some (t334.toList == t335.toList)))) else (none)) = some r := H
                        have A67 := Aside0.mk A670
                        clear A670
                        by_cases c68 : t332.toList = t333.toList
                        · rw [if_pos c68] at H
                          have c68b0 : (t332.toList == t333.toList) = true := beq_iff_eq.mpr c68
                          have c68b1 : (t332.toList != t333.toList) = false := bne_eq_false_iff_eq.mpr c68
                          clear c68
                          replace H := Option.bind_eq_some_iff.mp H
                          obtain ⟨t334, A690, H⟩ := H
                          replace H : ((loessref02_List.f kj51 x9_2).bind fun t335 => (some (t334.toList == t335.toList))) = some r := H
                          have A69 := Aside0.mk A690
                          clear A690
                          replace H := Option.bind_eq_some_iff.mp H
                          obtain ⟨t335, A700, H⟩ := H
                          replace H : (some (t334.toList == t335.toList)) = some r := H
                          have A70 := Aside0.mk A700
                          clear A700
                          obtain rfl := Option.some.inj H
                          have hcz71_0 : wc.cell? ⟨gb305, 0, none⟩ = some (.bool a0_0) := (blk_cell BK305.out 0).trans rfl
                          have hcz71_1 : wc.cell? ⟨gb305, 1, none⟩ = some (.string a0_1) := (blk_cell BK305.out 1).trans rfl
                          have hcz71_2 : wc.cell? ⟨gb305, 2, none⟩ = some (.slice A0_2 l0_2.length c0_2) := (blk_cell BK305.out 2).trans rfl
                          have hfz71_0 := blk_frozen BK305.out 0
                          have hfz71_1 := blk_frozen BK305.out 1
                          have hfz71_2 := blk_frozen BK305.out 2
                          go_wp2_with (first | ((with_reducible refine gate_callee (f := 22) rfl ?_); refine goesL_ (some 56) rfl rfl Try.func22 (by kernel_rfl) rfl #[.agg #[.bool a0_0, .string a0_1, .slice A0_2 l0_2.length c0_2]] rfl (by (try simp only [List.map_toArray, List.map_cons, List.map_nil]); first | done | rfl | (simp only [List.length_drop, List.length_take]; rfl)) ?_; (with_reducible refine (rlp_Encode.calls kj51 a0_0 a0_1 _ _ l0_2 t328 t329 _ ?side1 ?side2 A61.out).mono ?_); (case side1 => repeat (first | exact (Kd.C_below HR0_2.out HB.out) | (with_reducible refine Kd.C_alloc ?_ _) | (with_reducible refine Kd.C_drewN ?_ _) | (with_reducible refine Kd.C_drew ?_))); (case side2 => exact HC0_2.out); rintro e w72 ⟨rfl, hb⟩; refine ⟨_, rfl, ?_⟩; have n0_ := Aside0.mk (Kd.R_below (by (with_reducible repeat (first | apply Kd.R_alloc | apply Kd.R_drewN | apply Kd.R_drew)); exact HO_8.out) hb); have n1_ := Aside0.mk (blk_below (g := gb305) (o := .cells #[.bool a0_0, .string a0_1, .slice A0_2 l0_2.length c0_2] 25 (0, 0)) (by (with_reducible repeat (first | refine blk_drewN ?_ _ | refine blk_drew ?_ | refine blk_alloc ?_ _)); exact BK305.out) hb); have n2_ := Aside0.mk (below_step (by repeat (first | (with_reducible first | exact HB.out | apply below_alloc | apply pw_below_drewN | apply below_drew1 | refine below_set ?_ GE305.out) | exact HB.out)) hb); clear HO_8; clear BK305; clear HB; have HO_8 := n0_; have BK305 := n1_; have HB := n2_; clear n0_ n1_ n2_; (try clear hb); (try clear hb2); (try clear hk); (try clear hi); have hcz73_0 : w72.cell? ⟨gb305, 0, none⟩ = some (.bool a0_0) := (blk_cell BK305.out 0).trans rfl; have hcz73_1 : w72.cell? ⟨gb305, 1, none⟩ = some (.string a0_1) := (blk_cell BK305.out 1).trans rfl; have hcz73_2 : w72.cell? ⟨gb305, 2, none⟩ = some (.slice A0_2 l0_2.length c0_2) := (blk_cell BK305.out 2).trans rfl; have hfz73_0 := blk_frozen BK305.out 0; have hfz73_1 := blk_frozen BK305.out 1; have hfz73_2 := blk_frozen BK305.out 2) | ((with_reducible refine gate_callee (f := 23) rfl ?_); refine goesL_ (some 61) rfl rfl Try.func23 (by kernel_rfl) rfl #[.agg #[.bool a0_0, .string a0_1, .slice A0_2 l0_2.length c0_2]] rfl (by (try simp only [List.map_toArray, List.map_cons, List.map_nil]); first | done | rfl | (simp only [List.length_drop, List.length_take]; rfl)) ?_; (with_reducible refine (loessref02_Encode.calls kj51 a0_0 a0_1 _ _ l0_2 t330 t331 _ ?side1 ?side2 A62.out).mono ?_); (case side1 => repeat (first | exact (Kd.C_below HR0_2.out HB.out) | (with_reducible refine Kd.C_alloc ?_ _) | (with_reducible refine Kd.C_drewN ?_ _) | (with_reducible refine Kd.C_drew ?_))); (case side2 => exact HC0_2.out); rintro e w74 ⟨rfl, hb⟩; refine ⟨_, rfl, ?_⟩; have n0_ := Aside0.mk (Kd.R_below (by (with_reducible repeat (first | apply Kd.R_alloc | apply Kd.R_drewN | apply Kd.R_drew)); exact HO_8.out) hb); have n1_ := Aside0.mk (blk_below (g := gb305) (o := .cells #[.bool a0_0, .string a0_1, .slice A0_2 l0_2.length c0_2] 25 (0, 0)) (by (with_reducible repeat (first | refine blk_drewN ?_ _ | refine blk_drew ?_ | refine blk_alloc ?_ _)); exact BK305.out) hb); have n2_ := Aside0.mk (below_step (by repeat (first | (with_reducible first | exact HB.out | apply below_alloc | apply pw_below_drewN | apply below_drew1 | refine below_set ?_ GE305.out) | exact HB.out)) hb); clear HO_8; clear BK305; clear HB; have HO_8 := n0_; have BK305 := n1_; have HB := n2_; clear n0_ n1_ n2_; (try clear hb); (try clear hb2); (try clear hk); (try clear hi)) | (go_at_call 19; (with_reducible refine (rlp_Bytes.calls kj51 x1_43 t332 _ A66.out).mono ?_); rintro e w75 ⟨rfl, hb⟩; have n0_ := Aside0.mk (Kd.R_below (by (with_reducible repeat (first | apply Kd.R_alloc | apply Kd.R_drewN | apply Kd.R_drew)); exact HO_8.out) hb); have n1_ := Aside0.mk (blk_below (g := gb305) (o := .cells #[.bool a0_0, .string a0_1, .slice A0_2 l0_2.length c0_2] 25 (0, 0)) (by (with_reducible repeat (first | refine blk_drewN ?_ _ | refine blk_drew ?_ | refine blk_alloc ?_ _)); exact BK305.out) hb); have n2_ := Aside0.mk (below_step (by repeat (first | (with_reducible first | exact HB.out | apply below_alloc | apply pw_below_drewN | apply below_drew1 | refine below_set ?_ GE305.out) | exact HB.out)) hb); clear HO_8; clear BK305; clear HB; have HO_8 := n0_; have BK305 := n1_; have HB := n2_; clear n0_ n1_ n2_; (try clear hb); (try clear hb2); (try clear hk); (try clear hi)) | (go_at_call 24; (with_reducible refine (loessref02_Bytes.calls kj51 x1_43 t333 _ A67.out).mono ?_); rintro e w76 ⟨rfl, hb⟩; have n0_ := Aside0.mk (Kd.R_below (by (with_reducible repeat (first | apply Kd.R_alloc | apply Kd.R_drewN | apply Kd.R_drew)); exact HO_8.out) hb); have n1_ := Aside0.mk (blk_below (g := gb305) (o := .cells #[.bool a0_0, .string a0_1, .slice A0_2 l0_2.length c0_2] 25 (0, 0)) (by (with_reducible repeat (first | refine blk_drewN ?_ _ | refine blk_drew ?_ | refine blk_alloc ?_ _)); exact BK305.out) hb); have n2_ := Aside0.mk (below_step (by repeat (first | (with_reducible first | exact HB.out | apply below_alloc | apply pw_below_drewN | apply below_drew1 | refine below_set ?_ GE305.out) | exact HB.out)) hb); clear HO_8; clear BK305; clear HB; have HO_8 := n0_; have BK305 := n1_; have HB := n2_; clear n0_ n1_ n2_; (try clear hb); (try clear hb2); (try clear hk); (try clear hi); obtain ⟨Ao77, co77, eo77⟩ := Kd.R_slice HO_8.out; subst eo77) | (go_at_call 20; (with_reducible refine (rlp_List.calls kj51 _ _ x8_2 t334 _ ?side1 ?side2 A69.out).mono ?_); (case side1 => repeat (first | exact (Kd.R_reads' HO_8.out).2.2 | (with_reducible refine Kd.C_alloc ?_ _) | (with_reducible refine Kd.C_drewN ?_ _) | (with_reducible refine Kd.C_drew ?_))); (case side2 => exact (Kd.R_reads' HO_8.out).2.1); rintro e w78 ⟨rfl, hb⟩; have n0_ := Aside0.mk (Kd.R_below (by (with_reducible repeat (first | apply Kd.R_alloc | apply Kd.R_drewN | apply Kd.R_drew)); exact HO_8.out) hb); have n1_ := Aside0.mk (blk_below (g := gb305) (o := .cells #[.bool a0_0, .string a0_1, .slice A0_2 l0_2.length c0_2] 25 (0, 0)) (by (with_reducible repeat (first | refine blk_drewN ?_ _ | refine blk_drew ?_ | refine blk_alloc ?_ _)); exact BK305.out) hb); have n2_ := Aside0.mk (below_step (by repeat (first | (with_reducible first | exact HB.out | apply below_alloc | apply pw_below_drewN | apply below_drew1 | refine below_set ?_ GE305.out) | exact HB.out)) hb); clear HO_8; clear BK305; clear HB; have HO_8 := n0_; have BK305 := n1_; have HB := n2_; clear n0_ n1_ n2_; (try clear hb); (try clear hb2); (try clear hk); (try clear hi)) | (go_at_call 25; (with_reducible refine (loessref02_List.calls kj51 x9_2 t335 _ A70.out).mono ?_); rintro e w79 ⟨rfl, hb⟩; have n0_ := Aside0.mk (Kd.R_below (by (with_reducible repeat (first | apply Kd.R_alloc | apply Kd.R_drewN | apply Kd.R_drew)); exact HO_8.out) hb); have n1_ := Aside0.mk (blk_below (g := gb305) (o := .cells #[.bool a0_0, .string a0_1, .slice A0_2 l0_2.length c0_2] 25 (0, 0)) (by (with_reducible repeat (first | refine blk_drewN ?_ _ | refine blk_drew ?_ | refine blk_alloc ?_ _)); exact BK305.out) hb); have n2_ := Aside0.mk (below_step (by repeat (first | (with_reducible first | exact HB.out | apply below_alloc | apply pw_below_drewN | apply below_drew1 | refine below_set ?_ GE305.out) | exact HB.out)) hb); clear HO_8; clear BK305; clear HB; have HO_8 := n0_; have BK305 := n1_; have HB := n2_; clear n0_ n1_ n2_; (try clear hb); (try clear hb2); (try clear hk); (try clear hi)))
                          go_ret
                          exact ⟨by first | rfl | (simp [errW_none, errW_some] <;> rfl) | (simp [*, errW_none, errW_some] <;> rfl), by repeat (first | (with_reducible first | exact HB.out | apply below_alloc | apply pw_below_drewN | apply below_drew1 | refine below_set ?_ GE305.out) | exact HB.out)⟩
                        · rw [if_neg c68] at H
                          exact absurd H (by simp)
                      · rw [if_neg c65] at H
                        exact absurd H (by simp)
                    · rw [if_neg c64] at H
                      exact absurd H (by simp)
                  · replace c63 := Bool.eq_false_iff.mpr c63
                    subst c63
                    have H1 : (none) = some r := by rw [if_neg (show ¬ (false = true) by decide)] at H; exact H
                    clear H
                    have H := H1
                    clear H1
                    exact absurd H (by simp)

end Go.Proofs.Ytkkammncpkgodaa.P
