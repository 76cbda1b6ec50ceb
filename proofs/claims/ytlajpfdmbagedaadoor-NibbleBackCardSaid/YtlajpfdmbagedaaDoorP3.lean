/- What Go functions of the program come to: a Lean function and its contract for each. Written by a program of this session over the kit's printer, some contracts by hand. -/
import Derived.Test.YtlajpfdmbagedaaDoorP0
import Derived.Test.YtlajpfdmbagedaaDoorP2
namespace Go.Proofs.YtlajpfdmbagedaaDoor.P
open Go.RowKit Go.Proofs.YtlajpfdmbagedaaDoorW.PrintWords Go.Proofs.YtlajpfdmbagedaaDoorW.PrintLast Go.Proofs.YtlajpfdmbagedaaDoorW.PrintMore
attribute [local go_sem] max2_int min2_int max_two min_two max_three min_three max_four min_four   -- for this text's walks alone
set_option linter.unusedVariables false
set_option linter.unusedSimpArgs false

/-! ### strings_TrimRight: function 27, by hand -/
def strings_TrimRight.f (k : Nat) (a0 a1 : ByteArray) : Option ByteArray :=
  if a1.size = 1 ∧ bt a1 0 < 128 then (if a0.size = 0 then some a0 else strings_trimRightByte.f k a0 (bt a1 0)) else none
theorem strings_TrimRight.mono : ∀ a0 a1 k, LeO (strings_TrimRight.f k a0 a1) (strings_TrimRight.f (k + 1) a0 a1) := by
  intro a0 a1 k
  unfold strings_TrimRight.f
  repeat' first
      | (with_reducible exact strings_trimRightByte.mono _ _ _)
      | (with_reducible exact LeO.refl _)
      | (with_reducible exact LeO.none _)
      | (with_reducible refine LeO.ite ?_ ?_)
set_option maxHeartbeats 2000000 in
set_option maxRecDepth 100000 in
theorem strings_TrimRight.calls (k : Nat) (a0 a1 : ByteArray) (r : ByteArray) (w : World) (h : strings_TrimRight.f k a0 a1 = some r) :
    Calls Tryd.prog 27 #[.string a0, .string a1] w fun e w' => e = .returned (.string r) ∧ Drawn0 w w' := by
  unfold strings_TrimRight.f at h
  by_cases c0 : a1.size = 1 ∧ bt a1 0 < 128
  rotate_left
  · rw [if_neg c0] at h; exact absurd h (by simp)
  rw [if_pos c0] at h
  obtain ⟨c0, c1⟩ := c0
  have hx : ∀ h : 0 < a1.size, ((a1[0]'h).toNat : Int) = bt a1 0 := bt_at a1 0
  have q0 : (0 < a1.size) = True := eq_true (by omega)
  have hne1 : (a1.toList == ([] : List UInt8)) = false := by
    rw [beq_eq_false_iff_ne]
    intro e
    have : a1.size = 0 := by rw [ByteArray.size]; simpa [ByteArray.toList_eq] using congrArg List.length e
    omega
  have hem1 : a1.toList.isEmpty = false := by
    cases hz : a1.toList with
    | nil => rw [hz] at hne1; simp at hne1
    | cons _ _ => rfl
  by_cases c2 : a0.size = 0
  · rw [if_pos c2] at h
    obtain rfl := Option.some.inj h
    have he0 : a0.toList = ([] : List UInt8) := by
      have : a0.data = #[] := Array.eq_empty_of_size_eq_zero c2
      cases a0; simp_all
    have he0' : (a0.toList == ([] : List UInt8)) = true := by rw [he0]; rfl
    have he0e : a0.toList.isEmpty = true := by rw [he0]; rfl
    have C0 := Lib.hid c0
    have C2 := Lib.hid c2
    clear c0 c2 hx
    go_enter Tryd.func27, Tryd.ntmps27
    go_wp2
    go_ret
    exact ⟨by first | rfl | (simp; done), by repeat (first | exact Drawn0.refl _ | apply Drawn0.step)⟩
  · rw [if_neg c2] at h
    have hne0 : (a0.toList == ([] : List UInt8)) = false := by
      rw [beq_eq_false_iff_ne]
      intro e
      exact c2 (by rw [ByteArray.size]; simpa [ByteArray.toList_eq] using congrArg List.length e)
    have hem0 : a0.toList.isEmpty = false := by
      cases hz : a0.toList with
      | nil => rw [hz] at hne0; simp at hne0
      | cons _ _ => rfl
    have hs1 : ((a1.size : Int) == 1) = true := by rw [beq_iff_eq]; omega
    have hb1 : decide (bt a1 0 < 128) = true := decide_eq_true c1
    have H := Lib.hid h
    clear c0 c2 h
    go_enter Tryd.func27, Tryd.ntmps27
    go_wp2_with (go_at_call 30; (with_reducible refine (strings_trimRightByte.calls k _ _ r _ H.out).mono ?_); rintro e w' ⟨rfl, ⟨nd, rfl⟩⟩)
    go_ret
    exact ⟨by first | rfl | (simp; done), by repeat (first | exact Drawn0.refl _ | apply Drawn0.step)⟩

end Go.Proofs.YtlajpfdmbagedaaDoor.P
