/- What Go functions of the program come to: a Lean function and its contract for each. Written by a program of this session over the kit's printer, some contracts by hand. -/
import Derived.Test.YtlajpfdmbagedaaDoorP0
namespace Go.Proofs.YtlajpfdmbagedaaDoor.P
open Go.RowKit Go.Proofs.YtlajpfdmbagedaaDoorW.PrintWords Go.Proofs.YtlajpfdmbagedaaDoorW.PrintLast Go.Proofs.YtlajpfdmbagedaaDoorW.PrintMore
attribute [local go_sem] max2_int min2_int max_two min_two max_three min_three max_four min_four   -- for this text's walks alone
set_option linter.unusedVariables false
set_option linter.unusedSimpArgs false

/-! ### nibble_Prefix: function 13 -/
def nibble_Prefix.l0 : Nat → ByteArray → ByteArray → Int → Int → Int → Option (Int)
  | 0, _, _, _, _, _ => none
  | k + 1, x0, x1, x5, x12, x13 => if x13 < x12 then (if 0 ≤ x13 then (if x13 < (x0.size : Int) then (if x13 < (x1.size : Int) then (if (bt x0 x13) = (bt x1 x13) then (nibble_Prefix.l0 k x0 x1 x5 x12 (wrap64 (x13 + 1))) else (some x13)) else (none)) else (none)) else (none)) else (some x5)
def nibble_Prefix.f (k : Nat) (a0 : ByteArray) (a1 : ByteArray) : Option (Int) := nibble_Prefix.l0 k a0 a1 (mn (a0.size : Int) (a1.size : Int)) (mn (a0.size : Int) (a1.size : Int)) 0
theorem nibble_Prefix.mono_l : ∀ k, (∀ y0 y1 y2 y3 y4, LeO (nibble_Prefix.l0 k y0 y1 y2 y3 y4) (nibble_Prefix.l0 (k + 1) y0 y1 y2 y3 y4))
  | 0 => fun _ _ _ _ _ r h => by simp [nibble_Prefix.l0] at h
  | k + 1 => by
    have ih0 := nibble_Prefix.mono_l k
    · intro y0 y1 y2 y3 y4
      unfold nibble_Prefix.l0
      repeat' first
      | (with_reducible exact ih0 _ _ _ _ _)
      | (with_reducible exact LeO.refl _)
      | (with_reducible exact LeO.none _)
      | (with_reducible refine LeO.ite ?_ ?_)
      | (with_reducible refine LeO.bind ?_ (fun _ => ?_))
      | exact ih0 _ _ _ _ _
      | exact LeO.none _
      | refine LeO.ite ?_ ?_
      | refine LeO.bind ?_ (fun _ => ?_)
theorem nibble_Prefix.mono : ∀ a0 a1 k, LeO (nibble_Prefix.f k a0 a1) (nibble_Prefix.f (k + 1) a0 a1) := by
  intro a0 a1 k
  have ih0 := nibble_Prefix.mono_l k
  unfold nibble_Prefix.f
  repeat' first
      | (with_reducible exact ih0 _ _ _ _ _)
      | (with_reducible exact LeO.refl _)
      | (with_reducible exact LeO.none _)
      | (with_reducible refine LeO.ite ?_ ?_)
      | (with_reducible refine LeO.bind ?_ (fun _ => ?_))
      | exact ih0 _ _ _ _ _
      | exact LeO.none _
      | refine LeO.ite ?_ ?_
      | refine LeO.bind ?_ (fun _ => ?_)
set_option maxHeartbeats 8000000 in
set_option maxRecDepth 100000 in
theorem nibble_Prefix.calls (k : Nat) (a0 : ByteArray) (a1 : ByteArray) (r : Int) (w : World) (h : nibble_Prefix.f k a0 a1 = some r) :
    Calls Tryd.prog 13 #[.string a0, .string a1] w fun e w' => e = .returned (.int .i64 r) ∧ Drawn0 w w' := by
  have H : (nibble_Prefix.l0 k a0 a1 (mn (a0.size : Int) (a1.size : Int)) (mn (a0.size : Int) (a1.size : Int)) 0) = some r := h
  clear h
  obtain ⟨ji3, hji3⟩ : ∃ j_ : Int, (mn (a0.size : Int) (a1.size : Int)) = j_ := ⟨_, rfl⟩
  replace H : (nibble_Prefix.l0 k a0 a1 ji3 ji3 0) = some r := by first | (rw [hji3] at H; exact H) | (simp only [hji3] at H ⊢; exact H)
  (try (have hji3l : 0 ≤ ji3 := by (rw [← hji3]; unfold mn; (repeat' split) <;> omega)))
  (try (have hji3m : 0 ≤ ji3 := by omega))
  have hji3_ : (if (a1.size : Int) < (a0.size : Int) then (a1.size : Int) else (a0.size : Int)) = ji3 := hji3
  have hji3_n : (if a1.size < a0.size then (a1.size : Int) else (a0.size : Int)) = ji3 := by have z_ := hji3_; simpa only [Int.ofNat_lt] using z_
  have H' := Aside0.mk H
  clear H
  go_enter Tryd.func13, Tryd.ntmps13
  go_wp2
  repeat (go_quiet (fail); try go_wp2)
  go_loopg [13] k (fun kq v13 w' => ∃ (x13_1 : Int), v13 = .int .i64 x13_1 ∧ Aside0 (nibble_Prefix.l0 kq a0 a1 ji3 ji3 x13_1 = some r) ∧ Aside0 (kq ≤ k) ∧ Drawn0 w w')
  case atStart => exact ⟨(0), (by first | rfl | (simp; done) | (simp [*]; done)), H', ⟨Nat.le_refl _⟩, by repeat (first | exact Drawn0.refl _ | apply Drawn0.step)⟩
  case round =>
    clear H'
    try clear c1
    try clear p2
    obtain ⟨x13_1, rfl, HA, HK1, ⟨m1, rfl⟩⟩ := hrel
    cases gk with
    | zero => exact absurd HA.out (by simp [nibble_Prefix.l0])
    | succ k1 =>
      have H := HA.out
      clear HA
      simp only [nibble_Prefix.l0] at H
      by_cases c4 : x13_1 < ji3
      · rw [if_pos c4] at H
        have c4b0 : decide (x13_1 < ji3) = true := decide_eq_true c4
        clear c4
        by_cases c5 : 0 ≤ x13_1
        · rw [if_pos c5] at H
          have c5b0 : decide (0 ≤ x13_1) = true := decide_eq_true c5
          clear c5
          by_cases c6 : x13_1 < (a0.size : Int)
          · rw [if_pos c6] at H
            have c6b0 : decide (x13_1 < (a0.size : Int)) = true := decide_eq_true c6
            clear c6
            by_cases c8 : x13_1 < (a1.size : Int)
            · rw [if_pos c8] at H
              have c8b0 : decide (x13_1 < (a1.size : Int)) = true := decide_eq_true c8
              clear c8
              by_cases c10 : (bt a0 x13_1) = (bt a1 x13_1)
              · rw [if_pos c10] at H
                have c10b0 : ((bt a0 x13_1) == (bt a1 x13_1)) = true := beq_iff_eq.mpr c10
                have c10b1 : ((bt a0 x13_1) != (bt a1 x13_1)) = false := bne_eq_false_iff_eq.mpr c10
                clear c10
                have H' := Aside0.mk H
                clear H
                have p7 : 0 ≤ (x13_1 : Int) := of_decide_eq_true (by first | (with_reducible assumption) | assumption)
                have q7 : x13_1 < (a0.size : Int) := of_decide_eq_true (by first | (with_reducible assumption) | assumption)
                have hx7 := bt_at a0 x13_1
                replace p7 := eq_true p7
                replace q7 := eq_true q7
                have p9 : 0 ≤ (x13_1 : Int) := of_decide_eq_true (by first | (with_reducible assumption) | assumption)
                have q9 : x13_1 < (a1.size : Int) := of_decide_eq_true (by first | (with_reducible assumption) | assumption)
                have hx9 := bt_at a1 x13_1
                replace p9 := eq_true p9
                replace q9 := eq_true q9
                go_wp2
                repeat (go_quiet (fail); try go_wp2)
                go_roundg k1
                case measure => have := HK1.out; omega
                case rel => exact ⟨(wrap64 (x13_1 + 1)), (by first | rfl | (simp; done) | (simp [*]; done)), H', ⟨by have := HK1.out; omega⟩, by repeat (first | exact Drawn0.refl _ | apply Drawn0.step)⟩
              · rw [if_neg c10] at H
                have c10b0 : ((bt a0 x13_1) == (bt a1 x13_1)) = false := beq_eq_false_iff_ne.mpr c10
                have c10b1 : ((bt a0 x13_1) != (bt a1 x13_1)) = true := bne_iff_ne.mpr c10
                obtain rfl := Option.some.inj H
                have p7 : 0 ≤ (x13_1 : Int) := of_decide_eq_true (by first | (with_reducible assumption) | assumption)
                have q7 : x13_1 < (a0.size : Int) := of_decide_eq_true (by first | (with_reducible assumption) | assumption)
                have hx7 := bt_at a0 x13_1
                replace p7 := eq_true p7
                replace q7 := eq_true q7
                have p9 : 0 ≤ (x13_1 : Int) := of_decide_eq_true (by first | (with_reducible assumption) | assumption)
                have q9 : x13_1 < (a1.size : Int) := of_decide_eq_true (by first | (with_reducible assumption) | assumption)
                have hx9 := bt_at a1 x13_1
                replace p9 := eq_true p9
                replace q9 := eq_true q9
                go_wp2
                repeat (go_quiet (fail); try go_wp2)
                go_ret
                exact ⟨by first | rfl | (simp; done) | (simp only [← hji3] <;> (first | rfl | simp)) | (simp [*]; done), by repeat (first | exact Drawn0.refl _ | apply Drawn0.step)⟩
            · rw [if_neg c8] at H
              exact absurd H (by simp)
          · rw [if_neg c6] at H
            exact absurd H (by simp)
        · rw [if_neg c5] at H
          exact absurd H (by simp)
      · rw [if_neg c4] at H
        have c4b0 : decide (x13_1 < ji3) = false := decide_eq_false c4
        clear c4
        obtain rfl := Option.some.inj H
        go_wp2
        repeat (go_quiet (fail); try go_wp2)
        go_ret
        exact ⟨by first | rfl | (simp; done) | (simp only [← hji3] <;> (first | rfl | simp)) | (simp [*]; done), by repeat (first | exact Drawn0.refl _ | apply Drawn0.step)⟩

-- NOT PRINTED: function 28 (nibble_Unpack_1)

end Go.Proofs.YtlajpfdmbagedaaDoor.P
