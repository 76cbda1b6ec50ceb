/- What Go functions of the program come to: a Lean function and its contract for each. Written by a program of this session over the kit's printer, some contracts by hand. -/
import Derived.Test.YtlajpfdmbagedaaDoorP0
import Derived.Test.YtlajpfdmbagedaaDoorP1
import Derived.Test.YtlajpfdmbagedaaDoorP4
import Derived.Test.YtlajpfdmbagedaaDoorP5
import Derived.Test.YtlajpfdmbagedaaDoorP9
namespace Go.Proofs.YtlajpfdmbagedaaDoor.P
open Go.RowKit Go.Proofs.YtlajpfdmbagedaaDoorW.PrintWords Go.Proofs.YtlajpfdmbagedaaDoorW.PrintLast Go.Proofs.YtlajpfdmbagedaaDoorW.PrintMore
attribute [local go_sem] max2_int min2_int max_two min_two max_three min_three max_four min_four   -- for this text's walks alone
set_option linter.unusedVariables false
set_option linter.unusedSimpArgs false

/-! ### loesslaw03_NibbleBehind: function 6 -/
mutual
def loesslaw03_NibbleBehind.j0 : Nat → ByteArray → ByteArray → Bool → Bool → Bool → Option (Bool)
  | 0, _, _, _, _, _ => none
  | k + 1, x0, x1, x2, x7, x23 => if x23 = true then (some x7) else ((nibble_Of.f k x0).bind fun t154 => (if (t154.size : Int) > 0 then (loesslaw03_NibbleBehind.j1 k x1 x7 t154 x2) else (loesslaw03_NibbleBehind.j1 k x1 x7 t154 false)))
def loesslaw03_NibbleBehind.j1 : Nat → ByteArray → Bool → ByteArray → Bool → Option (Bool)
  | 0, _, _, _, _ => none
  | k + 1, x1, x7, x8, x32 => if x32 = true then (if 0 ≤ (wrap64 ((x8.size : Int) - 1)) then (if (wrap64 ((x8.size : Int) - 1)) ≤ (x8.size : Int) then (loesslaw03_NibbleBehind.j2 k x1 x7 (x8.extract 0 ((wrap64 ((x8.size : Int) - 1)) : Int).toNat)) else (none)) else (none)) else (loesslaw03_NibbleBehind.j2 k x1 x7 x8)
def loesslaw03_NibbleBehind.j2 : Nat → ByteArray → Bool → ByteArray → Option (Bool)
  | 0, _, _, _ => none
  | k + 1, x1, x7, x8 => (nibble_Of.f k x1).bind fun t155 => ((nibble_Next.f k x8).bind fun bt156 => ((nibble_Prefix.f k x8 t155).bind fun t158 => ((nibble_Less.f t155 x8).bind fun t159 => (if bt156.2 = true then ((nibble_Less.f t155 bt156.1).bind fun t160 => (if x7 = true then (if t159 = true then (if ((t158 == (x8.size : Int)) == false) = true then ((nibble_Less.f x8 bt156.1).bind fun t161 => (some t161)) else (none)) else (if ((t158 == (x8.size : Int)) == t160) = true then ((nibble_Less.f x8 bt156.1).bind fun t162 => (some t162)) else (none))) else (none))) else (if x7 = true then (if t159 = true then (if ((t158 == (x8.size : Int)) == false) = true then (some true) else (none)) else (if ((t158 == (x8.size : Int)) == true) = true then (some true) else (none))) else (none))))))
end
def loesslaw03_NibbleBehind.f (k : Nat) (a0 : ByteArray) (a1 : ByteArray) (a2 : Bool) : Option (Bool) := (loesslaw03_awake.f k).bind fun t153 => (if (a0.size : Int) > 200 then (loesslaw03_NibbleBehind.j0 k a0 a1 a2 t153 true) else (loesslaw03_NibbleBehind.j0 k a0 a1 a2 t153 (decide ((a1.size : Int) > 200))))
theorem loesslaw03_NibbleBehind.mono_l : ∀ k, (∀ y0 y1 y2 y3 y4, LeO (loesslaw03_NibbleBehind.j0 k y0 y1 y2 y3 y4) (loesslaw03_NibbleBehind.j0 (k + 1) y0 y1 y2 y3 y4)) ∧ (∀ y0 y1 y2 y3, LeO (loesslaw03_NibbleBehind.j1 k y0 y1 y2 y3) (loesslaw03_NibbleBehind.j1 (k + 1) y0 y1 y2 y3)) ∧ (∀ y0 y1 y2, LeO (loesslaw03_NibbleBehind.j2 k y0 y1 y2) (loesslaw03_NibbleBehind.j2 (k + 1) y0 y1 y2))
  | 0 => ⟨fun _ _ _ _ _ r h => by simp [loesslaw03_NibbleBehind.j0] at h, fun _ _ _ _ r h => by simp [loesslaw03_NibbleBehind.j1] at h, fun _ _ _ r h => by simp [loesslaw03_NibbleBehind.j2] at h⟩
  | k + 1 => by
    obtain ⟨ih0, ih1, ih2⟩ := loesslaw03_NibbleBehind.mono_l k
    refine ⟨?_, ?_, ?_⟩
    · intro y0 y1 y2 y3 y4
      unfold loesslaw03_NibbleBehind.j0
      repeat' first
      | (with_reducible exact ih0 _ _ _ _ _)
      | (with_reducible exact ih1 _ _ _ _)
      | (with_reducible exact ih2 _ _ _)
      | (with_reducible exact loesslaw03_awake.mono _)
      | (with_reducible exact nibble_Next.mono _ _)
      | (with_reducible exact nibble_Of.mono _ _)
      | (with_reducible exact nibble_Prefix.mono _ _ _)
      | (with_reducible exact LeO.refl _)
      | (with_reducible exact LeO.none _)
      | (with_reducible refine LeO.ite ?_ ?_)
      | (with_reducible refine LeO.bind ?_ (fun _ => ?_))
      | exact ih0 _ _ _ _ _
      | exact ih1 _ _ _ _
      | exact ih2 _ _ _
      | exact loesslaw03_awake.mono _
      | exact nibble_Next.mono _ _
      | exact nibble_Of.mono _ _
      | exact nibble_Prefix.mono _ _ _
      | exact LeO.none _
      | refine LeO.ite ?_ ?_
      | refine LeO.bind ?_ (fun _ => ?_)
    · intro y0 y1 y2 y3
      unfold loesslaw03_NibbleBehind.j1
      repeat' first
      | (with_reducible exact ih0 _ _ _ _ _)
      | (with_reducible exact ih1 _ _ _ _)
      | (with_reducible exact ih2 _ _ _)
      | (with_reducible exact loesslaw03_awake.mono _)
      | (with_reducible exact nibble_Next.mono _ _)
      | (with_reducible exact nibble_Of.mono _ _)
      | (with_reducible exact nibble_Prefix.mono _ _ _)
      | (with_reducible exact LeO.refl _)
      | (with_reducible exact LeO.none _)
      | (with_reducible refine LeO.ite ?_ ?_)
      | (with_reducible refine LeO.bind ?_ (fun _ => ?_))
      | exact ih0 _ _ _ _ _
      | exact ih1 _ _ _ _
      | exact ih2 _ _ _
      | exact loesslaw03_awake.mono _
      | exact nibble_Next.mono _ _
      | exact nibble_Of.mono _ _
      | exact nibble_Prefix.mono _ _ _
      | exact LeO.none _
      | refine LeO.ite ?_ ?_
      | refine LeO.bind ?_ (fun _ => ?_)
    · intro y0 y1 y2
      unfold loesslaw03_NibbleBehind.j2
      repeat' first
      | (with_reducible exact ih0 _ _ _ _ _)
      | (with_reducible exact ih1 _ _ _ _)
      | (with_reducible exact ih2 _ _ _)
      | (with_reducible exact loesslaw03_awake.mono _)
      | (with_reducible exact nibble_Next.mono _ _)
      | (with_reducible exact nibble_Of.mono _ _)
      | (with_reducible exact nibble_Prefix.mono _ _ _)
      | (with_reducible exact LeO.refl _)
      | (with_reducible exact LeO.none _)
      | (with_reducible refine LeO.ite ?_ ?_)
      | (with_reducible refine LeO.bind ?_ (fun _ => ?_))
      | exact ih0 _ _ _ _ _
      | exact ih1 _ _ _ _
      | exact ih2 _ _ _
      | exact loesslaw03_awake.mono _
      | exact nibble_Next.mono _ _
      | exact nibble_Of.mono _ _
      | exact nibble_Prefix.mono _ _ _
      | exact LeO.none _
      | refine LeO.ite ?_ ?_
      | refine LeO.bind ?_ (fun _ => ?_)
theorem loesslaw03_NibbleBehind.mono : ∀ a0 a1 a2 k, LeO (loesslaw03_NibbleBehind.f k a0 a1 a2) (loesslaw03_NibbleBehind.f (k + 1) a0 a1 a2) := by
  intro a0 a1 a2 k
  obtain ⟨ih0, ih1, ih2⟩ := loesslaw03_NibbleBehind.mono_l k
  unfold loesslaw03_NibbleBehind.f
  repeat' first
      | (with_reducible exact ih0 _ _ _ _ _)
      | (with_reducible exact ih1 _ _ _ _)
      | (with_reducible exact ih2 _ _ _)
      | (with_reducible exact loesslaw03_awake.mono _)
      | (with_reducible exact nibble_Next.mono _ _)
      | (with_reducible exact nibble_Of.mono _ _)
      | (with_reducible exact nibble_Prefix.mono _ _ _)
      | (with_reducible exact LeO.refl _)
      | (with_reducible exact LeO.none _)
      | (with_reducible refine LeO.ite ?_ ?_)
      | (with_reducible refine LeO.bind ?_ (fun _ => ?_))
      | exact ih0 _ _ _ _ _
      | exact ih1 _ _ _ _
      | exact ih2 _ _ _
      | exact loesslaw03_awake.mono _
      | exact nibble_Next.mono _ _
      | exact nibble_Of.mono _ _
      | exact nibble_Prefix.mono _ _ _
      | exact LeO.none _
      | refine LeO.ite ?_ ?_
      | refine LeO.bind ?_ (fun _ => ?_)
set_option maxHeartbeats 8000000 in
set_option maxRecDepth 100000 in
theorem loesslaw03_NibbleBehind.calls (k : Nat) (a0 : ByteArray) (a1 : ByteArray) (a2 : Bool) (r : Bool) (w : World) (h : loesslaw03_NibbleBehind.f k a0 a1 a2 = some r) :
    Calls Tryd.prog 6 #[.string a0, .string a1, .bool a2] w fun e w' => e = .returned (.bool r) ∧ Below w.heap.size w w' := by
  have HB := Aside0.mk (Below.refl w.heap.size w)
  have H : ((loesslaw03_awake.f k).bind fun t153 => (if (a0.size : Int) > 200 then (loesslaw03_NibbleBehind.j0 k a0 a1 a2 t153 true) else (loesslaw03_NibbleBehind.j0 k a0 a1 a2 t153 (decide ((a1.size : Int) > 200))))) = some r := h
  clear h
  replace H := Option.bind_eq_some_iff.mp H
  obtain ⟨t153, A40, H⟩ := H
  replace H : (if (a0.size : Int) > 200 then (loesslaw03_NibbleBehind.j0 k a0 a1 a2 t153 true) else (loesslaw03_NibbleBehind.j0 k a0 a1 a2 t153 (decide ((a1.size : Int) > 200)))) = some r := H
  have A4 := Aside0.mk A40
  clear A40
  have HC5 := Aside0.mk H
  clear H
  go_enter Tryd.func6, Tryd.ntmps6
  go_upto_region 2 with (first | ((with_reducible refine gate_callee (f := 9) rfl ?_); refine goesL_ (some 15) rfl rfl Tryd.func9 (by kernel_rfl) rfl #[] rfl (by (try simp only [List.map_toArray, List.map_cons, List.map_nil]); first | done | rfl | (simp only [List.length_drop, List.length_take]; rfl)) ?_; (with_reducible refine (loesslaw03_awake.calls k  t153 _ A4.out).mono ?_); rintro e w6 ⟨rfl, hb⟩; refine ⟨_, rfl, ?_⟩; have n0_ := Aside0.mk (below_step (by repeat (first | (with_reducible first | exact HB.out | apply below_alloc | apply pw_below_drewN | apply below_drew1) | exact HB.out)) hb); clear HB; have HB := n0_; clear n0_; (try clear hb); (try clear hb2); (try clear hk); (try clear hi)))
  (try simp only [Act.put, List.setIfInBounds_toArray, List.set_cons_zero, List.set_cons_succ])
  go_cut [23] (fun v23 wc => ∃ (kq : Nat) (x23_4 : Bool), v23 = .bool x23_4 ∧ Aside0 (loesslaw03_NibbleBehind.j0 kq a0 a1 a2 t153 x23_4 = some r) ∧ Aside0 (kq ≤ k) ∧ Aside0 (Below w.heap.size w wc))
  case first =>
    have H := HC5.out
    clear HC5
    by_cases c7 : (a0.size : Int) > 200
    · rw [if_pos c7] at H
      have c7b0 : decide (200 < (a0.size : Int)) = true := decide_eq_true c7
      have c7b1 : decide (200 < a0.size) = true := decide_eq_true (by omega)
      clear c7
      (first | rw [c7b0] | (simp only [i64_w, i32_w]; rw [c7b0]) | skip)
      have H' := Aside0.mk H
      clear H
      go_wp2
      go_meet
      case rel => exact ⟨_, (true), (by first | rfl | (simp; done) | (simp [*]; done)), H', ⟨by first | omega | exact Nat.le_refl _⟩, ⟨by repeat (first | (with_reducible first | exact HB.out | apply below_alloc | apply pw_below_drewN | apply below_drew1) | exact HB.out)⟩⟩
    · rw [if_neg c7] at H
      have c7b0 : decide (200 < (a0.size : Int)) = false := decide_eq_false c7
      have c7b1 : decide (200 < a0.size) = false := decide_eq_false (by omega)
      clear c7
      (first | rw [c7b0] | (simp only [i64_w, i32_w]; rw [c7b0]) | skip)
      have H' := Aside0.mk H
      clear H
      go_wp2
      go_meet
      case rel => exact ⟨_, (decide ((a1.size : Int) > 200)), (by first | rfl | (simp; done) | (simp [*]; done)), H', ⟨by first | omega | exact Nat.le_refl _⟩, ⟨by repeat (first | (with_reducible first | exact HB.out | apply below_alloc | apply pw_below_drewN | apply below_drew1) | exact HB.out)⟩⟩
  case rest =>
    clear HC5
    try clear p2
    try clear c6
    try clear c7
    try clear c7b0
    try clear c7b1
    obtain ⟨kq, x23_4, rfl, HA, HJ4, HB⟩ := hcut
    cases kq with
    | zero => exact absurd HA.out (by simp [loesslaw03_NibbleBehind.j0])
    | succ kj4 =>
      have H := HA.out
      clear HA
      simp only [loesslaw03_NibbleBehind.j0] at H
      by_cases c8 : x23_4 = true
      · subst c8
        have H1 : (some t153) = some r := by rw [if_pos rfl] at H; exact H
        clear H
        have H := H1
        clear H1
        obtain rfl := Option.some.inj H
        go_wp2
        go_ret
        exact ⟨by first | rfl | (simp [errW_none, errW_some] <;> rfl) | (simp [*, errW_none, errW_some] <;> rfl), by repeat (first | (with_reducible first | exact HB.out | apply below_alloc | apply pw_below_drewN | apply below_drew1) | exact HB.out)⟩
      · replace c8 := Bool.eq_false_iff.mpr c8
        subst c8
        have H1 : ((nibble_Of.f kj4 a0).bind fun t154 => (if (t154.size : Int) > 0 then (loesslaw03_NibbleBehind.j1 kj4 a1 t153 t154 a2) else (loesslaw03_NibbleBehind.j1 kj4 a1 t153 t154 false))) = some r := by rw [if_neg (show ¬ (false = true) by decide)] at H; exact H
        clear H
        have H := H1
        clear H1
        replace H := Option.bind_eq_some_iff.mp H
        obtain ⟨t154, A90, H⟩ := H
        replace H : (if (t154.size : Int) > 0 then (loesslaw03_NibbleBehind.j1 kj4 a1 t153 t154 a2) else (loesslaw03_NibbleBehind.j1 kj4 a1 t153 t154 false)) = some r := H
        have A9 := Aside0.mk A90
        clear A90
        have HC10 := Aside0.mk H
        clear H
        go_upto_region 5 with (first | ((with_reducible refine gate_callee (f := 10) rfl ?_); refine goesL_ (some 26) rfl rfl Tryd.func10 (by kernel_rfl) rfl #[.string a0] rfl (by (try simp only [List.map_toArray, List.map_cons, List.map_nil]); first | done | rfl | (simp only [List.length_drop, List.length_take]; rfl)) ?_; (with_reducible refine (nibble_Of.calls kj4 a0 t154 _ A9.out).mono ?_); rintro e w11 ⟨rfl, hb⟩; refine ⟨_, rfl, ?_⟩; have n0_ := Aside0.mk (below_step (by repeat (first | (with_reducible first | exact HB.out | apply below_alloc | apply pw_below_drewN | apply below_drew1) | exact HB.out)) hb); clear HB; have HB := n0_; clear n0_; (try clear hb); (try clear hb2); (try clear hk); (try clear hi)))
        (try simp only [Act.put, List.setIfInBounds_toArray, List.set_cons_zero, List.set_cons_succ])
        go_cut [32] (fun v32 wc => ∃ (kq : Nat) (x32_9 : Bool), v32 = .bool x32_9 ∧ Aside0 (loesslaw03_NibbleBehind.j1 kq a1 t153 t154 x32_9 = some r) ∧ Aside0 (kq ≤ kj4) ∧ Aside0 (Below w.heap.size w wc))
        case first =>
          have H := HC10.out
          clear HC10
          by_cases c12 : (t154.size : Int) > 0
          · rw [if_pos c12] at H
            have c12b0 : decide (0 < (t154.size : Int)) = true := decide_eq_true c12
            have c12b1 : decide (0 < t154.size) = true := decide_eq_true (by omega)
            clear c12
            (first | rw [c12b0] | (simp only [i64_w, i32_w]; rw [c12b0]) | skip)
            have H' := Aside0.mk H
            clear H
            go_wp2
            go_meet
            case rel => exact ⟨_, (a2), (by first | rfl | (simp; done) | (simp [*]; done)), H', ⟨by have := HJ4.out; first | omega | exact Nat.le_refl _⟩, ⟨by repeat (first | (with_reducible first | exact HB.out | apply below_alloc | apply pw_below_drewN | apply below_drew1) | exact HB.out)⟩⟩
          · rw [if_neg c12] at H
            have c12b0 : decide (0 < (t154.size : Int)) = false := decide_eq_false c12
            have c12b1 : decide (0 < t154.size) = false := decide_eq_false (by omega)
            clear c12
            (first | rw [c12b0] | (simp only [i64_w, i32_w]; rw [c12b0]) | skip)
            have H' := Aside0.mk H
            clear H
            go_wp2
            go_meet
            case rel => exact ⟨_, (false), (by first | rfl | (simp; done) | (simp [*]; done)), H', ⟨by have := HJ4.out; first | omega | exact Nat.le_refl _⟩, ⟨by repeat (first | (with_reducible first | exact HB.out | apply below_alloc | apply pw_below_drewN | apply below_drew1) | exact HB.out)⟩⟩
        case rest =>
          clear HC10
          try clear c1
          try clear p2
          try clear c6
          try clear c7
          try clear c7b0
          try clear c7b1
          try clear c8
          try clear c9
          try clear c10
          try clear c12
          try clear c12b0
          try clear c12b1
          try clear p2
          obtain ⟨kq, x32_9, rfl, HA, HJ9, HB⟩ := hcut
          cases kq with
          | zero => exact absurd HA.out (by simp [loesslaw03_NibbleBehind.j1])
          | succ kj9 =>
            have H := HA.out
            clear HA
            simp only [loesslaw03_NibbleBehind.j1] at H
            have HC13 := Aside0.mk H
            clear H
            go_upto_if 32 with (fail)
            go_cut [8] (fun v8 wc => ∃ (kq : Nat) (x8_12 : ByteArray), v8 = .string x8_12 ∧ Aside0 (loesslaw03_NibbleBehind.j2 kq a1 t153 x8_12 = some r) ∧ Aside0 (kq ≤ kj9) ∧ Aside0 (Below w.heap.size w wc))
            case first =>
              have H := HC13.out
              clear HC13
              by_cases c14 : x32_9 = true
              · subst c14
                have H1 : (if 0 ≤ (wrap64 ((t154.size : Int) - 1)) then (if (wrap64 ((t154.size : Int) - 1)) ≤ (t154.size : Int) then (loesslaw03_NibbleBehind.j2 kj9 a1 t153 (t154.extract 0 ((wrap64 ((t154.size : Int) - 1)) : Int).toNat)) else (none)) else (none)) = some r := by rw [if_pos rfl] at H; exact H
                clear H
                have H := H1
                clear H1
                obtain ⟨ji15, hji15⟩ : ∃ j_ : Int, (wrap64 ((t154.size : Int) - 1)) = j_ := ⟨_, rfl⟩
                replace H : (if 0 ≤ (ji15) then (if (ji15) ≤ (t154.size : Int) then (loesslaw03_NibbleBehind.j2 kj9 a1 t153 (t154.extract 0 ((ji15) : Int).toNat)) else (none)) else (none)) = some r := by first | (rw [hji15] at H; exact H) | (simp only [hji15] at H ⊢; exact H)
                have hji15w : (IntKind.i64.wrap ((t154.size : Int) - 1)) = ji15 := (i64_w _).trans hji15
                by_cases c16 : 0 ≤ (ji15)
                · rw [if_pos c16] at H
                  have c16b0 := eq_true c16
                  have c16b1 : decide (0 ≤ (ji15)) = true := decide_eq_true c16
                  clear c16
                  by_cases c17 : (ji15) ≤ (t154.size : Int)
                  · rw [if_pos c17] at H
                    have c17b0 := eq_true c17
                    have c17b1 : decide ((ji15) ≤ (t154.size : Int)) = true := decide_eq_true c17
                    clear c17
                    have H' := Aside0.mk H
                    clear H
                    go_wp2
                    go_meet
                    case rel => exact ⟨_, (t154.extract 0 ((ji15) : Int).toNat), (by first | rfl | (simp; done) | (simp only [← hji15] <;> (first | rfl | simp)) | (simp [*]; done)), H', ⟨by have := HJ4.out; have := HJ9.out; first | omega | exact Nat.le_refl _⟩, ⟨by repeat (first | (with_reducible first | exact HB.out | apply below_alloc | apply pw_below_drewN | apply below_drew1) | exact HB.out)⟩⟩
                  · rw [if_neg c17] at H
                    exact absurd H (by simp)
                · rw [if_neg c16] at H
                  exact absurd H (by simp)
              · replace c14 := Bool.eq_false_iff.mpr c14
                subst c14
                have H1 : (loesslaw03_NibbleBehind.j2 kj9 a1 t153 t154) = some r := by rw [if_neg (show ¬ (false = true) by decide)] at H; exact H
                clear H
                have H := H1
                clear H1
                have H' := Aside0.mk H
                clear H
                go_wp2
                go_meet
                case rel => exact ⟨_, (t154), (by first | rfl | (simp; done) | (simp [*]; done)), H', ⟨by have := HJ4.out; have := HJ9.out; first | omega | exact Nat.le_refl _⟩, ⟨by repeat (first | (with_reducible first | exact HB.out | apply below_alloc | apply pw_below_drewN | apply below_drew1) | exact HB.out)⟩⟩
            case rest =>
              clear HC13
              try clear c1
              try clear p2
              try clear c6
              try clear p6
              try clear c7
              try clear c7b0
              try clear c7b1
              try clear c8
              try clear c9
              try clear c10
              try clear c12
              try clear c12b0
              try clear c12b1
              try clear c14
              try clear c16
              try clear c16b0
              try clear c16b1
              try clear c17
              try clear c17b0
              try clear c17b1
              try clear p2
              obtain ⟨kq, x8_12, rfl, HA, HJ12, HB⟩ := hcut
              cases kq with
              | zero => exact absurd HA.out (by simp [loesslaw03_NibbleBehind.j2])
              | succ kj12 =>
                have H := HA.out
                clear HA
                simp only [loesslaw03_NibbleBehind.j2] at H
                replace H := Option.bind_eq_some_iff.mp H
                obtain ⟨t155, A180, H⟩ := H
                replace H : ((nibble_Next.f kj12 x8_12).bind fun bt156 => ((nibble_Prefix.f kj12 x8_12 t155).bind fun t158 => ((nibble_Less.f t155 x8_12).bind fun t159 => (if bt156.2 = true then ((nibble_Less.f t155 bt156.1).bind fun t160 => (if t153 = true then (if t159 = true then (if ((t158 == (x8_12.size : Int)) == false) = true then ((nibble_Less.f x8_12 bt156.1).bind fun t161 => (some t161)) else (none)) else (if ((t158 == (x8_12.size : Int)) == t160) = true then ((nibble_Less.f x8_12 bt156.1).bind fun t162 => (some t162)) else (none))) else (none))) else (if t153 = true then (if t159 = true then (if ((t158 == (x8_12.size : Int)) == false) = true then (some true) else (none)) else (if ((t158 == (x8_12.size : Int)) == true) = true then (some true) else (none))) else (none)))))) = some r := H
                have A18 := Aside0.mk A180
                clear A180
                replace H := Option.bind_eq_some_iff.mp H
                obtain ⟨⟨t156, t157⟩, A190, H⟩ := H
                replace H : ((nibble_Prefix.f kj12 x8_12 t155).bind fun t158 => ((nibble_Less.f t155 x8_12).bind fun t159 => (if t157 = true then ((nibble_Less.f t155 t156).bind fun t160 => (if t153 = true then (if t159 = true then (if ((t158 == (x8_12.size : Int)) == false) = true then ((nibble_Less.f x8_12 t156).bind fun t161 => (some t161)) else (none)) else (if ((t158 == (x8_12.size : Int)) == t160) = true then ((nibble_Less.f x8_12 t156).bind fun t162 => (some t162)) else (none))) else (none))) else (if t153 = true then (if t159 = true then (if ((t158 == (x8_12.size : Int)) == false) = true then (some true) else (none)) else (if ((t158 == (x8_12.size : Int)) == true) = true then (some true) else (none))) else (none))))) = some r := H
                have A19 := Aside0.mk A190
                clear A190
                replace H := Option.bind_eq_some_iff.mp H
                obtain ⟨t158, A200, H⟩ := H
                replace H : ((nibble_Less.f t155 x8_12).bind fun t159 => (if t157 = true then ((nibble_Less.f t155 t156).bind fun t160 => (if t153 = true then (if t159 = true then (if ((t158 == (x8_12.size : Int)) == false) = true then ((nibble_Less.f x8_12 t156).bind fun t161 => (some t161)) else (none)) else (if ((t158 == (x8_12.size : Int)) == t160) = true then ((nibble_Less.f x8_12 t156).bind fun t162 => (some t162)) else (none))) else (none))) else (if t153 = true then (if t159 = true then (if ((t158 == (x8_12.size : Int)) == false) = true then (some true) else (none)) else (if ((t158 == (x8_12.size : Int)) == true) = true then (some true) else (none))) else (none)))) = some r := H
                have A20 := Aside0.mk A200
                clear A200
                replace H := Option.bind_eq_some_iff.mp H
                obtain ⟨t159, A210, H⟩ := H
                replace H : (if t157 = true then ((nibble_Less.f t155 t156).bind fun t160 => (if t153 = true then (if t159 = true then (if ((t158 == (x8_12.size : Int)) == false) = true then ((nibble_Less.f x8_12 t156).bind fun t161 => (some t161)) else (none)) else (if ((t158 == (x8_12.size : Int)) == t160) = true then ((nibble_Less.f x8_12 t156).bind fun t162 => (some t162)) else (none))) else (none))) else (if t153 = true then (if t159 = true then (if ((t158 == (x8_12.size : Int)) == false) = true then (some true) else (none)) else (if ((t158 == (x8_12.size : Int)) == true) = true then (some true) else (none))) else (none))) = some r := H
                have A21 := Aside0.mk A210
                clear A210
                by_cases c22 : t157 = true
                · subst c22
                  have H1 : ((nibble_Less.f t155 t156).bind fun t160 => (if t153 = true then (if t159 = true then (if ((t158 == (x8_12.size : Int)) == false) = true then ((nibble_Less.f x8_12 t156).bind fun t161 => (some t161)) else (none)) else (if ((t158 == (x8_12.size : Int)) == t160) = true then ((nibble_Less.f x8_12 t156).bind fun t162 => (some t162)) else (none))) else (none))) = some r := by rw [if_pos rfl] at H; exact H
                  clear H
                  have H := H1
                  clear H1
                  replace H := Option.bind_eq_some_iff.mp H
                  obtain ⟨t160, A230, H⟩ := H
                  replace H : (if t153 = true then (if t159 = true then (if ((t158 == (x8_12.size : Int)) == false) = true then ((nibble_Less.f x8_12 t156).bind fun t161 => (some t161)) else (none)) else (if ((t158 == (x8_12.size : Int)) == t160) = true then ((nibble_Less.f x8_12 t156).bind fun t162 => (some t162)) else (none))) else (none)) = some r := H
                  have A23 := Aside0.mk A230
                  clear A230
                  by_cases c24 : t153 = true
                  · subst c24
                    have H1 : (if t159 = true then (if ((t158 == (x8_12.size : Int)) == false) = true then ((nibble_Less.f x8_12 t156).bind fun t161 => (some t161)) else (none)) else (if ((t158 == (x8_12.size : Int)) == t160) = true then ((nibble_Less.f x8_12 t156).bind fun t162 => (some t162)) else (none))) = some r := by rw [if_pos rfl] at H; exact H
                    clear H
                    have H := H1
                    clear H1
                    by_cases c25 : t159 = true
                    · subst c25
                      have H1 : (if ((t158 == (x8_12.size : Int)) == false) = true then ((nibble_Less.f x8_12 t156).bind fun t161 => (some t161)) else (none)) = some r := by rw [if_pos rfl] at H; exact H
                      clear H
                      have H := H1
                      clear H1
                      by_cases c26 : ((t158 == (x8_12.size : Int)) == false) = true
                      · rw [if_pos c26] at H
                        have c26b0 : ((t158 == (x8_12.size : Int)) == false) = true := c26
                        (try (have c26b1 : decide ((t158 == (x8_12.size : Int)) = false) = true := by simpa using c26))
                        (try (have c26b2 : ((t158 == (x8_12.size : Int)) == false) = true := by simpa using c26))
                        clear c26
                        replace H := Option.bind_eq_some_iff.mp H
                        obtain ⟨t161, A270, H⟩ := H
                        replace H : (some t161) = some r := H
                        have A27 := Aside0.mk A270
                        clear A270
                        obtain rfl := Option.some.inj H
                        go_wp2_with (first | ((with_reducible refine gate_callee (f := 10) rfl ?_); refine goesL_ (some 39) rfl rfl Tryd.func10 (by kernel_rfl) rfl #[.string a1] rfl (by (try simp only [List.map_toArray, List.map_cons, List.map_nil]); first | done | rfl | (simp only [List.length_drop, List.length_take]; rfl)) ?_; (with_reducible refine (nibble_Of.calls kj12 a1 t155 _ A18.out).mono ?_); rintro e w28 ⟨rfl, hb⟩; refine ⟨_, rfl, ?_⟩; have n0_ := Aside0.mk (below_step (by repeat (first | (with_reducible first | exact HB.out | apply below_alloc | apply pw_below_drewN | apply below_drew1) | exact HB.out)) hb); clear HB; have HB := n0_; clear n0_; (try clear hb); (try clear hb2); (try clear hk); (try clear hi)) | ((with_reducible refine gate_callee (f := 12) rfl ?_); refine goesL_ (some 42) rfl rfl Tryd.func12 (by kernel_rfl) rfl #[.string x8_12] rfl (by (try simp only [List.map_toArray, List.map_cons, List.map_nil]); first | done | rfl | (simp only [List.length_drop, List.length_take]; rfl)) ?_; (with_reducible refine (nibble_Next.calls kj12 x8_12 t156 true _ A19.out).mono ?_); rintro e w29 ⟨rfl, hb⟩; refine ⟨_, rfl, ?_⟩; have n0_ := Aside0.mk (below_step (by repeat (first | (with_reducible first | exact HB.out | apply below_alloc | apply pw_below_drewN | apply below_drew1) | exact HB.out)) hb); clear HB; have HB := n0_; clear n0_; (try clear hb); (try clear hb2); (try clear hk); (try clear hi)) | ((with_reducible refine gate_callee (f := 13) rfl ?_); refine goesL_ (some 47) rfl rfl Tryd.func13 (by kernel_rfl) rfl #[.string x8_12, .string t155] rfl (by (try simp only [List.map_toArray, List.map_cons, List.map_nil]); first | done | rfl | (simp only [List.length_drop, List.length_take]; rfl)) ?_; (with_reducible refine (nibble_Prefix.calls kj12 x8_12 t155 t158 _ A20.out).mono ?_); rintro e w30 ⟨rfl, hb⟩; refine ⟨_, rfl, ?_⟩; have n0_ := Aside0.mk (below_step (by repeat (first | (with_reducible first | exact HB.out | apply below_alloc | apply pw_below_drewN | apply below_drew1) | exact HB.out)) hb); clear HB; have HB := n0_; clear n0_; (try clear hb); (try clear hb2); (try clear hk); (try clear hi)) | ((with_reducible refine gate_callee (f := 11) rfl ?_); refine goesL_ (some 53) rfl rfl Tryd.func11 (by kernel_rfl) rfl #[.string t155, .string x8_12] rfl (by (try simp only [List.map_toArray, List.map_cons, List.map_nil]); first | done | rfl | (simp only [List.length_drop, List.length_take]; rfl)) ?_; (with_reducible refine (nibble_Less.calls t155 x8_12 true _ A21.out).mono ?_); rintro e w' ⟨rfl, ⟨nd, rfl⟩⟩; refine ⟨_, rfl, ?_⟩) | (go_at_call 11; (with_reducible refine (nibble_Less.calls t155 t156 t160 _ A23.out).mono ?_); rintro e w' ⟨rfl, ⟨nd, rfl⟩⟩) | (go_at_call 11; (with_reducible refine (nibble_Less.calls x8_12 t156 t161 _ A27.out).mono ?_); rintro e w' ⟨rfl, ⟨nd, rfl⟩⟩))
                        go_ret
                        exact ⟨by first | rfl | (simp [errW_none, errW_some] <;> rfl) | (simp [*, errW_none, errW_some] <;> rfl), by repeat (first | (with_reducible first | exact HB.out | apply below_alloc | apply pw_below_drewN | apply below_drew1) | exact HB.out)⟩
                      · rw [if_neg c26] at H
                        exact absurd H (by simp)
                    · replace c25 := Bool.eq_false_iff.mpr c25
                      subst c25
                      have H1 : (if ((t158 == (x8_12.size : Int)) == t160) = true then ((nibble_Less.f x8_12 t156).bind fun t162 => (some t162)) else (none)) = some r := by rw [if_neg (show ¬ (false = true) by decide)] at H; exact H
                      clear H
                      have H := H1
                      clear H1
                      by_cases c31 : ((t158 == (x8_12.size : Int)) == t160) = true
                      · rw [if_pos c31] at H
                        have c31b0 : ((t158 == (x8_12.size : Int)) == t160) = true := c31
                        (try (have c31b1 : decide ((t158 == (x8_12.size : Int)) = t160) = true := by simpa using c31))
                        (try (have c31b2 : ((t158 == (x8_12.size : Int)) == t160) = true := by simpa using c31))
                        clear c31
                        replace H := Option.bind_eq_some_iff.mp H
                        obtain ⟨t162, A320, H⟩ := H
                        replace H : (some t162) = some r := H
                        have A32 := Aside0.mk A320
                        clear A320
                        obtain rfl := Option.some.inj H
                        go_wp2_with (first | ((with_reducible refine gate_callee (f := 10) rfl ?_); refine goesL_ (some 39) rfl rfl Tryd.func10 (by kernel_rfl) rfl #[.string a1] rfl (by (try simp only [List.map_toArray, List.map_cons, List.map_nil]); first | done | rfl | (simp only [List.length_drop, List.length_take]; rfl)) ?_; (with_reducible refine (nibble_Of.calls kj12 a1 t155 _ A18.out).mono ?_); rintro e w33 ⟨rfl, hb⟩; refine ⟨_, rfl, ?_⟩; have n0_ := Aside0.mk (below_step (by repeat (first | (with_reducible first | exact HB.out | apply below_alloc | apply pw_below_drewN | apply below_drew1) | exact HB.out)) hb); clear HB; have HB := n0_; clear n0_; (try clear hb); (try clear hb2); (try clear hk); (try clear hi)) | ((with_reducible refine gate_callee (f := 12) rfl ?_); refine goesL_ (some 42) rfl rfl Tryd.func12 (by kernel_rfl) rfl #[.string x8_12] rfl (by (try simp only [List.map_toArray, List.map_cons, List.map_nil]); first | done | rfl | (simp only [List.length_drop, List.length_take]; rfl)) ?_; (with_reducible refine (nibble_Next.calls kj12 x8_12 t156 true _ A19.out).mono ?_); rintro e w34 ⟨rfl, hb⟩; refine ⟨_, rfl, ?_⟩; have n0_ := Aside0.mk (below_step (by repeat (first | (with_reducible first | exact HB.out | apply below_alloc | apply pw_below_drewN | apply below_drew1) | exact HB.out)) hb); clear HB; have HB := n0_; clear n0_; (try clear hb); (try clear hb2); (try clear hk); (try clear hi)) | ((with_reducible refine gate_callee (f := 13) rfl ?_); refine goesL_ (some 47) rfl rfl Tryd.func13 (by kernel_rfl) rfl #[.string x8_12, .string t155] rfl (by (try simp only [List.map_toArray, List.map_cons, List.map_nil]); first | done | rfl | (simp only [List.length_drop, List.length_take]; rfl)) ?_; (with_reducible refine (nibble_Prefix.calls kj12 x8_12 t155 t158 _ A20.out).mono ?_); rintro e w35 ⟨rfl, hb⟩; refine ⟨_, rfl, ?_⟩; have n0_ := Aside0.mk (below_step (by repeat (first | (with_reducible first | exact HB.out | apply below_alloc | apply pw_below_drewN | apply below_drew1) | exact HB.out)) hb); clear HB; have HB := n0_; clear n0_; (try clear hb); (try clear hb2); (try clear hk); (try clear hi)) | ((with_reducible refine gate_callee (f := 11) rfl ?_); refine goesL_ (some 53) rfl rfl Tryd.func11 (by kernel_rfl) rfl #[.string t155, .string x8_12] rfl (by (try simp only [List.map_toArray, List.map_cons, List.map_nil]); first | done | rfl | (simp only [List.length_drop, List.length_take]; rfl)) ?_; (with_reducible refine (nibble_Less.calls t155 x8_12 false _ A21.out).mono ?_); rintro e w' ⟨rfl, ⟨nd, rfl⟩⟩; refine ⟨_, rfl, ?_⟩) | (go_at_call 11; (with_reducible refine (nibble_Less.calls t155 t156 t160 _ A23.out).mono ?_); rintro e w' ⟨rfl, ⟨nd, rfl⟩⟩) | (go_at_call 11; (with_reducible refine (nibble_Less.calls x8_12 t156 t162 _ A32.out).mono ?_); rintro e w' ⟨rfl, ⟨nd, rfl⟩⟩))
                        go_ret
                        exact ⟨by first | rfl | (simp [errW_none, errW_some] <;> rfl) | (simp [*, errW_none, errW_some] <;> rfl), by repeat (first | (with_reducible first | exact HB.out | apply below_alloc | apply pw_below_drewN | apply below_drew1) | exact HB.out)⟩
                      · rw [if_neg c31] at H
                        exact absurd H (by simp)
                  · replace c24 := Bool.eq_false_iff.mpr c24
                    subst c24
                    have H1 : (none) = some r := by rw [if_neg (show ¬ (false = true) by decide)] at H; exact H
                    clear H
                    have H := H1
                    clear H1
                    exact absurd H (by simp)
                · replace c22 := Bool.eq_false_iff.mpr c22
                  subst c22
                  have H1 : (if t153 = true then (if t159 = true then (if ((t158 == (x8_12.size : Int)) == false) = true then (some true) else (none)) else (if ((t158 == (x8_12.size : Int)) == true) = true then (some true) else (none))) else (none)) = some r := by rw [if_neg (show ¬ (false = true) by decide)] at H; exact H
                  clear H
                  have H := H1
                  clear H1
                  by_cases c36 : t153 = true
                  · subst c36
                    have H1 : (if t159 = true then (if ((t158 == (x8_12.size : Int)) == false) = true then (some true) else (none)) else (if ((t158 == (x8_12.size : Int)) == true) = true then (some true) else (none))) = some r := by rw [if_pos rfl] at H; exact H
                    clear H
                    have H := H1
                    clear H1
                    by_cases c37 : t159 = true
                    · subst c37
                      have H1 : (if ((t158 == (x8_12.size : Int)) == false) = true then (some true) else (none)) = some r := by rw [if_pos rfl] at H; exact H
                      clear H
                      have H := H1
                      clear H1
                      by_cases c38 : ((t158 == (x8_12.size : Int)) == false) = true
                      · rw [if_pos c38] at H
                        have c38b0 : ((t158 == (x8_12.size : Int)) == false) = true := c38
                        (try (have c38b1 : decide ((t158 == (x8_12.size : Int)) = false) = true := by simpa using c38))
                        (try (have c38b2 : ((t158 == (x8_12.size : Int)) == false) = true := by simpa using c38))
                        clear c38
                        obtain rfl := Option.some.inj H
                        go_wp2_with (first | ((with_reducible refine gate_callee (f := 10) rfl ?_); refine goesL_ (some 39) rfl rfl Tryd.func10 (by kernel_rfl) rfl #[.string a1] rfl (by (try simp only [List.map_toArray, List.map_cons, List.map_nil]); first | done | rfl | (simp only [List.length_drop, List.length_take]; rfl)) ?_; (with_reducible refine (nibble_Of.calls kj12 a1 t155 _ A18.out).mono ?_); rintro e w39 ⟨rfl, hb⟩; refine ⟨_, rfl, ?_⟩; have n0_ := Aside0.mk (below_step (by repeat (first | (with_reducible first | exact HB.out | apply below_alloc | apply pw_below_drewN | apply below_drew1) | exact HB.out)) hb); clear HB; have HB := n0_; clear n0_; (try clear hb); (try clear hb2); (try clear hk); (try clear hi)) | ((with_reducible refine gate_callee (f := 12) rfl ?_); refine goesL_ (some 42) rfl rfl Tryd.func12 (by kernel_rfl) rfl #[.string x8_12] rfl (by (try simp only [List.map_toArray, List.map_cons, List.map_nil]); first | done | rfl | (simp only [List.length_drop, List.length_take]; rfl)) ?_; (with_reducible refine (nibble_Next.calls kj12 x8_12 t156 false _ A19.out).mono ?_); rintro e w40 ⟨rfl, hb⟩; refine ⟨_, rfl, ?_⟩; have n0_ := Aside0.mk (below_step (by repeat (first | (with_reducible first | exact HB.out | apply below_alloc | apply pw_below_drewN | apply below_drew1) | exact HB.out)) hb); clear HB; have HB := n0_; clear n0_; (try clear hb); (try clear hb2); (try clear hk); (try clear hi)) | ((with_reducible refine gate_callee (f := 13) rfl ?_); refine goesL_ (some 47) rfl rfl Tryd.func13 (by kernel_rfl) rfl #[.string x8_12, .string t155] rfl (by (try simp only [List.map_toArray, List.map_cons, List.map_nil]); first | done | rfl | (simp only [List.length_drop, List.length_take]; rfl)) ?_; (with_reducible refine (nibble_Prefix.calls kj12 x8_12 t155 t158 _ A20.out).mono ?_); rintro e w41 ⟨rfl, hb⟩; refine ⟨_, rfl, ?_⟩; have n0_ := Aside0.mk (below_step (by repeat (first | (with_reducible first | exact HB.out | apply below_alloc | apply pw_below_drewN | apply below_drew1) | exact HB.out)) hb); clear HB; have HB := n0_; clear n0_; (try clear hb); (try clear hb2); (try clear hk); (try clear hi)) | ((with_reducible refine gate_callee (f := 11) rfl ?_); refine goesL_ (some 53) rfl rfl Tryd.func11 (by kernel_rfl) rfl #[.string t155, .string x8_12] rfl (by (try simp only [List.map_toArray, List.map_cons, List.map_nil]); first | done | rfl | (simp only [List.length_drop, List.length_take]; rfl)) ?_; (with_reducible refine (nibble_Less.calls t155 x8_12 true _ A21.out).mono ?_); rintro e w' ⟨rfl, ⟨nd, rfl⟩⟩; refine ⟨_, rfl, ?_⟩))
                        go_ret
                        exact ⟨by first | rfl | (simp [errW_none, errW_some] <;> rfl) | (simp [*, errW_none, errW_some] <;> rfl), by repeat (first | (with_reducible first | exact HB.out | apply below_alloc | apply pw_below_drewN | apply below_drew1) | exact HB.out)⟩
                      · rw [if_neg c38] at H
                        exact absurd H (by simp)
                    · replace c37 := Bool.eq_false_iff.mpr c37
                      subst c37
                      have H1 : (if ((t158 == (x8_12.size : Int)) == true) = true then (some true) else (none)) = some r := by rw [if_neg (show ¬ (false = true) by decide)] at H; exact H
                      clear H
                      have H := H1
                      clear H1
                      by_cases c42 : ((t158 == (x8_12.size : Int)) == true) = true
                      · rw [if_pos c42] at H
                        have c42b0 : ((t158 == (x8_12.size : Int)) == true) = true := c42
                        (try (have c42b1 : decide ((t158 == (x8_12.size : Int)) = true) = true := by simpa using c42))
                        (try (have c42b2 : ((t158 == (x8_12.size : Int)) == true) = true := by simpa using c42))
                        clear c42
                        obtain rfl := Option.some.inj H
                        go_wp2_with (first | ((with_reducible refine gate_callee (f := 10) rfl ?_); refine goesL_ (some 39) rfl rfl Tryd.func10 (by kernel_rfl) rfl #[.string a1] rfl (by (try simp only [List.map_toArray, List.map_cons, List.map_nil]); first | done | rfl | (simp only [List.length_drop, List.length_take]; rfl)) ?_; (with_reducible refine (nibble_Of.calls kj12 a1 t155 _ A18.out).mono ?_); rintro e w43 ⟨rfl, hb⟩; refine ⟨_, rfl, ?_⟩; have n0_ := Aside0.mk (below_step (by repeat (first | (with_reducible first | exact HB.out | apply below_alloc | apply pw_below_drewN | apply below_drew1) | exact HB.out)) hb); clear HB; have HB := n0_; clear n0_; (try clear hb); (try clear hb2); (try clear hk); (try clear hi)) | ((with_reducible refine gate_callee (f := 12) rfl ?_); refine goesL_ (some 42) rfl rfl Tryd.func12 (by kernel_rfl) rfl #[.string x8_12] rfl (by (try simp only [List.map_toArray, List.map_cons, List.map_nil]); first | done | rfl | (simp only [List.length_drop, List.length_take]; rfl)) ?_; (with_reducible refine (nibble_Next.calls kj12 x8_12 t156 false _ A19.out).mono ?_); rintro e w44 ⟨rfl, hb⟩; refine ⟨_, rfl, ?_⟩; have n0_ := Aside0.mk (below_step (by repeat (first | (with_reducible first | exact HB.out | apply below_alloc | apply pw_below_drewN | apply below_drew1) | exact HB.out)) hb); clear HB; have HB := n0_; clear n0_; (try clear hb); (try clear hb2); (try clear hk); (try clear hi)) | ((with_reducible refine gate_callee (f := 13) rfl ?_); refine goesL_ (some 47) rfl rfl Tryd.func13 (by kernel_rfl) rfl #[.string x8_12, .string t155] rfl (by (try simp only [List.map_toArray, List.map_cons, List.map_nil]); first | done | rfl | (simp only [List.length_drop, List.length_take]; rfl)) ?_; (with_reducible refine (nibble_Prefix.calls kj12 x8_12 t155 t158 _ A20.out).mono ?_); rintro e w45 ⟨rfl, hb⟩; refine ⟨_, rfl, ?_⟩; have n0_ := Aside0.mk (below_step (by repeat (first | (with_reducible first | exact HB.out | apply below_alloc | apply pw_below_drewN | apply below_drew1) | exact HB.out)) hb); clear HB; have HB := n0_; clear n0_; (try clear hb); (try clear hb2); (try clear hk); (try clear hi)) | ((with_reducible refine gate_callee (f := 11) rfl ?_); refine goesL_ (some 53) rfl rfl Tryd.func11 (by kernel_rfl) rfl #[.string t155, .string x8_12] rfl (by (try simp only [List.map_toArray, List.map_cons, List.map_nil]); first | done | rfl | (simp only [List.length_drop, List.length_take]; rfl)) ?_; (with_reducible refine (nibble_Less.calls t155 x8_12 false _ A21.out).mono ?_); rintro e w' ⟨rfl, ⟨nd, rfl⟩⟩; refine ⟨_, rfl, ?_⟩))
                        go_ret
                        exact ⟨by first | rfl | (simp [errW_none, errW_some] <;> rfl) | (simp [*, errW_none, errW_some] <;> rfl), by repeat (first | (with_reducible first | exact HB.out | apply below_alloc | apply pw_below_drewN | apply below_drew1) | exact HB.out)⟩
                      · rw [if_neg c42] at H
                        exact absurd H (by simp)
                  · replace c36 := Bool.eq_false_iff.mpr c36
                    subst c36
                    have H1 : (none) = some r := by rw [if_neg (show ¬ (false = true) by decide)] at H; exact H
                    clear H
                    have H := H1
                    clear H1
                    exact absurd H (by simp)

/-- THE ONE PURE STATEMENT of loesslaw03_NibbleBehind: yours. -/
def loesslaw03_NibbleBehind.Pure : Prop := ∀ (a0 : ByteArray) (a1 : ByteArray) (a2 : Bool), a0.size ≤ 140737488351232 → a1.size ≤ 140737488351232 → ∃ k, loesslaw03_NibbleBehind.f k a0 a1 a2 = some true
theorem loesslaw03_NibbleBehind.walk (P : loesslaw03_NibbleBehind.Pure) (a0 : ByteArray) (a1 : ByteArray) (a2 : Bool) (w : World) (w0 : a0.size ≤ 140737488351232) (w1 : a1.size ≤ 140737488351232) :
    Calls Tryd.prog 6 #[.string a0, .string a1, .bool a2] w fun e w' => e = .returned (.bool true) ∧ Below w.heap.size w w' := by
  obtain ⟨k, h⟩ := P a0 a1 a2 w0 w1
  refine (loesslaw03_NibbleBehind.calls k a0 a1 a2 true w h).mono ?_
  rintro e w' ⟨rfl, hd⟩
  exact ⟨rfl, hd⟩

end Go.Proofs.YtlajpfdmbagedaaDoor.P
