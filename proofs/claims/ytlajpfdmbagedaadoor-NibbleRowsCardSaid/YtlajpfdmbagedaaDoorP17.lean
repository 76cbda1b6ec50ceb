/- What Go functions of the program come to: a Lean function and its contract for each. Written by a program of this session over the kit's printer, some contracts by hand. -/
import Derived.Test.YtlajpfdmbagedaaDoorP0
import Derived.Test.YtlajpfdmbagedaaDoorP1
import Derived.Test.YtlajpfdmbagedaaDoorP4
import Derived.Test.YtlajpfdmbagedaaDoorP5
import Derived.Test.YtlajpfdmbagedaaDoorP6
import Derived.Test.YtlajpfdmbagedaaDoorP8
import Derived.Test.YtlajpfdmbagedaaDoorP9
import Derived.Test.YtlajpfdmbagedaaDoorP12
import Derived.Test.YtlajpfdmbagedaaDoorP13
import Derived.Test.YtlajpfdmbagedaaDoorP14
import Derived.Test.YtlajpfdmbagedaaDoorP15
import Derived.Test.YtlajpfdmbagedaaDoorP16
namespace Go.Proofs.YtlajpfdmbagedaaDoor.P
open Go.RowKit Go.Proofs.YtlajpfdmbagedaaDoorW.PrintWords Go.Proofs.YtlajpfdmbagedaaDoorW.PrintLast Go.Proofs.YtlajpfdmbagedaaDoorW.PrintMore
attribute [local go_sem] max2_int min2_int max_two min_two max_three min_three max_four min_four   -- for this text's walks alone
set_option linter.unusedVariables false
set_option linter.unusedSimpArgs false

/-! ### loesslaw03_NibbleRows: function 7 -/
mutual
def loesslaw03_NibbleRows.j0 : Nat → ByteArray → ByteArray → Bool → Bool → Option (Bool)
  | 0, _, _, _, _ => none
  | k + 1, x0, x1, x2, x7 => if (x1.size : Int) > 3000 then (if 0 ≤ 3000 then (if 3000 ≤ (x1.size : Int) then (loesslaw03_NibbleRows.j1 k x0 (x1.extract 0 3000) x2 x7) else (none)) else (none)) else (loesslaw03_NibbleRows.j1 k x0 x1 x2 x7)
def loesslaw03_NibbleRows.j1 : Nat → ByteArray → ByteArray → Bool → Bool → Option (Bool)
  | 0, _, _, _, _ => none
  | k + 1, x0, x1, x2, x7 => (nibble_Bytes.f k x0).bind fun bt217 => ((loessref03_Bytes.f k x0).bind fun bt219 => ((nibble_Pack.f k x0 x2).bind fun bt221 => ((loessref03_Pack.f k x0 x2).bind fun bt223 => ((nibble_Unpack.f k x1).bind fun bt225 => ((loessref03_Unpack.f k x1).bind fun bt228 => ((nibble_Next.f k x0).bind fun bt231 => ((loessref03_Next.f k x0).bind fun bt233 => (if x7 = true then ((nibble_Of.f k x0).bind fun t235 => ((loessref03_Of.f k x0).bind fun t236 => (if t235.toList = t236.toList then ((nibble_Right.f k x0).bind fun t237 => ((loessref03_Right.f k x0).bind fun t238 => (if (t237 == t238) = true then (if bt217.1.toList = bt219.1.toList then (if (bt217.2 == bt219.2) = true then (if bt221.1.toList = bt223.1.toList then (if bt221.2 = bt223.2 then (if bt225.1.toList = bt228.1.toList then (if (bt225.2.1 == bt228.2.1) = true then (if bt225.2.2 = bt228.2.2 then (if bt231.1.toList = bt233.1.toList then (if (bt231.2 == bt233.2) = true then ((nibble_Prefix.f k x0 x1).bind fun t239 => ((loessref03_Prefix.f k x0 x1).bind fun t240 => (if t239 = t240 then ((nibble_Less.f x0 x1).bind fun t241 => ((loessref03_Less.f k x0 x1).bind fun t242 => (some (t241 == t242)))) else (none)))) else (none)) else (none)) else (none)) else (none)) else (none)) else (none)) else (none)) else (none)) else (none)) else (none)))) else (none)))) else (none)))))))))
end
def loesslaw03_NibbleRows.f (k : Nat) (a0 : ByteArray) (a1 : ByteArray) (a2 : Bool) : Option (Bool) := (loesslaw03_awake.f k).bind fun t216 => (if (a0.size : Int) > 3000 then (if 0 ≤ 3000 then (if 3000 ≤ (a0.size : Int) then (loesslaw03_NibbleRows.j0 k (a0.extract 0 3000) a1 a2 t216) else (none)) else (none)) else (loesslaw03_NibbleRows.j0 k a0 a1 a2 t216))
theorem loesslaw03_NibbleRows.mono_l : ∀ k, (∀ y0 y1 y2 y3, LeO (loesslaw03_NibbleRows.j0 k y0 y1 y2 y3) (loesslaw03_NibbleRows.j0 (k + 1) y0 y1 y2 y3)) ∧ (∀ y0 y1 y2 y3, LeO (loesslaw03_NibbleRows.j1 k y0 y1 y2 y3) (loesslaw03_NibbleRows.j1 (k + 1) y0 y1 y2 y3))
  | 0 => ⟨fun _ _ _ _ r h => by simp [loesslaw03_NibbleRows.j0] at h, fun _ _ _ _ r h => by simp [loesslaw03_NibbleRows.j1] at h⟩
  | k + 1 => by
    obtain ⟨ih0, ih1⟩ := loesslaw03_NibbleRows.mono_l k
    refine ⟨?_, ?_⟩
    · intro y0 y1 y2 y3
      unfold loesslaw03_NibbleRows.j0
      repeat' first
      | (with_reducible exact ih0 _ _ _ _)
      | (with_reducible exact ih1 _ _ _ _)
      | (with_reducible exact loesslaw03_awake.mono _)
      | (with_reducible exact loessref03_Bytes.mono _ _)
      | (with_reducible exact loessref03_Less.mono _ _ _)
      | (with_reducible exact loessref03_Next.mono _ _)
      | (with_reducible exact loessref03_Of.mono _ _)
      | (with_reducible exact loessref03_Pack.mono _ _ _)
      | (with_reducible exact loessref03_Prefix.mono _ _ _)
      | (with_reducible exact loessref03_Right.mono _ _)
      | (with_reducible exact loessref03_Unpack.mono _ _)
      | (with_reducible exact nibble_Bytes.mono _ _)
      | (with_reducible exact nibble_Next.mono _ _)
      | (with_reducible exact nibble_Of.mono _ _)
      | (with_reducible exact nibble_Pack.mono _ _ _)
      | (with_reducible exact nibble_Prefix.mono _ _ _)
      | (with_reducible exact nibble_Right.mono _ _)
      | (with_reducible exact nibble_Unpack.mono _ _)
      | (with_reducible exact LeO.refl _)
      | (with_reducible exact LeO.none _)
      | (with_reducible refine LeO.ite ?_ ?_)
      | (with_reducible refine LeO.bind ?_ (fun _ => ?_))
      | exact ih0 _ _ _ _
      | exact ih1 _ _ _ _
      | exact loesslaw03_awake.mono _
      | exact loessref03_Bytes.mono _ _
      | exact loessref03_Less.mono _ _ _
      | exact loessref03_Next.mono _ _
      | exact loessref03_Of.mono _ _
      | exact loessref03_Pack.mono _ _ _
      | exact loessref03_Prefix.mono _ _ _
      | exact loessref03_Right.mono _ _
      | exact loessref03_Unpack.mono _ _
      | exact nibble_Bytes.mono _ _
      | exact nibble_Next.mono _ _
      | exact nibble_Of.mono _ _
      | exact nibble_Pack.mono _ _ _
      | exact nibble_Prefix.mono _ _ _
      | exact nibble_Right.mono _ _
      | exact nibble_Unpack.mono _ _
      | exact LeO.none _
      | refine LeO.ite ?_ ?_
      | refine LeO.bind ?_ (fun _ => ?_)
    · intro y0 y1 y2 y3
      unfold loesslaw03_NibbleRows.j1
      repeat' first
      | (with_reducible exact ih0 _ _ _ _)
      | (with_reducible exact ih1 _ _ _ _)
      | (with_reducible exact loesslaw03_awake.mono _)
      | (with_reducible exact loessref03_Bytes.mono _ _)
      | (with_reducible exact loessref03_Less.mono _ _ _)
      | (with_reducible exact loessref03_Next.mono _ _)
      | (with_reducible exact loessref03_Of.mono _ _)
      | (with_reducible exact loessref03_Pack.mono _ _ _)
      | (with_reducible exact loessref03_Prefix.mono _ _ _)
      | (with_reducible exact loessref03_Right.mono _ _)
      | (with_reducible exact loessref03_Unpack.mono _ _)
      | (with_reducible exact nibble_Bytes.mono _ _)
      | (with_reducible exact nibble_Next.mono _ _)
      | (with_reducible exact nibble_Of.mono _ _)
      | (with_reducible exact nibble_Pack.mono _ _ _)
      | (with_reducible exact nibble_Prefix.mono _ _ _)
      | (with_reducible exact nibble_Right.mono _ _)
      | (with_reducible exact nibble_Unpack.mono _ _)
      | (with_reducible exact LeO.refl _)
      | (with_reducible exact LeO.none _)
      | (with_reducible refine LeO.ite ?_ ?_)
      | (with_reducible refine LeO.bind ?_ (fun _ => ?_))
      | exact ih0 _ _ _ _
      | exact ih1 _ _ _ _
      | exact loesslaw03_awake.mono _
      | exact loessref03_Bytes.mono _ _
      | exact loessref03_Less.mono _ _ _
      | exact loessref03_Next.mono _ _
      | exact loessref03_Of.mono _ _
      | exact loessref03_Pack.mono _ _ _
      | exact loessref03_Prefix.mono _ _ _
      | exact loessref03_Right.mono _ _
      | exact loessref03_Unpack.mono _ _
      | exact nibble_Bytes.mono _ _
      | exact nibble_Next.mono _ _
      | exact nibble_Of.mono _ _
      | exact nibble_Pack.mono _ _ _
      | exact nibble_Prefix.mono _ _ _
      | exact nibble_Right.mono _ _
      | exact nibble_Unpack.mono _ _
      | exact LeO.none _
      | refine LeO.ite ?_ ?_
      | refine LeO.bind ?_ (fun _ => ?_)
theorem loesslaw03_NibbleRows.mono : ∀ a0 a1 a2 k, LeO (loesslaw03_NibbleRows.f k a0 a1 a2) (loesslaw03_NibbleRows.f (k + 1) a0 a1 a2) := by
  intro a0 a1 a2 k
  obtain ⟨ih0, ih1⟩ := loesslaw03_NibbleRows.mono_l k
  unfold loesslaw03_NibbleRows.f
  repeat' first
      | (with_reducible exact ih0 _ _ _ _)
      | (with_reducible exact ih1 _ _ _ _)
      | (with_reducible exact loesslaw03_awake.mono _)
      | (with_reducible exact loessref03_Bytes.mono _ _)
      | (with_reducible exact loessref03_Less.mono _ _ _)
      | (with_reducible exact loessref03_Next.mono _ _)
      | (with_reducible exact loessref03_Of.mono _ _)
      | (with_reducible exact loessref03_Pack.mono _ _ _)
      | (with_reducible exact loessref03_Prefix.mono _ _ _)
      | (with_reducible exact loessref03_Right.mono _ _)
      | (with_reducible exact loessref03_Unpack.mono _ _)
      | (with_reducible exact nibble_Bytes.mono _ _)
      | (with_reducible exact nibble_Next.mono _ _)
      | (with_reducible exact nibble_Of.mono _ _)
      | (with_reducible exact nibble_Pack.mono _ _ _)
      | (with_reducible exact nibble_Prefix.mono _ _ _)
      | (with_reducible exact nibble_Right.mono _ _)
      | (with_reducible exact nibble_Unpack.mono _ _)
      | (with_reducible exact LeO.refl _)
      | (with_reducible exact LeO.none _)
      | (with_reducible refine LeO.ite ?_ ?_)
      | (with_reducible refine LeO.bind ?_ (fun _ => ?_))
      | exact ih0 _ _ _ _
      | exact ih1 _ _ _ _
      | exact loesslaw03_awake.mono _
      | exact loessref03_Bytes.mono _ _
      | exact loessref03_Less.mono _ _ _
      | exact loessref03_Next.mono _ _
      | exact loessref03_Of.mono _ _
      | exact loessref03_Pack.mono _ _ _
      | exact loessref03_Prefix.mono _ _ _
      | exact loessref03_Right.mono _ _
      | exact loessref03_Unpack.mono _ _
      | exact nibble_Bytes.mono _ _
      | exact nibble_Next.mono _ _
      | exact nibble_Of.mono _ _
      | exact nibble_Pack.mono _ _ _
      | exact nibble_Prefix.mono _ _ _
      | exact nibble_Right.mono _ _
      | exact nibble_Unpack.mono _ _
      | exact LeO.none _
      | refine LeO.ite ?_ ?_
      | refine LeO.bind ?_ (fun _ => ?_)
set_option maxHeartbeats 8000000 in
set_option maxRecDepth 100000 in
theorem loesslaw03_NibbleRows.calls (k : Nat) (a0 : ByteArray) (a1 : ByteArray) (a2 : Bool) (r : Bool) (w : World) (h : loesslaw03_NibbleRows.f k a0 a1 a2 = some r) :
    Calls Tryd.prog 7 #[.string a0, .string a1, .bool a2] w fun e w' => e = .returned (.bool r) ∧ Below w.heap.size w w' := by
  have HB := Aside0.mk (Below.refl w.heap.size w)
  have H : ((loesslaw03_awake.f k).bind fun t216 => (if (a0.size : Int) > 3000 then (if 0 ≤ 3000 then (if 3000 ≤ (a0.size : Int) then (loesslaw03_NibbleRows.j0 k (a0.extract 0 3000) a1 a2 t216) else (none)) else (none)) else (loesslaw03_NibbleRows.j0 k a0 a1 a2 t216))) = some r := h
  clear h
  replace H := Option.bind_eq_some_iff.mp H
  obtain ⟨t216, A40, H⟩ := H
  replace H : (if (a0.size : Int) > 3000 then (if 0 ≤ 3000 then (if 3000 ≤ (a0.size : Int) then (loesslaw03_NibbleRows.j0 k (a0.extract 0 3000) a1 a2 t216) else (none)) else (none)) else (loesslaw03_NibbleRows.j0 k a0 a1 a2 t216)) = some r := H
  have A4 := Aside0.mk A40
  clear A40
  have HC5 := Aside0.mk H
  clear H
  go_enter Tryd.func7, Tryd.ntmps7
  go_upto_if 29 with (first | ((with_reducible refine gate_callee (f := 9) rfl ?_); refine goesL_ (some 26) rfl rfl Tryd.func9 (by kernel_rfl) rfl #[] rfl (by (try simp only [List.map_toArray, List.map_cons, List.map_nil]); first | done | rfl | (simp only [List.length_drop, List.length_take]; rfl)) ?_; (with_reducible refine (loesslaw03_awake.calls k  t216 _ A4.out).mono ?_); rintro e w6 ⟨rfl, hb⟩; refine ⟨_, rfl, ?_⟩; have n0_ := Aside0.mk (below_step (by repeat (first | (with_reducible first | exact HB.out | apply below_alloc | apply pw_below_drewN | apply below_drew1) | exact HB.out)) hb); clear HB; have HB := n0_; clear n0_; (try clear hb); (try clear hb2); (try clear hk); (try clear hi)))
  (try simp only [Act.put, List.setIfInBounds_toArray, List.set_cons_zero, List.set_cons_succ])
  go_cut [0] (fun v0 wc => ∃ (kq : Nat) (x0_4 : ByteArray), v0 = .string x0_4 ∧ Aside0 (loesslaw03_NibbleRows.j0 kq x0_4 a1 a2 t216 = some r) ∧ Aside0 (kq ≤ k) ∧ Aside0 (Below w.heap.size w wc))
  case first =>
    have H := HC5.out
    clear HC5
    by_cases c7 : (a0.size : Int) > 3000
    · rw [if_pos c7] at H
      have c7b0 : decide (3000 < (a0.size : Int)) = true := decide_eq_true c7
      have c7b1 : decide (3000 < a0.size) = true := decide_eq_true (by omega)
      clear c7
      (first | rw [c7b0] | (simp only [i64_w, i32_w]; rw [c7b0]) | skip)
      by_cases c8 : 0 ≤ 3000
      · rw [if_pos c8] at H
        have c8b0 := eq_true c8
        have c8b1 : decide (0 ≤ 3000) = true := decide_eq_true c8
        clear c8
        by_cases c9 : 3000 ≤ (a0.size : Int)
        · rw [if_pos c9] at H
          have c9b0 := eq_true c9
          have c9b1 : decide (3000 ≤ (a0.size : Int)) = true := decide_eq_true c9
          clear c9
          have H' := Aside0.mk H
          clear H
          go_wp2
          go_meet
          case rel => exact ⟨_, (a0.extract 0 3000), (by first | rfl | (simp; done) | (simp [*]; done)), H', ⟨by first | omega | exact Nat.le_refl _⟩, ⟨by repeat (first | (with_reducible first | exact HB.out | apply below_alloc | apply pw_below_drewN | apply below_drew1) | exact HB.out)⟩⟩
        · rw [if_neg c9] at H
          exact absurd H (by simp)
      · rw [if_neg c8] at H
        exact absurd H (by simp)
    · rw [if_neg c7] at H
      have c7b0 : decide (3000 < (a0.size : Int)) = false := decide_eq_false c7
      have c7b1 : decide (3000 < a0.size) = false := decide_eq_false (by omega)
      clear c7
      (first | rw [c7b0] | (simp only [i64_w, i32_w]; rw [c7b0]) | skip)
      have H' := Aside0.mk H
      clear H
      go_wp2
      go_meet
      case rel => exact ⟨_, (a0), (by first | rfl | (simp; done) | (simp [*]; done)), H', ⟨by first | omega | exact Nat.le_refl _⟩, ⟨by repeat (first | (with_reducible first | exact HB.out | apply below_alloc | apply pw_below_drewN | apply below_drew1) | exact HB.out)⟩⟩
  case rest =>
    clear HC5
    try clear p2
    try clear c7
    try clear c7b0
    try clear c7b1
    try clear c8
    try clear c8b0
    try clear c8b1
    try clear c9
    try clear c9b0
    try clear c9b1
    obtain ⟨kq, x0_4, rfl, HA, HJ4, HB⟩ := hcut
    cases kq with
    | zero => exact absurd HA.out (by simp [loesslaw03_NibbleRows.j0])
    | succ kj4 =>
      have H := HA.out
      clear HA
      simp only [loesslaw03_NibbleRows.j0] at H
      have HC10 := Aside0.mk H
      clear H
      go_upto_if 34 with (fail)
      go_cut [1] (fun v1 wc => ∃ (kq : Nat) (x1_9 : ByteArray), v1 = .string x1_9 ∧ Aside0 (loesslaw03_NibbleRows.j1 kq x0_4 x1_9 a2 t216 = some r) ∧ Aside0 (kq ≤ kj4) ∧ Aside0 (Below w.heap.size w wc))
      case first =>
        have H := HC10.out
        clear HC10
        by_cases c11 : (a1.size : Int) > 3000
        · rw [if_pos c11] at H
          have c11b0 : decide (3000 < (a1.size : Int)) = true := decide_eq_true c11
          have c11b1 : decide (3000 < a1.size) = true := decide_eq_true (by omega)
          clear c11
          (first | rw [c11b0] | (simp only [i64_w, i32_w]; rw [c11b0]) | skip)
          by_cases c12 : 0 ≤ 3000
          · rw [if_pos c12] at H
            have c12b0 := eq_true c12
            have c12b1 : decide (0 ≤ 3000) = true := decide_eq_true c12
            clear c12
            by_cases c13 : 3000 ≤ (a1.size : Int)
            · rw [if_pos c13] at H
              have c13b0 := eq_true c13
              have c13b1 : decide (3000 ≤ (a1.size : Int)) = true := decide_eq_true c13
              clear c13
              have H' := Aside0.mk H
              clear H
              go_wp2
              go_meet
              case rel => exact ⟨_, (a1.extract 0 3000), (by first | rfl | (simp; done) | (simp [*]; done)), H', ⟨by have := HJ4.out; first | omega | exact Nat.le_refl _⟩, ⟨by repeat (first | (with_reducible first | exact HB.out | apply below_alloc | apply pw_below_drewN | apply below_drew1) | exact HB.out)⟩⟩
            · rw [if_neg c13] at H
              exact absurd H (by simp)
          · rw [if_neg c12] at H
            exact absurd H (by simp)
        · rw [if_neg c11] at H
          have c11b0 : decide (3000 < (a1.size : Int)) = false := decide_eq_false c11
          have c11b1 : decide (3000 < a1.size) = false := decide_eq_false (by omega)
          clear c11
          (first | rw [c11b0] | (simp only [i64_w, i32_w]; rw [c11b0]) | skip)
          have H' := Aside0.mk H
          clear H
          go_wp2
          go_meet
          case rel => exact ⟨_, (a1), (by first | rfl | (simp; done) | (simp [*]; done)), H', ⟨by have := HJ4.out; first | omega | exact Nat.le_refl _⟩, ⟨by repeat (first | (with_reducible first | exact HB.out | apply below_alloc | apply pw_below_drewN | apply below_drew1) | exact HB.out)⟩⟩
      case rest =>
        clear HC10
        try clear c1
        try clear p2
        try clear c7
        try clear c7b0
        try clear c7b1
        try clear c8
        try clear c8b0
        try clear c8b1
        try clear c9
        try clear c9b0
        try clear c9b1
        try clear c11
        try clear c11b0
        try clear c11b1
        try clear c12
        try clear c12b0
        try clear c12b1
        try clear c13
        try clear c13b0
        try clear c13b1
        try clear p2
        obtain ⟨kq, x1_9, rfl, HA, HJ9, HB⟩ := hcut
        cases kq with
        | zero => exact absurd HA.out (by simp [loesslaw03_NibbleRows.j1])
        | succ kj9 =>
          have H := HA.out
          clear HA
          simp only [loesslaw03_NibbleRows.j1] at H
          replace H := Option.bind_eq_some_iff.mp H
          obtain ⟨⟨t217, t218⟩, A140, H⟩ := H
          replace H : ((loessref03_Bytes.f kj9 x0_4).bind fun bt219 => ((nibble_Pack.f kj9 x0_4 a2).bind fun bt221 => ((loessref03_Pack.f kj9 x0_4 a2).bind fun bt223 => ((nibble_Unpack.f kj9 x1_9).bind fun bt225 => ((loessref03_Unpack.f kj9 x1_9).bind fun bt228 => ((nibble_Next.f kj9 x0_4).bind fun bt231 => ((loessref03_Next.f kj9 x0_4).bind fun bt233 => (if t216 = true then ((nibble_Of.f kj9 x0_4).bind fun t235 => ((loessref03_Of.f kj9 x0_4).bind fun t236 => (if t235.toList = t236.toList then ((nibble_Right.f kj9 x0_4).bind fun t237 => ((loessref03_Right.f kj9 x0_4).bind fun t238 => (if (t237 == t238) = true then (if t217.toList = bt219.1.toList then (if (t218 == bt219.2) = true then (if bt221.1.toList = bt223.1.toList then (if bt221.2 = bt223.2 then (if bt225.1.toList = bt228.1.toList then (if (bt225.2.1 == bt228.2.1) = true then (if bt225.2.2 = bt228.2.2 then (if bt231.1.toList = bt233.1.toList then (if (bt231.2 == bt233.2) = true then ((nibble_Prefix.f kj9 x0_4 x1_9).bind fun t239 => ((loessref03_Prefix.f kj9 x0_4 x1_9).bind fun t240 => (if t239 = t240 then ((nibble_Less.f x0_4 x1_9).bind fun t241 => ((loessref03_Less.f kj9 x0_4 x1_9).bind fun t242 => (some (t241 == t242)))) else (none)))) else (none)) else (none)) else (none)) else (none)) else (none)) else (none)) else (none)) else (none)) else (none)) else (none)))) else (none)))) else (none))))))))) = some r := H
          have A14 := Aside0.mk A140
          clear A140
          replace H := Option.bind_eq_some_iff.mp H
          obtain ⟨⟨t219, t220⟩, A150, H⟩ := H
          replace H : ((nibble_Pack.f kj9 x0_4 a2).bind fun bt221 => ((loessref03_Pack.f kj9 x0_4 a2).bind fun bt223 => ((nibble_Unpack.f kj9 x1_9).bind fun bt225 => ((loessref03_Unpack.f kj9 x1_9).bind fun bt228 => ((nibble_Next.f kj9 x0_4).bind fun bt231 => ((loessref03_Next.f kj9 x0_4).bind fun bt233 => (if t216 = true then ((nibble_Of.f kj9 x0_4).bind fun t235 => ((loessref03_Of.f kj9 x0_4).bind fun t236 => (if t235.toList = t236.toList then ((nibble_Right.f kj9 x0_4).bind fun t237 => ((loessref03_Right.f kj9 x0_4).bind fun t238 => (if (t237 == t238) = true then (if t217.toList = t219.toList then (if (t218 == t220) = true then (if bt221.1.toList = bt223.1.toList then (if bt221.2 = bt223.2 then (if bt225.1.toList = bt228.1.toList then (if (bt225.2.1 == bt228.2.1) = true then (if bt225.2.2 = bt228.2.2 then (if bt231.1.toList = bt233.1.toList then (if (bt231.2 == bt233.2) = true then ((nibble_Prefix.f kj9 x0_4 x1_9).bind fun t239 => ((loessref03_Prefix.f kj9 x0_4 x1_9).bind fun t240 => (if t239 = t240 then ((nibble_Less.f x0_4 x1_9).bind fun t241 => ((loessref03_Less.f kj9 x0_4 x1_9).bind fun t242 => (some (t241 == t242)))) else (none)))) else (none)) else (none)) else (none)) else (none)) else (none)) else (none)) else (none)) else (none)) else (none)) else (none)))) else (none)))) else (none)))))))) = some r := H
          have A15 := Aside0.mk A150
          clear A150
          replace H := Option.bind_eq_some_iff.mp H
          obtain ⟨⟨t221, t222⟩, A160, H⟩ := H
          replace H : ((loessref03_Pack.f kj9 x0_4 a2).bind fun bt223 => ((nibble_Unpack.f kj9 x1_9).bind fun bt225 => ((loessref03_Unpack.f kj9 x1_9).bind fun bt228 => ((nibble_Next.f kj9 x0_4).bind fun bt231 => ((loessref03_Next.f kj9 x0_4).bind fun bt233 => (if t216 = true then ((nibble_Of.f kj9 x0_4).bind fun t235 => ((loessref03_Of.f kj9 x0_4).bind fun t236 => (if t235.toList = t236.toList then ((nibble_Right.f kj9 x0_4).bind fun t237 => ((loessref03_Right.f kj9 x0_4).bind fun t238 => (if (t237 == t238) = true then (if t217.toList = t219.toList then (if (t218 == t220) = true then (if t221.toList = bt223.1.toList then (if t222 = bt223.2 then (if bt225.1.toList = bt228.1.toList then (if (bt225.2.1 == bt228.2.1) = true then (if bt225.2.2 = bt228.2.2 then (if bt231.1.toList = bt233.1.toList then (if (bt231.2 == bt233.2) = true then ((nibble_Prefix.f kj9 x0_4 x1_9).bind fun t239 => ((loessref03_Prefix.f kj9 x0_4 x1_9).bind fun t240 => (if t239 = t240 then ((nibble_Less.f x0_4 x1_9).bind fun t241 => ((loessref03_Less.f kj9 x0_4 x1_9).bind fun t242 => (some (t241 == t242)))) else (none)))) else (none)) else (none)) else (none)) else (none)) else (none)) else (none)) else (none)) else (none)) else (none)) else (none)))) else (none)))) else (none))))))) = some r := H
          have A16 := Aside0.mk A160
          clear A160
          replace H := Option.bind_eq_some_iff.mp H
          obtain ⟨⟨t223, t224⟩, A170, H⟩ := H
          replace H : ((nibble_Unpack.f kj9 x1_9).bind fun bt225 => ((loessref03_Unpack.f kj9 x1_9).bind fun bt228 => ((nibble_Next.f kj9 x0_4).bind fun bt231 => ((loessref03_Next.f kj9 x0_4).bind fun bt233 => (if t216 = true then ((nibble_Of.f kj9 x0_4).bind fun t235 => ((loessref03_Of.f kj9 x0_4).bind fun t236 => (if t235.toList = t236.toList then ((nibble_Right.f kj9 x0_4).bind fun t237 => ((loessref03_Right.f kj9 x0_4).bind fun t238 => (if (t237 == t238) = true then (if t217.toList = t219.toList then (if (t218 == t220) = true then (if t221.toList = t223.toList then (if t222 = t224 then (if bt225.1.toList = bt228.1.toList then (if (bt225.2.1 == bt228.2.1) = true then (if bt225.2.2 = bt228.2.2 then (if bt231.1.toList = bt233.1.toList then (if (bt231.2 == bt233.2) = true then ((nibble_Prefix.f kj9 x0_4 x1_9).bind fun t239 => ((loessref03_Prefix.f kj9 x0_4 x1_9).bind fun t240 => (if t239 = t240 then ((nibble_Less.f x0_4 x1_9).bind fun t241 => ((loessref03_Less.f kj9 x0_4 x1_9).bind fun t242 => (some (t241 == t242)))) else (none)))) else (none)) else (none)) else (none)) else (none)) else (none)) else (none)) else (none)) else (none)) else (none)) else (none)))) else (none)))) else (none)))))) = some r := H
          have A17 := Aside0.mk A170
          clear A170
          replace H := Option.bind_eq_some_iff.mp H
          obtain ⟨⟨t225, t226, t227⟩, A180, H⟩ := H
          replace H : ((loessref03_Unpack.f kj9 x1_9).bind fun bt228 => ((nibble_Next.f kj9 x0_4).bind fun bt231 => ((loessref03_Next.f kj9 x0_4).bind fun bt233 => (if t216 = true then ((nibble_Of.f kj9 x0_4).bind fun t235 => ((loessref03_Of.f kj9 x0_4).bind fun t236 => (if t235.toList = t236.toList then ((nibble_Right.f kj9 x0_4).bind fun t237 => ((loessref03_Right.f kj9 x0_4).bind fun t238 => (if (t237 == t238) = true then (if t217.toList = t219.toList then (if (t218 == t220) = true then (if t221.toList = t223.toList then (if t222 = t224 then (if t225.toList = bt228.1.toList then (if (t226 == bt228.2.1) = true then (if t227 = bt228.2.2 then (if bt231.1.toList = bt233.1.toList then (if (bt231.2 == bt233.2) = true then ((nibble_Prefix.f kj9 x0_4 x1_9).bind fun t239 => ((loessref03_Prefix.f kj9 x0_4 x1_9).bind fun t240 => (if t239 = t240 then ((nibble_Less.f x0_4 x1_9).bind fun t241 => ((loessref03_Less.f kj9 x0_4 x1_9).bind fun t242 => (some (t241 == t242)))) else (none)))) else (none)) else (none)) else (none)) else (none)) else (none)) else (none)) else (none)) else (none)) else (none)) else (none)))) else (none)))) else (none))))) = some r := H
          have A18 := Aside0.mk A180
          clear A180
          replace H := Option.bind_eq_some_iff.mp H
          obtain ⟨⟨t228, t229, t230⟩, A190, H⟩ := H
          replace H : ((nibble_Next.f kj9 x0_4).bind fun bt231 => ((loessref03_Next.f kj9 x0_4).bind fun bt233 => (if t216 = true then ((nibble_Of.f kj9 x0_4).bind fun t235 => ((loessref03_Of.f kj9 x0_4).bind fun t236 => (if t235.toList = t236.toList then ((nibble_Right.f kj9 x0_4).bind fun t237 => ((loessref03_Right.f kj9 x0_4).bind fun t238 => (if (t237 == t238) = true then (if t217.toList = t219.toList then (if (t218 == t220) = true then (if t221.toList = t223.toList then (if t222 = t224 then (if t225.toList = t228.toList then (if (t226 == t229) = true then (if t227 = t230 then (if bt231.1.toList = bt233.1.toList then (if (bt231.2 == bt233.2) = true then ((nibble_Prefix.f kj9 x0_4 x1_9).bind fun t239 => ((loessref03_Prefix.f kj9 x0_4 x1_9).bind fun t240 => (if t239 = t240 then ((nibble_Less.f x0_4 x1_9).bind fun t241 => ((loessref03_Less.f kj9 x0_4 x1_9).bind fun t242 => (some (t241 == t242)))) else (none)))) else (none)) else (none)) else (none)) else (none)) else (none)) else (none)) else (none)) else (none)) else (none)) else (none)))) else (none)))) else (none)))) = some r := H
          have A19 := Aside0.mk A190
          clear A190
          replace H := Option.bind_eq_some_iff.mp H
          obtain ⟨⟨t231, t232⟩, A200, H⟩ := H
          replace H : ((loessref03_Next.f kj9 x0_4).bind fun bt233 => (if t216 = true then ((nibble_Of.f kj9 x0_4).bind fun t235 => ((loessref03_Of.f kj9 x0_4).bind fun t236 => (if t235.toList = t236.toList then ((nibble_Right.f kj9 x0_4).bind fun t237 => ((loessref03_Right.f kj9 x0_4).bind fun t238 => (if (t237 == t238) = true then (if t217.toList = t219.toList then (if (t218 == t220) = true then (if t221.toList = t223.toList then (if t222 = t224 then (if t225.toList = t228.toList then (if (t226 == t229) = true then (if t227 = t230 then (if t231.toList = bt233.1.toList then (if (t232 == bt233.2) = true then ((nibble_Prefix.f kj9 x0_4 x1_9).bind fun t239 => ((loessref03_Prefix.f kj9 x0_4 x1_9).bind fun t240 => (if t239 = t240 then ((nibble_Less.f x0_4 x1_9).bind fun t241 => ((loessref03_Less.f kj9 x0_4 x1_9).bind fun t242 => (some (t241 == t242)))) else (none)))) else (none)) else (none)) else (none)) else (none)) else (none)) else (none)) else (none)) else (none)) else (none)) else (none)))) else (none)))) else (none))) = some r := H
          have A20 := Aside0.mk A200
          clear A200
          replace H := Option.bind_eq_some_iff.mp H
          obtain ⟨⟨t233, t234⟩, A210, H⟩ := H
          replace H : (if t216 = true then ((nibble_Of.f kj9 x0_4).bind fun t235 => ((loessref03_Of.f kj9 x0_4).bind fun t236 => (if t235.toList = t236.toList then ((nibble_Right.f kj9 x0_4).bind fun t237 => ((loessref03_Right.f kj9 x0_4).bind fun t238 => (if (t237 == t238) = true then (if t217.toList = t219.toList then (if (t218 == t220) = true then (if t221.toList = t223.toList then (if t222 = t224 then (if t225.toList = t228.toList then (if (t226 == t229) = true then (if t227 = t230 then (if t231.toList = t233.toList then (if (t232 == t234) = true then ((nibble_Prefix.f kj9 x0_4 x1_9).bind fun t239 => ((loessref03_Prefix.f kj9 x0_4 x1_9).bind fun t240 => (if t239 = t240 then ((nibble_Less.f x0_4 x1_9).bind fun t241 => ((loessref03_Less.f kj9 x0_4 x1_9).bind fun t242 => (some (t241 == t242)))) else (none)))) else (none)) else (none)) else (none)) else (none)) else (none)) else (none)) else (none)) else (none)) else (none)) else (none)))) else (none)))) else (none)) = some r := H
          have A21 := Aside0.mk A210
          clear A210
          by_cases c22 : t216 = true
          · subst c22
            have H1 : ((nibble_Of.f kj9 x0_4).bind fun t235 => ((loessref03_Of.f kj9 x0_4).bind fun t236 => (if t235.toList = t236.toList then ((nibble_Right.f kj9 x0_4).bind fun t237 => ((loessref03_Right.f kj9 x0_4).bind fun t238 => (if (t237 == t238) = true then (if t217.toList = t219.toList then (if (t218 == t220) = true then (if t221.toList = t223.toList then (if t222 = t224 then (if t225.toList = t228.toList then (if (t226 == t229) = true then (if t227 = t230 then (if t231.toList = t233.toList then (if (t232 == t234) = true then ((nibble_Prefix.f kj9 x0_4 x1_9).bind fun t239 => ((loessref03_Prefix.f kj9 x0_4 x1_9).bind fun t240 => (if t239 = t240 then ((nibble_Less.f x0_4 x1_9).bind fun t241 => ((loessref03_Less.f kj9 x0_4 x1_9).bind fun t242 => (some (t241 == t242)))) else (none)))) else (none)) else (none)) else (none)) else (none)) else (none)) else (none)) else (none)) else (none)) else (none)) else (none)))) else (none)))) = some r := by rw [if_pos rfl] at H; exact H
            clear H
            have H := H1
            clear H1
            replace H := Option.bind_eq_some_iff.mp H
            obtain ⟨t235, A230, H⟩ := H
            replace H : ((loessref03_Of.f kj9 x0_4).bind fun t236 => (if t235.toList = t236.toList then ((nibble_Right.f kj9 x0_4).bind fun t237 => ((loessref03_Right.f kj9 x0_4).bind fun t238 => (if (t237 == t238) = true then (if t217.toList = t219.toList then (if (t218 == t220) = true then (if t221.toList = t223.toList then (if t222 = t224 then (if t225.toList = t228.toList then (if (t226 == t229) = true then (if t227 = t230 then (if t231.toList = t233.toList then (if (t232 == t234) = true then ((nibble_Prefix.f kj9 x0_4 x1_9).bind fun t239 => ((loessref03_Prefix.f kj9 x0_4 x1_9).bind fun t240 => (if t239 = t240 then ((nibble_Less.f x0_4 x1_9).bind fun t241 => ((loessref03_Less.f kj9 x0_4 x1_9).bind fun t242 => (some (t241 == t242)))) else (none)))) else (none)) else (none)) else (none)) else (none)) else (none)) else (none)) else (none)) else (none)) else (none)) else (none)))) else (none))) = some r := H
            have A23 := Aside0.mk A230
            clear A230
            replace H := Option.bind_eq_some_iff.mp H
            obtain ⟨t236, A240, H⟩ := H
            replace H : (if t235.toList = t236.toList then ((nibble_Right.f kj9 x0_4).bind fun t237 => ((loessref03_Right.f kj9 x0_4).bind fun t238 => (if (t237 == t238) = true then (if t217.toList = t219.toList then (if (t218 == t220) = true then (if t221.toList = t223.toList then (if t222 = t224 then (if t225.toList = t228.toList then (if (t226 == t229) = true then (if t227 = t230 then (if t231.toList = t233.toList then (if (t232 == t234) = true then ((nibble_Prefix.f kj9 x0_4 x1_9).bind fun t239 => ((loessref03_Prefix.f kj9 x0_4 x1_9).bind fun t240 => (if t239 = t240 then ((nibble_Less.f x0_4 x1_9).bind fun t241 => ((loessref03_Less.f kj9 x0_4 x1_9).bind fun t242 => (some (t241 == t242)))) else (none)))) else (none)) else (none)) else (none)) else (none)) else (none)) else (none)) else (none)) else (none)) else (none)) else (none)))) else (none)) = some r := H
            have A24 := Aside0.mk A240
            clear A240
            by_cases c25 : t235.toList = t236.toList
            · rw [if_pos c25] at H
              have c25b0 : (t235.toList == t236.toList) = true := beq_iff_eq.mpr c25
              have c25b1 : (t235.toList != t236.toList) = false := bne_eq_false_iff_eq.mpr c25
              clear c25
              replace H := Option.bind_eq_some_iff.mp H
              obtain ⟨t237, A260, H⟩ := H
              replace H : ((loessref03_Right.f kj9 x0_4).bind fun t238 => (if (t237 == t238) = true then (if t217.toList = t219.toList then (if (t218 == t220) = true then (if t221.toList = t223.toList then (if t222 = t224 then (if t225.toList = t228.toList then (if (t226 == t229) = true then (if t227 = t230 then (if t231.toList = t233.toList then (if (t232 == t234) = true then ((nibble_Prefix.f kj9 x0_4 x1_9).bind fun t239 => ((loessref03_Prefix.f kj9 x0_4 x1_9).bind fun t240 => (if t239 = t240 then ((nibble_Less.f x0_4 x1_9).bind fun t241 => ((loessref03_Less.f kj9 x0_4 x1_9).bind fun t242 => (some (t241 == t242)))) else (none)))) else (none)) else (none)) else (none)) else (none)) else (none)) else (none)) else (none)) else (none)) else (none)) else (none))) = some r := H
              have A26 := Aside0.mk A260
              clear A260
              replace H := Option.bind_eq_some_iff.mp H
              obtain ⟨t238, A270, H⟩ := H
              replace H : (if (t237 == t238) = true then (if t217.toList = t219.toList then (if (t218 == t220) = true then (if t221.toList = t223.toList then (if t222 = t224 then (if t225.toList = t228.toList then (if (t226 == t229) = true then (if t227 = t230 then (if t231.toList = t233.toList then (if (t232 == t234) = true then ((nibble_Prefix.f kj9 x0_4 x1_9).bind fun t239 => ((loessref03_Prefix.f kj9 x0_4 x1_9).bind fun t240 => (if t239 = t240 then ((nibble_Less.f x0_4 x1_9).bind fun t241 => ((loessref03_Less.f kj9 x0_4 x1_9).bind fun t242 => (some (t241 == t242)))) else (none)))) else (none)) else (none)) else (none)) else (none)) else (none)) else (none)) else (none)) else (none)) else (none)) else (none)) = some r := H
              have A27 := Aside0.mk A270
              clear A270
              by_cases c28 : (t237 == t238) = true
              · rw [if_pos c28] at H
                have c28b0 : (t237 == t238) = true := c28
                (try (have c28b1 : decide (t237 = t238) = true := by simpa using c28))
                (try (have c28b2 : (t237 == t238) = true := by simpa using c28))
                clear c28
                by_cases c29 : t217.toList = t219.toList
                · rw [if_pos c29] at H
                  have c29b0 : (t217.toList == t219.toList) = true := beq_iff_eq.mpr c29
                  have c29b1 : (t217.toList != t219.toList) = false := bne_eq_false_iff_eq.mpr c29
                  clear c29
                  by_cases c30 : (t218 == t220) = true
                  · rw [if_pos c30] at H
                    have c30b0 : (t218 == t220) = true := c30
                    (try (have c30b1 : decide (t218 = t220) = true := by simpa using c30))
                    (try (have c30b2 : (t218 == t220) = true := by simpa using c30))
                    clear c30
                    by_cases c31 : t221.toList = t223.toList
                    · rw [if_pos c31] at H
                      have c31b0 : (t221.toList == t223.toList) = true := beq_iff_eq.mpr c31
                      have c31b1 : (t221.toList != t223.toList) = false := bne_eq_false_iff_eq.mpr c31
                      clear c31
                      by_cases c32 : t222 = t224
                      · rw [if_pos c32] at H
                        have c32b0 : (t222 == t224) = true := beq_iff_eq.mpr c32
                        have c32b1 : (t222 != t224) = false := bne_eq_false_iff_eq.mpr c32
                        clear c32
                        by_cases c33 : t225.toList = t228.toList
                        · rw [if_pos c33] at H
                          have c33b0 : (t225.toList == t228.toList) = true := beq_iff_eq.mpr c33
                          have c33b1 : (t225.toList != t228.toList) = false := bne_eq_false_iff_eq.mpr c33
                          clear c33
                          by_cases c34 : (t226 == t229) = true
                          · rw [if_pos c34] at H
                            have c34b0 : (t226 == t229) = true := c34
                            (try (have c34b1 : decide (t226 = t229) = true := by simpa using c34))
                            (try (have c34b2 : (t226 == t229) = true := by simpa using c34))
                            clear c34
                            by_cases c35 : t227 = t230
                            · rw [if_pos c35] at H
                              have c35b0 : (t227 == t230) = true := beq_iff_eq.mpr c35
                              have c35b1 : (t227 != t230) = false := bne_eq_false_iff_eq.mpr c35
                              clear c35
                              by_cases c36 : t231.toList = t233.toList
                              · rw [if_pos c36] at H
                                have c36b0 : (t231.toList == t233.toList) = true := beq_iff_eq.mpr c36
                                have c36b1 : (t231.toList != t233.toList) = false := bne_eq_false_iff_eq.mpr c36
                                clear c36
                                by_cases c37 : (t232 == t234) = true
                                · rw [if_pos c37] at H
                                  have c37b0 : (t232 == t234) = true := c37
                                  (try (have c37b1 : decide (t232 = t234) = true := by simpa using c37))
                                  (try (have c37b2 : (t232 == t234) = true := by simpa using c37))
                                  clear c37
                                  replace H := Option.bind_eq_some_iff.mp H
                                  obtain ⟨t239, A380, H⟩ := H
                                  replace H : ((loessref03_Prefix.f kj9 x0_4 x1_9).bind fun t240 => (if t239 = t240 then ((nibble_Less.f x0_4 x1_9).bind fun t241 => ((loessref03_Less.f kj9 x0_4 x1_9).bind fun t242 => (some (t241 == t242)))) else (none))) = some r := H
                                  have A38 := Aside0.mk A380
                                  clear A380
                                  replace H := Option.bind_eq_some_iff.mp H
                                  obtain ⟨t240, A390, H⟩ := H
                                  replace H : (if t239 = t240 then ((nibble_Less.f x0_4 x1_9).bind fun t241 => ((loessref03_Less.f kj9 x0_4 x1_9).bind fun t242 => (some (t241 == t242)))) else (none)) = some r := H
                                  have A39 := Aside0.mk A390
                                  clear A390
                                  by_cases c40 : t239 = t240
                                  · rw [if_pos c40] at H
                                    have c40b0 : (t239 == t240) = true := beq_iff_eq.mpr c40
                                    have c40b1 : (t239 != t240) = false := bne_eq_false_iff_eq.mpr c40
                                    clear c40
                                    replace H := Option.bind_eq_some_iff.mp H
                                    obtain ⟨t241, A410, H⟩ := H
                                    replace H : ((loessref03_Less.f kj9 x0_4 x1_9).bind fun t242 => (some (t241 == t242))) = some r := H
                                    have A41 := Aside0.mk A410
                                    clear A410
                                    replace H := Option.bind_eq_some_iff.mp H
                                    obtain ⟨t242, A420, H⟩ := H
                                    replace H : (some (t241 == t242)) = some r := H
                                    have A42 := Aside0.mk A420
                                    clear A420
                                    obtain rfl := Option.some.inj H
                                    go_wp2_with (first | ((with_reducible refine gate_callee (f := 17) rfl ?_); refine goesL_ (some 39) rfl rfl Tryd.func17 (by kernel_rfl) rfl #[.string x0_4] rfl (by (try simp only [List.map_toArray, List.map_cons, List.map_nil]); first | done | rfl | (simp only [List.length_drop, List.length_take]; rfl)) ?_; (with_reducible refine (nibble_Bytes.calls kj9 x0_4 t217 t218 _ A14.out).mono ?_); rintro e w43 ⟨rfl, hb⟩; refine ⟨_, rfl, ?_⟩; have n0_ := Aside0.mk (below_step (by repeat (first | (with_reducible first | exact HB.out | apply below_alloc | apply pw_below_drewN | apply below_drew1) | exact HB.out)) hb); clear HB; have HB := n0_; clear n0_; (try clear hb); (try clear hb2); (try clear hk); (try clear hi)) | ((with_reducible refine gate_callee (f := 18) rfl ?_); refine goesL_ (some 44) rfl rfl Tryd.func18 (by kernel_rfl) rfl #[.string x0_4] rfl (by (try simp only [List.map_toArray, List.map_cons, List.map_nil]); first | done | rfl | (simp only [List.length_drop, List.length_take]; rfl)) ?_; (with_reducible refine (loessref03_Bytes.calls kj9 x0_4 t219 t220 _ A15.out).mono ?_); rintro e w44 ⟨rfl, hb⟩; refine ⟨_, rfl, ?_⟩; have n0_ := Aside0.mk (below_step (by repeat (first | (with_reducible first | exact HB.out | apply below_alloc | apply pw_below_drewN | apply below_drew1) | exact HB.out)) hb); clear HB; have HB := n0_; clear n0_; (try clear hb); (try clear hb2); (try clear hk); (try clear hi)) | ((with_reducible refine gate_callee (f := 15) rfl ?_); refine goesL_ (some 50) rfl rfl Tryd.func15 (by kernel_rfl) rfl #[.string x0_4, .bool a2] rfl (by (try simp only [List.map_toArray, List.map_cons, List.map_nil]); first | done | rfl | (simp only [List.length_drop, List.length_take]; rfl)) ?_; (with_reducible refine (nibble_Pack.calls kj9 x0_4 a2 t221 t222 _ A16.out).mono ?_); rintro e w45 ⟨rfl, hb⟩; refine ⟨_, rfl, ?_⟩; have n0_ := Aside0.mk (below_step (by repeat (first | (with_reducible first | exact HB.out | apply below_alloc | apply pw_below_drewN | apply below_drew1) | exact HB.out)) hb); clear HB; have HB := n0_; clear n0_; (try clear hb); (try clear hb2); (try clear hk); (try clear hi)) | ((with_reducible refine gate_callee (f := 19) rfl ?_); refine goesL_ (some 56) rfl rfl Tryd.func19 (by kernel_rfl) rfl #[.string x0_4, .bool a2] rfl (by (try simp only [List.map_toArray, List.map_cons, List.map_nil]); first | done | rfl | (simp only [List.length_drop, List.length_take]; rfl)) ?_; (with_reducible refine (loessref03_Pack.calls kj9 x0_4 a2 t223 t224 _ A17.out).mono ?_); rintro e w46 ⟨rfl, hb⟩; refine ⟨_, rfl, ?_⟩; have n0_ := Aside0.mk (below_step (by repeat (first | (with_reducible first | exact HB.out | apply below_alloc | apply pw_below_drewN | apply below_drew1) | exact HB.out)) hb); clear HB; have HB := n0_; clear n0_; (try clear hb); (try clear hb2); (try clear hk); (try clear hi)) | ((with_reducible refine gate_callee (f := 14) rfl ?_); refine goesL_ (some 61) rfl rfl Tryd.func14 (by kernel_rfl) rfl #[.string x1_9] rfl (by (try simp only [List.map_toArray, List.map_cons, List.map_nil]); first | done | rfl | (simp only [List.length_drop, List.length_take]; rfl)) ?_; (with_reducible refine (nibble_Unpack.calls kj9 x1_9 t225 t226 t227 _ A18.out).mono ?_); rintro e w47 ⟨rfl, hb⟩; refine ⟨_, rfl, ?_⟩; have n0_ := Aside0.mk (below_step (by repeat (first | (with_reducible first | exact HB.out | apply below_alloc | apply pw_below_drewN | apply below_drew1) | exact HB.out)) hb); clear HB; have HB := n0_; clear n0_; (try clear hb); (try clear hb2); (try clear hk); (try clear hi)) | ((with_reducible refine gate_callee (f := 20) rfl ?_); refine goesL_ (some 67) rfl rfl Tryd.func20 (by kernel_rfl) rfl #[.string x1_9] rfl (by (try simp only [List.map_toArray, List.map_cons, List.map_nil]); first | done | rfl | (simp only [List.length_drop, List.length_take]; rfl)) ?_; (with_reducible refine (loessref03_Unpack.calls kj9 x1_9 t228 t229 t230 _ A19.out).mono ?_); rintro e w48 ⟨rfl, hb⟩; refine ⟨_, rfl, ?_⟩; have n0_ := Aside0.mk (below_step (by repeat (first | (with_reducible first | exact HB.out | apply below_alloc | apply pw_below_drewN | apply below_drew1) | exact HB.out)) hb); clear HB; have HB := n0_; clear n0_; (try clear hb); (try clear hb2); (try clear hk); (try clear hi)) | ((with_reducible refine gate_callee (f := 12) rfl ?_); refine goesL_ (some 73) rfl rfl Tryd.func12 (by kernel_rfl) rfl #[.string x0_4] rfl (by (try simp only [List.map_toArray, List.map_cons, List.map_nil]); first | done | rfl | (simp only [List.length_drop, List.length_take]; rfl)) ?_; (with_reducible refine (nibble_Next.calls kj9 x0_4 t231 t232 _ A20.out).mono ?_); rintro e w49 ⟨rfl, hb⟩; refine ⟨_, rfl, ?_⟩; have n0_ := Aside0.mk (below_step (by repeat (first | (with_reducible first | exact HB.out | apply below_alloc | apply pw_below_drewN | apply below_drew1) | exact HB.out)) hb); clear HB; have HB := n0_; clear n0_; (try clear hb); (try clear hb2); (try clear hk); (try clear hi)) | ((with_reducible refine gate_callee (f := 21) rfl ?_); refine goesL_ (some 78) rfl rfl Tryd.func21 (by kernel_rfl) rfl #[.string x0_4] rfl (by (try simp only [List.map_toArray, List.map_cons, List.map_nil]); first | done | rfl | (simp only [List.length_drop, List.length_take]; rfl)) ?_; (with_reducible refine (loessref03_Next.calls kj9 x0_4 t233 t234 _ A21.out).mono ?_); rintro e w50 ⟨rfl, hb⟩; refine ⟨_, rfl, ?_⟩; have n0_ := Aside0.mk (below_step (by repeat (first | (with_reducible first | exact HB.out | apply below_alloc | apply pw_below_drewN | apply below_drew1) | exact HB.out)) hb); clear HB; have HB := n0_; clear n0_; (try clear hb); (try clear hb2); (try clear hk); (try clear hi)) | (go_at_call 10; (with_reducible refine (nibble_Of.calls kj9 x0_4 t235 _ A23.out).mono ?_); rintro e w51 ⟨rfl, hb⟩; have n0_ := Aside0.mk (below_step (by repeat (first | (with_reducible first | exact HB.out | apply below_alloc | apply pw_below_drewN | apply below_drew1) | exact HB.out)) hb); clear HB; have HB := n0_; clear n0_; (try clear hb); (try clear hb2); (try clear hk); (try clear hi)) | (go_at_call 22; (with_reducible refine (loessref03_Of.calls kj9 x0_4 t236 _ A24.out).mono ?_); rintro e w52 ⟨rfl, hb⟩; have n0_ := Aside0.mk (below_step (by repeat (first | (with_reducible first | exact HB.out | apply below_alloc | apply pw_below_drewN | apply below_drew1) | exact HB.out)) hb); clear HB; have HB := n0_; clear n0_; (try clear hb); (try clear hb2); (try clear hk); (try clear hi)) | (go_at_call 16; (with_reducible refine (nibble_Right.calls kj9 x0_4 t237 _ A26.out).mono ?_); rintro e w' ⟨rfl, ⟨nd, rfl⟩⟩) | (go_at_call 23; (with_reducible refine (loessref03_Right.calls kj9 x0_4 t238 _ A27.out).mono ?_); rintro e w' ⟨rfl, ⟨nd, rfl⟩⟩) | (go_at_call 13; (with_reducible refine (nibble_Prefix.calls kj9 x0_4 x1_9 t239 _ A38.out).mono ?_); rintro e w53 ⟨rfl, hb⟩; have n0_ := Aside0.mk (below_step (by repeat (first | (with_reducible first | exact HB.out | apply below_alloc | apply pw_below_drewN | apply below_drew1) | exact HB.out)) hb); clear HB; have HB := n0_; clear n0_; (try clear hb); (try clear hb2); (try clear hk); (try clear hi)) | (go_at_call 24; (with_reducible refine (loessref03_Prefix.calls kj9 x0_4 x1_9 t240 _ A39.out).mono ?_); rintro e w' ⟨rfl, ⟨nd, rfl⟩⟩) | (go_at_call 11; (with_reducible refine (nibble_Less.calls x0_4 x1_9 t241 _ A41.out).mono ?_); rintro e w' ⟨rfl, ⟨nd, rfl⟩⟩) | (go_at_call 25; (with_reducible refine (loessref03_Less.calls kj9 x0_4 x1_9 t242 _ A42.out).mono ?_); rintro e w' ⟨rfl, ⟨nd, rfl⟩⟩))
                                    go_ret
                                    exact ⟨by first | rfl | (simp [errW_none, errW_some] <;> rfl) | (simp [*, errW_none, errW_some] <;> rfl), by repeat (first | (with_reducible first | exact HB.out | apply below_alloc | apply pw_below_drewN | apply below_drew1) | exact HB.out)⟩
                                  · rw [if_neg c40] at H
                                    exact absurd H (by simp)
                                · rw [if_neg c37] at H
                                  exact absurd H (by simp)
                              · rw [if_neg c36] at H
                                exact absurd H (by simp)
                            · rw [if_neg c35] at H
                              exact absurd H (by simp)
                          · rw [if_neg c34] at H
                            exact absurd H (by simp)
                        · rw [if_neg c33] at H
                          exact absurd H (by simp)
                      · rw [if_neg c32] at H
                        exact absurd H (by simp)
                    · rw [if_neg c31] at H
                      exact absurd H (by simp)
                  · rw [if_neg c30] at H
                    exact absurd H (by simp)
                · rw [if_neg c29] at H
                  exact absurd H (by simp)
              · rw [if_neg c28] at H
                exact absurd H (by simp)
            · rw [if_neg c25] at H
              exact absurd H (by simp)
          · replace c22 := Bool.eq_false_iff.mpr c22
            subst c22
            have H1 : (none) = some r := by rw [if_neg (show ¬ (false = true) by decide)] at H; exact H
            clear H
            have H := H1
            clear H1
            exact absurd H (by simp)

/-- THE ONE PURE STATEMENT of loesslaw03_NibbleRows: yours. -/
def loesslaw03_NibbleRows.Pure : Prop := ∀ (a0 : ByteArray) (a1 : ByteArray) (a2 : Bool), a0.size ≤ 140737488351232 → a1.size ≤ 140737488351232 → ∃ k, loesslaw03_NibbleRows.f k a0 a1 a2 = some true
theorem loesslaw03_NibbleRows.walk (P : loesslaw03_NibbleRows.Pure) (a0 : ByteArray) (a1 : ByteArray) (a2 : Bool) (w : World) (w0 : a0.size ≤ 140737488351232) (w1 : a1.size ≤ 140737488351232) :
    Calls Tryd.prog 7 #[.string a0, .string a1, .bool a2] w fun e w' => e = .returned (.bool true) ∧ Below w.heap.size w w' := by
  obtain ⟨k, h⟩ := P a0 a1 a2 w0 w1
  refine (loesslaw03_NibbleRows.calls k a0 a1 a2 true w h).mono ?_
  rintro e w' ⟨rfl, hd⟩
  exact ⟨rfl, hd⟩

-- NOT PRINTED: function 5 (loesslaw03_NibbleShares)

end Go.Proofs.YtlajpfdmbagedaaDoor.P
