/- What Go functions of the program come to: a Lean function and its contract for each. Written by a program of this session over the kit's printer, some contracts by hand. -/
import Derived.Test.YtlajpfdmbagedaaDoorP0
import Derived.Test.YtlajpfdmbagedaaDoorP1
import Derived.Test.YtlajpfdmbagedaaDoorP4
import Derived.Test.YtlajpfdmbagedaaDoorP5
import Derived.Test.YtlajpfdmbagedaaDoorP9
namespace Go.Proofs.YtlajpfdmbagedaaDoor.P
open Go.RowKit Go.Proofs.YtlajpfdmbagedaaDoorW.PrintWords Go.Proofs.YtlajpfdmbagedaaDoorW.PrintLast Go.Proofs.YtlajpfdmbagedaaDoorW.PrintMore
attribute [local go_sem] max2_int min2_int max_two min_two max_three min_three max_four min_four   -- for this text's walks alone
set_option linter.unusedVariables false
set_option linter.unusedSimpArgs false

/-! ### loesslaw03_NibbleOrder: function 3 -/
mutual
def loesslaw03_NibbleOrder.j0 : Nat → ByteArray → ByteArray → ByteArray → Bool → Bool → Option (Bool)
  | 0, _, _, _, _, _ => none
  | k + 1, x0, x1, x2, x7, x27 => if x27 = true then (some x7) else ((nibble_Of.f k x0).bind fun t164 => ((nibble_Of.f k x1).bind fun t165 => ((nibble_Of.f k x2).bind fun t166 => (if t164.size + t166.size ≤ 9223372036854775807 then ((nibble_Less.f t164 t165).bind fun t167 => (if (t167 != (Op.bytesLess x0.toList x1.toList)) = true then (loesslaw03_NibbleOrder.j1 k x7 t164 t165 (t164 ++ t166) true) else ((nibble_Less.f t164 t165).bind fun t168 => (if t168 = true then ((nibble_Less.f t165 t164).bind fun t169 => (if t169 = true then (loesslaw03_NibbleOrder.j1 k x7 t164 t165 (t164 ++ t166) true) else ((nibble_Less.f (t164 ++ t166) t164).bind fun t170 => (loesslaw03_NibbleOrder.j1 k x7 t164 t165 (t164 ++ t166) t170)))) else ((nibble_Less.f (t164 ++ t166) t164).bind fun t171 => (loesslaw03_NibbleOrder.j1 k x7 t164 t165 (t164 ++ t166) t171)))))) else (none)))))
def loesslaw03_NibbleOrder.j1 : Nat → Bool → ByteArray → ByteArray → ByteArray → Bool → Option (Bool)
  | 0, _, _, _, _, _ => none
  | k + 1, x7, x8, x9, x10, x58 => if x58 = true then (none) else ((nibble_Next.f k x8).bind fun bt172 => (if bt172.2 = true then ((nibble_Prefix.f k x8 x9).bind fun t174 => (if x7 = true then ((nibble_Less.f x10 bt172.1).bind fun t175 => (if t175 = true then (if t174 = (x8.size : Int) then (some true) else ((nibble_Less.f x9 x8).bind fun t176 => (if t176 = true then (some true) else ((nibble_Less.f x9 bt172.1).bind fun t177 => (some (!t177)))))) else (none))) else (none))) else (some x7)))
end
def loesslaw03_NibbleOrder.f (k : Nat) (a0 : ByteArray) (a1 : ByteArray) (a2 : ByteArray) : Option (Bool) := (loesslaw03_awake.f k).bind fun t163 => (if (a0.size : Int) > 2000 then (loesslaw03_NibbleOrder.j0 k a0 a1 a2 t163 true) else (if (a1.size : Int) > 2000 then (loesslaw03_NibbleOrder.j0 k a0 a1 a2 t163 true) else (loesslaw03_NibbleOrder.j0 k a0 a1 a2 t163 (decide ((a2.size : Int) > 2000)))))
theorem loesslaw03_NibbleOrder.mono_l : ∀ k, (∀ y0 y1 y2 y3 y4, LeO (loesslaw03_NibbleOrder.j0 k y0 y1 y2 y3 y4) (loesslaw03_NibbleOrder.j0 (k + 1) y0 y1 y2 y3 y4)) ∧ (∀ y0 y1 y2 y3 y4, LeO (loesslaw03_NibbleOrder.j1 k y0 y1 y2 y3 y4) (loesslaw03_NibbleOrder.j1 (k + 1) y0 y1 y2 y3 y4))
  | 0 => ⟨fun _ _ _ _ _ r h => by simp [loesslaw03_NibbleOrder.j0] at h, fun _ _ _ _ _ r h => by simp [loesslaw03_NibbleOrder.j1] at h⟩
  | k + 1 => by
    obtain ⟨ih0, ih1⟩ := loesslaw03_NibbleOrder.mono_l k
    refine ⟨?_, ?_⟩
    · intro y0 y1 y2 y3 y4
      unfold loesslaw03_NibbleOrder.j0
      repeat' first
      | (with_reducible exact ih0 _ _ _ _ _)
      | (with_reducible exact ih1 _ _ _ _ _)
      | (with_reducible exact loesslaw03_awake.mono _)
      | (with_reducible exact nibble_Next.mono _ _)
      | (with_reducible exact nibble_Of.mono _ _)
      | (with_reducible exact nibble_Prefix.mono _ _ _)
      | (with_reducible exact LeO.refl _)
      | (with_reducible exact LeO.none _)
      | (with_reducible refine LeO.ite ?_ ?_)
      | (with_reducible refine LeO.bind ?_ (fun _ => ?_))
      | exact ih0 _ _ _ _ _
      | exact ih1 _ _ _ _ _
      | exact loesslaw03_awake.mono _
      | exact nibble_Next.mono _ _
      | exact nibble_Of.mono _ _
      | exact nibble_Prefix.mono _ _ _
      | exact LeO.none _
      | refine LeO.ite ?_ ?_
      | refine LeO.bind ?_ (fun _ => ?_)
    · intro y0 y1 y2 y3 y4
      unfold loesslaw03_NibbleOrder.j1
      repeat' first
      | (with_reducible exact ih0 _ _ _ _ _)
      | (with_reducible exact ih1 _ _ _ _ _)
      | (with_reducible exact loesslaw03_awake.mono _)
      | (with_reducible exact nibble_Next.mono _ _)
      | (with_reducible exact nibble_Of.mono _ _)
      | (with_reducible exact nibble_Prefix.mono _ _ _)
      | (with_reducible exact LeO.refl _)
      | (with_reducible exact LeO.none _)
      | (with_reducible refine LeO.ite ?_ ?_)
      | (with_reducible refine LeO.bind ?_ (fun _ => ?_))
      | exact ih0 _ _ _ _ _
      | exact ih1 _ _ _ _ _
      | exact loesslaw03_awake.mono _
      | exact nibble_Next.mono _ _
      | exact nibble_Of.mono _ _
      | exact nibble_Prefix.mono _ _ _
      | exact LeO.none _
      | refine LeO.ite ?_ ?_
      | refine LeO.bind ?_ (fun _ => ?_)
theorem loesslaw03_NibbleOrder.mono : ∀ a0 a1 a2 k, LeO (loesslaw03_NibbleOrder.f k a0 a1 a2) (loesslaw03_NibbleOrder.f (k + 1) a0 a1 a2) := by
  intro a0 a1 a2 k
  obtain ⟨ih0, ih1⟩ := loesslaw03_NibbleOrder.mono_l k
  unfold loesslaw03_NibbleOrder.f
  repeat' first
      | (with_reducible exact ih0 _ _ _ _ _)
      | (with_reducible exact ih1 _ _ _ _ _)
      | (with_reducible exact loesslaw03_awake.mono _)
      | (with_reducible exact nibble_Next.mono _ _)
      | (with_reducible exact nibble_Of.mono _ _)
      | (with_reducible exact nibble_Prefix.mono _ _ _)
      | (with_reducible exact LeO.refl _)
      | (with_reducible exact LeO.none _)
      | (with_reducible refine LeO.ite ?_ ?_)
      | (with_reducible refine LeO.bind ?_ (fun _ => ?_))
      | exact ih0 _ _ _ _ _
      | exact ih1 _ _ _ _ _
      | exact loesslaw03_awake.mono _
      | exact nibble_Next.mono _ _
      | exact nibble_Of.mono _ _
      | exact nibble_Prefix.mono _ _ _
      | exact LeO.none _
      | refine LeO.ite ?_ ?_
      | refine LeO.bind ?_ (fun _ => ?_)
set_option maxHeartbeats 8000000 in
set_option maxRecDepth 100000 in
theorem loesslaw03_NibbleOrder.calls (k : Nat) (a0 : ByteArray) (a1 : ByteArray) (a2 : ByteArray) (r : Bool) (w : World) (h : loesslaw03_NibbleOrder.f k a0 a1 a2 = some r) :
    Calls Tryd.prog 3 #[.string a0, .string a1, .string a2] w fun e w' => e = .returned (.bool r) ∧ Below w.heap.size w w' := by
  have HB := Aside0.mk (Below.refl w.heap.size w)
  have H : ((loesslaw03_awake.f k).bind fun t163 => (if (a0.size : Int) > 2000 then (loesslaw03_NibbleOrder.j0 k a0 a1 a2 t163 true) else (if (a1.size : Int) > 2000 then (loesslaw03_NibbleOrder.j0 k a0 a1 a2 t163 true) else (loesslaw03_NibbleOrder.j0 k a0 a1 a2 t163 (decide ((a2.size : Int) > 2000)))))) = some r := h
  clear h
  replace H := Option.bind_eq_some_iff.mp H
  obtain ⟨t163, A40, H⟩ := H
  replace H : (if (a0.size : Int) > 2000 then (loesslaw03_NibbleOrder.j0 k a0 a1 a2 t163 true) else (if (a1.size : Int) > 2000 then (loesslaw03_NibbleOrder.j0 k a0 a1 a2 t163 true) else (loesslaw03_NibbleOrder.j0 k a0 a1 a2 t163 (decide ((a2.size : Int) > 2000))))) = some r := H
  have A4 := Aside0.mk A40
  clear A40
  have HC5 := Aside0.mk H
  clear H
  go_enter Tryd.func3, Tryd.ntmps3
  go_upto_region 2 with (first | ((with_reducible refine gate_callee (f := 9) rfl ?_); refine goesL_ (some 14) rfl rfl Tryd.func9 (by kernel_rfl) rfl #[] rfl (by (try simp only [List.map_toArray, List.map_cons, List.map_nil]); first | done | rfl | (simp only [List.length_drop, List.length_take]; rfl)) ?_; (with_reducible refine (loesslaw03_awake.calls k  t163 _ A4.out).mono ?_); rintro e w6 ⟨rfl, hb⟩; refine ⟨_, rfl, ?_⟩; have n0_ := Aside0.mk (below_step (by repeat (first | (with_reducible first | exact HB.out | apply below_alloc | apply pw_below_drewN | apply below_drew1) | exact HB.out)) hb); clear HB; have HB := n0_; clear n0_; (try clear hb); (try clear hb2); (try clear hk); (try clear hi)))
  (try simp only [Act.put, List.setIfInBounds_toArray, List.set_cons_zero, List.set_cons_succ])
  go_cut [27] (fun v27 wc => ∃ (kq : Nat) (x27_4 : Bool), v27 = .bool x27_4 ∧ Aside0 (loesslaw03_NibbleOrder.j0 kq a0 a1 a2 t163 x27_4 = some r) ∧ Aside0 (kq ≤ k) ∧ Aside0 (Below w.heap.size w wc))
  case first =>
    have H := HC5.out
    clear HC5
    by_cases c7 : (a0.size : Int) > 2000
    · rw [if_pos c7] at H
      have c7b0 : decide (2000 < (a0.size : Int)) = true := decide_eq_true c7
      have c7b1 : decide (2000 < a0.size) = true := decide_eq_true (by omega)
      clear c7
      (first | rw [c7b0] | (simp only [i64_w, i32_w]; rw [c7b0]) | skip)
      have H' := Aside0.mk H
      clear H
      go_wp2
      go_meet
      case rel => exact ⟨_, (true), (by first | rfl | (simp; done) | (simp [*]; done)), H', ⟨by first | omega | exact Nat.le_refl _⟩, ⟨by repeat (first | (with_reducible first | exact HB.out | apply below_alloc | apply pw_below_drewN | apply below_drew1) | exact HB.out)⟩⟩
    · rw [if_neg c7] at H
      have c7b0 : decide (2000 < (a0.size : Int)) = false := decide_eq_false c7
      have c7b1 : decide (2000 < a0.size) = false := decide_eq_false (by omega)
      clear c7
      (first | rw [c7b0] | (simp only [i64_w, i32_w]; rw [c7b0]) | skip)
      by_cases c8 : (a1.size : Int) > 2000
      · rw [if_pos c8] at H
        have c8b0 : decide (2000 < (a1.size : Int)) = true := decide_eq_true c8
        have c8b1 : decide (2000 < a1.size) = true := decide_eq_true (by omega)
        clear c8
        have H' := Aside0.mk H
        clear H
        go_wp2
        go_meet
        case rel => exact ⟨_, (true), (by first | rfl | (simp; done) | (simp [*]; done)), H', ⟨by first | omega | exact Nat.le_refl _⟩, ⟨by repeat (first | (with_reducible first | exact HB.out | apply below_alloc | apply pw_below_drewN | apply below_drew1) | exact HB.out)⟩⟩
      · rw [if_neg c8] at H
        have c8b0 : decide (2000 < (a1.size : Int)) = false := decide_eq_false c8
        have c8b1 : decide (2000 < a1.size) = false := decide_eq_false (by omega)
        clear c8
        have H' := Aside0.mk H
        clear H
        go_wp2
        go_meet
        case rel => exact ⟨_, (decide ((a2.size : Int) > 2000)), (by first | rfl | (simp; done) | (simp [*]; done)), H', ⟨by first | omega | exact Nat.le_refl _⟩, ⟨by repeat (first | (with_reducible first | exact HB.out | apply below_alloc | apply pw_below_drewN | apply below_drew1) | exact HB.out)⟩⟩
  case rest =>
    clear HC5
    try clear p2
    try clear c3
    try clear c7
    try clear c7b0
    try clear c7b1
    try clear c8
    try clear c8b0
    try clear c8b1
    obtain ⟨kq, x27_4, rfl, HA, HJ4, HB⟩ := hcut
    cases kq with
    | zero => exact absurd HA.out (by simp [loesslaw03_NibbleOrder.j0])
    | succ kj4 =>
      have H := HA.out
      clear HA
      simp only [loesslaw03_NibbleOrder.j0] at H
      by_cases c9 : x27_4 = true
      · subst c9
        have H1 : (some t163) = some r := by rw [if_pos rfl] at H; exact H
        clear H
        have H := H1
        clear H1
        obtain rfl := Option.some.inj H
        go_wp2
        go_ret
        exact ⟨by first | rfl | (simp [errW_none, errW_some] <;> rfl) | (simp [*, errW_none, errW_some] <;> rfl), by repeat (first | (with_reducible first | exact HB.out | apply below_alloc | apply pw_below_drewN | apply below_drew1) | exact HB.out)⟩
      · replace c9 := Bool.eq_false_iff.mpr c9
        subst c9
        have H1 : ((nibble_Of.f kj4 a0).bind fun t164 => ((nibble_Of.f kj4 a1).bind fun t165 => ((nibble_Of.f kj4 a2).bind fun t166 => (if t164.size + t166.size ≤ 9223372036854775807 then ((nibble_Less.f t164 t165).bind fun t167 => (if (t167 != (Op.bytesLess a0.toList a1.toList)) = true then (loesslaw03_NibbleOrder.j1 kj4 t163 t164 t165 (t164 ++ t166) true) else ((nibble_Less.f t164 t165).bind fun t168 => (if t168 = true then ((nibble_Less.f t165 t164).bind fun t169 => (if t169 = true then (loesslaw03_NibbleOrder.j1 kj4 t163 t164 t165 (t164 ++ t166) true) else ((nibble_Less.f (t164 ++ t166) t164).bind fun t170 => (loesslaw03_NibbleOrder.j1 kj4 t163 t164 t165 (t164 ++ t166) t170)))) else ((nibble_Less.f (t164 ++ t166) t164).bind fun t171 => (loesslaw03_NibbleOrder.j1 kj4 t163 t164 t165 (t164 ++ t166) t171)))))) else (none))))) = some r := by rw [if_neg (show ¬ (false = true) by decide)] at H; exact H
        clear H
        have H := H1
        clear H1
        replace H := Option.bind_eq_some_iff.mp H
        obtain ⟨t164, A100, H⟩ := H
        replace H : ((nibble_Of.f kj4 a1).bind fun t165 => ((nibble_Of.f kj4 a2).bind fun t166 => (if t164.size + t166.size ≤ 9223372036854775807 then ((nibble_Less.f t164 t165).bind fun t167 => (if (t167 != (Op.bytesLess a0.toList a1.toList)) = true then (loesslaw03_NibbleOrder.j1 kj4 t163 t164 t165 (t164 ++ t166) true) else ((nibble_Less.f t164 t165).bind fun t168 => (if t168 = true then ((nibble_Less.f t165 t164).bind fun t169 => (if t169 = true then (loesslaw03_NibbleOrder.j1 kj4 t163 t164 t165 (t164 ++ t166) true) else ((nibble_Less.f (t164 ++ t166) t164).bind fun t170 => (loesslaw03_NibbleOrder.j1 kj4 t163 t164 t165 (t164 ++ t166) t170)))) else ((nibble_Less.f (t164 ++ t166) t164).bind fun t171 => (loesslaw03_NibbleOrder.j1 kj4 t163 t164 t165 (t164 ++ t166) t171)))))) else (none)))) = some r := H
        have A10 := Aside0.mk A100
        clear A100
        replace H := Option.bind_eq_some_iff.mp H
        obtain ⟨t165, A110, H⟩ := H
        replace H : ((nibble_Of.f kj4 a2).bind fun t166 => (if t164.size + t166.size ≤ 9223372036854775807 then ((nibble_Less.f t164 t165).bind fun t167 => (if (t167 != (Op.bytesLess a0.toList a1.toList)) = true then (loesslaw03_NibbleOrder.j1 kj4 t163 t164 t165 (t164 ++ t166) true) else ((nibble_Less.f t164 t165).bind fun t168 => (if t168 = true then ((nibble_Less.f t165 t164).bind fun t169 => (if t169 = true then (loesslaw03_NibbleOrder.j1 kj4 t163 t164 t165 (t164 ++ t166) true) else ((nibble_Less.f (t164 ++ t166) t164).bind fun t170 => (loesslaw03_NibbleOrder.j1 kj4 t163 t164 t165 (t164 ++ t166) t170)))) else ((nibble_Less.f (t164 ++ t166) t164).bind fun t171 => (loesslaw03_NibbleOrder.j1 kj4 t163 t164 t165 (t164 ++ t166) t171)))))) else (none))) = some r := H
        have A11 := Aside0.mk A110
        clear A110
        replace H := Option.bind_eq_some_iff.mp H
        obtain ⟨t166, A120, H⟩ := H
        replace H : (if t164.size + t166.size ≤ 9223372036854775807 then ((nibble_Less.f t164 t165).bind fun t167 => (if (t167 != (Op.bytesLess a0.toList a1.toList)) = true then (loesslaw03_NibbleOrder.j1 kj4 t163 t164 t165 (t164 ++ t166) true) else ((nibble_Less.f t164 t165).bind fun t168 => (if t168 = true then ((nibble_Less.f t165 t164).bind fun t169 => (if t169 = true then (loesslaw03_NibbleOrder.j1 kj4 t163 t164 t165 (t164 ++ t166) true) else ((nibble_Less.f (t164 ++ t166) t164).bind fun t170 => (loesslaw03_NibbleOrder.j1 kj4 t163 t164 t165 (t164 ++ t166) t170)))) else ((nibble_Less.f (t164 ++ t166) t164).bind fun t171 => (loesslaw03_NibbleOrder.j1 kj4 t163 t164 t165 (t164 ++ t166) t171)))))) else (none)) = some r := H
        have A12 := Aside0.mk A120
        clear A120
        by_cases c13 : t164.size + t166.size ≤ 9223372036854775807
        · rw [if_pos c13] at H
          have c13b0 := eq_true c13
          have c13b1 : decide (t164.size + t166.size ≤ 9223372036854775807) = true := decide_eq_true c13
          try have c13b2 : (9223372036854775807 < t164.size + t166.size) = False := eq_false (Nat.not_lt.2 c13)
          have HC14 := Aside0.mk H
          clear H
          go_upto_region 7 with (first | ((with_reducible refine gate_callee (f := 10) rfl ?_); refine goesL_ (some 30) rfl rfl Tryd.func10 (by kernel_rfl) rfl #[.string a0] rfl (by (try simp only [List.map_toArray, List.map_cons, List.map_nil]); first | done | rfl | (simp only [List.length_drop, List.length_take]; rfl)) ?_; (with_reducible refine (nibble_Of.calls kj4 a0 t164 _ A10.out).mono ?_); rintro e w15 ⟨rfl, hb⟩; refine ⟨_, rfl, ?_⟩; have n0_ := Aside0.mk (below_step (by repeat (first | (with_reducible first | exact HB.out | apply below_alloc | apply pw_below_drewN | apply below_drew1) | exact HB.out)) hb); clear HB; have HB := n0_; clear n0_; (try clear hb); (try clear hb2); (try clear hk); (try clear hi)) | ((with_reducible refine gate_callee (f := 10) rfl ?_); refine goesL_ (some 32) rfl rfl Tryd.func10 (by kernel_rfl) rfl #[.string a1] rfl (by (try simp only [List.map_toArray, List.map_cons, List.map_nil]); first | done | rfl | (simp only [List.length_drop, List.length_take]; rfl)) ?_; (with_reducible refine (nibble_Of.calls kj4 a1 t165 _ A11.out).mono ?_); rintro e w16 ⟨rfl, hb⟩; refine ⟨_, rfl, ?_⟩; have n0_ := Aside0.mk (below_step (by repeat (first | (with_reducible first | exact HB.out | apply below_alloc | apply pw_below_drewN | apply below_drew1) | exact HB.out)) hb); clear HB; have HB := n0_; clear n0_; (try clear hb); (try clear hb2); (try clear hk); (try clear hi)) | ((with_reducible refine gate_callee (f := 10) rfl ?_); refine goesL_ (some 35) rfl rfl Tryd.func10 (by kernel_rfl) rfl #[.string a2] rfl (by (try simp only [List.map_toArray, List.map_cons, List.map_nil]); first | done | rfl | (simp only [List.length_drop, List.length_take]; rfl)) ?_; (with_reducible refine (nibble_Of.calls kj4 a2 t166 _ A12.out).mono ?_); rintro e w17 ⟨rfl, hb⟩; refine ⟨_, rfl, ?_⟩; have n0_ := Aside0.mk (below_step (by repeat (first | (with_reducible first | exact HB.out | apply below_alloc | apply pw_below_drewN | apply below_drew1) | exact HB.out)) hb); clear HB; have HB := n0_; clear n0_; (try clear hb); (try clear hb2); (try clear hk); (try clear hi)))
          (try simp only [Act.put, List.setIfInBounds_toArray, List.set_cons_zero, List.set_cons_succ])
          go_cut [58] (fun v58 wc => ∃ (kq : Nat) (x58_13 : Bool), v58 = .bool x58_13 ∧ Aside0 (loesslaw03_NibbleOrder.j1 kq t163 t164 t165 (t164 ++ t166) x58_13 = some r) ∧ Aside0 (kq ≤ kj4) ∧ Aside0 (Below w.heap.size w wc))
          case first =>
            have H := HC14.out
            clear HC14
            replace H := Option.bind_eq_some_iff.mp H
            obtain ⟨t167, A180, H⟩ := H
            replace H : (if (t167 != (Op.bytesLess a0.toList a1.toList)) = true then (loesslaw03_NibbleOrder.j1 kj4 t163 t164 t165 (t164 ++ t166) true) else ((nibble_Less.f t164 t165).bind fun t168 => (if t168 = true then ((nibble_Less.f t165 t164).bind fun t169 => (if t169 = true then (loesslaw03_NibbleOrder.j1 kj4 t163 t164 t165 (t164 ++ t166) true) else ((nibble_Less.f (t164 ++ t166) t164).bind fun t170 => (loesslaw03_NibbleOrder.j1 kj4 t163 t164 t165 (t164 ++ t166) t170)))) else ((nibble_Less.f (t164 ++ t166) t164).bind fun t171 => (loesslaw03_NibbleOrder.j1 kj4 t163 t164 t165 (t164 ++ t166) t171))))) = some r := H
            have A18 := Aside0.mk A180
            clear A180
            by_cases c19 : (t167 != (Op.bytesLess a0.toList a1.toList)) = true
            · rw [if_pos c19] at H
              have c19b0 : (t167 != (Op.bytesLess a0.toList a1.toList)) = true := c19
              (try (have c19b1 : decide (t167 = (Op.bytesLess a0.toList a1.toList)) = false := by simpa using c19))
              (try (have c19b2 : (t167 == (Op.bytesLess a0.toList a1.toList)) = false := by simpa using c19))
              (try (have c19b3 : ¬ (t167 = (Op.bytesLess a0.toList a1.toList)) := by simpa using c19))
              clear c19
              (first | rw [c19b0] | (simp only [i64_w, i32_w]; rw [c19b0]) | skip)
              have H' := Aside0.mk H
              clear H
              go_wp2_with (first | ((with_reducible refine gate_callee (f := 11) rfl ?_); refine goesL_ (some 39) rfl rfl Tryd.func11 (by kernel_rfl) rfl #[.string t164, .string t165] rfl (by (try simp only [List.map_toArray, List.map_cons, List.map_nil]); first | done | rfl | (simp only [List.length_drop, List.length_take]; rfl)) ?_; (with_reducible refine (nibble_Less.calls t164 t165 t167 _ A18.out).mono ?_); rintro e w' ⟨rfl, ⟨nd, rfl⟩⟩; refine ⟨_, rfl, ?_⟩))
              go_meet
              case rel => exact ⟨_, (true), (by first | rfl | (simp; done) | (simp [*]; done)), H', ⟨by have := HJ4.out; first | omega | exact Nat.le_refl _⟩, ⟨by repeat (first | (with_reducible first | exact HB.out | apply below_alloc | apply pw_below_drewN | apply below_drew1) | exact HB.out)⟩⟩
            · rw [if_neg c19] at H
              have c19b0 : (t167 != (Op.bytesLess a0.toList a1.toList)) = false := by simpa using c19
              (try (have c19b1 : decide (t167 = (Op.bytesLess a0.toList a1.toList)) = true := by simpa using c19))
              (try (have c19b2 : (t167 == (Op.bytesLess a0.toList a1.toList)) = true := by simpa using c19))
              clear c19
              (first | rw [c19b0] | (simp only [i64_w, i32_w]; rw [c19b0]) | skip)
              replace H := Option.bind_eq_some_iff.mp H
              obtain ⟨t168, A200, H⟩ := H
              replace H : (if t168 = true then ((nibble_Less.f t165 t164).bind fun t169 => (if t169 = true then (loesslaw03_NibbleOrder.j1 kj4 t163 t164 t165 (t164 ++ t166) true) else ((nibble_Less.f (t164 ++ t166) t164).bind fun t170 => (loesslaw03_NibbleOrder.j1 kj4 t163 t164 t165 (t164 ++ t166) t170)))) else ((nibble_Less.f (t164 ++ t166) t164).bind fun t171 => (loesslaw03_NibbleOrder.j1 kj4 t163 t164 t165 (t164 ++ t166) t171))) = some r := H
              have A20 := Aside0.mk A200
              clear A200
              have e_ : t167 = t168 := Option.some.inj (A18.out.symm.trans A20.out)
              subst e_
              by_cases c21 : t167 = true
              · subst c21
                have H1 : ((nibble_Less.f t165 t164).bind fun t169 => (if t169 = true then (loesslaw03_NibbleOrder.j1 kj4 t163 t164 t165 (t164 ++ t166) true) else ((nibble_Less.f (t164 ++ t166) t164).bind fun t170 => (loesslaw03_NibbleOrder.j1 kj4 t163 t164 t165 (t164 ++ t166) t170)))) = some r := by rw [if_pos rfl] at H; exact H
                clear H
                have H := H1
                clear H1
                replace H := Option.bind_eq_some_iff.mp H
                obtain ⟨t169, A220, H⟩ := H
                replace H : (if t169 = true then (loesslaw03_NibbleOrder.j1 kj4 t163 t164 t165 (t164 ++ t166) true) else ((nibble_Less.f (t164 ++ t166) t164).bind fun t170 => (loesslaw03_NibbleOrder.j1 kj4 t163 t164 t165 (t164 ++ t166) t170))) = some r := H
                have A22 := Aside0.mk A220
                clear A220
                by_cases c23 : t169 = true
                · subst c23
                  have H1 : (loesslaw03_NibbleOrder.j1 kj4 t163 t164 t165 (t164 ++ t166) true) = some r := by rw [if_pos rfl] at H; exact H
                  clear H
                  have H := H1
                  clear H1
                  have H' := Aside0.mk H
                  clear H
                  go_wp2_with (first | ((with_reducible refine gate_callee (f := 11) rfl ?_); refine goesL_ (some 39) rfl rfl Tryd.func11 (by kernel_rfl) rfl #[.string t164, .string t165] rfl (by (try simp only [List.map_toArray, List.map_cons, List.map_nil]); first | done | rfl | (simp only [List.length_drop, List.length_take]; rfl)) ?_; (with_reducible refine (nibble_Less.calls t164 t165 t167 _ A18.out).mono ?_); rintro e w' ⟨rfl, ⟨nd, rfl⟩⟩; refine ⟨_, rfl, ?_⟩) | (go_at_call 11; (with_reducible refine (nibble_Less.calls t164 t165 true _ A20.out).mono ?_); rintro e w' ⟨rfl, ⟨nd, rfl⟩⟩) | (go_at_call 11; (with_reducible refine (nibble_Less.calls t165 t164 true _ A22.out).mono ?_); rintro e w' ⟨rfl, ⟨nd, rfl⟩⟩))
                  go_meet
                  case rel => exact ⟨_, (true), (by first | rfl | (simp; done) | (simp [*]; done)), H', ⟨by have := HJ4.out; first | omega | exact Nat.le_refl _⟩, ⟨by repeat (first | (with_reducible first | exact HB.out | apply below_alloc | apply pw_below_drewN | apply below_drew1) | exact HB.out)⟩⟩
                · replace c23 := Bool.eq_false_iff.mpr c23
                  subst c23
                  have H1 : ((nibble_Less.f (t164 ++ t166) t164).bind fun t170 => (loesslaw03_NibbleOrder.j1 kj4 t163 t164 t165 (t164 ++ t166) t170)) = some r := by rw [if_neg (show ¬ (false = true) by decide)] at H; exact H
                  clear H
                  have H := H1
                  clear H1
                  replace H := Option.bind_eq_some_iff.mp H
                  obtain ⟨t170, A240, H⟩ := H
                  replace H : (loesslaw03_NibbleOrder.j1 kj4 t163 t164 t165 (t164 ++ t166) t170) = some r := H
                  have A24 := Aside0.mk A240
                  clear A240
                  have H' := Aside0.mk H
                  clear H
                  go_wp2_with (first | ((with_reducible refine gate_callee (f := 11) rfl ?_); refine goesL_ (some 39) rfl rfl Tryd.func11 (by kernel_rfl) rfl #[.string t164, .string t165] rfl (by (try simp only [List.map_toArray, List.map_cons, List.map_nil]); first | done | rfl | (simp only [List.length_drop, List.length_take]; rfl)) ?_; (with_reducible refine (nibble_Less.calls t164 t165 t167 _ A18.out).mono ?_); rintro e w' ⟨rfl, ⟨nd, rfl⟩⟩; refine ⟨_, rfl, ?_⟩) | (go_at_call 11; (with_reducible refine (nibble_Less.calls t164 t165 true _ A20.out).mono ?_); rintro e w' ⟨rfl, ⟨nd, rfl⟩⟩) | (go_at_call 11; (with_reducible refine (nibble_Less.calls t165 t164 false _ A22.out).mono ?_); rintro e w' ⟨rfl, ⟨nd, rfl⟩⟩) | (go_at_call 11; (with_reducible refine (nibble_Less.calls (t164 ++ t166) t164 t170 _ A24.out).mono ?_); rintro e w' ⟨rfl, ⟨nd, rfl⟩⟩))
                  go_meet
                  case rel => exact ⟨_, (t170), (by first | rfl | (simp; done) | (simp [*]; done)), H', ⟨by have := HJ4.out; first | omega | exact Nat.le_refl _⟩, ⟨by repeat (first | (with_reducible first | exact HB.out | apply below_alloc | apply pw_below_drewN | apply below_drew1) | exact HB.out)⟩⟩
              · replace c21 := Bool.eq_false_iff.mpr c21
                subst c21
                have H1 : ((nibble_Less.f (t164 ++ t166) t164).bind fun t171 => (loesslaw03_NibbleOrder.j1 kj4 t163 t164 t165 (t164 ++ t166) t171)) = some r := by rw [if_neg (show ¬ (false = true) by decide)] at H; exact H
                clear H
                have H := H1
                clear H1
                replace H := Option.bind_eq_some_iff.mp H
                obtain ⟨t171, A250, H⟩ := H
                replace H : (loesslaw03_NibbleOrder.j1 kj4 t163 t164 t165 (t164 ++ t166) t171) = some r := H
                have A25 := Aside0.mk A250
                clear A250
                have H' := Aside0.mk H
                clear H
                go_wp2_with (first | ((with_reducible refine gate_callee (f := 11) rfl ?_); refine goesL_ (some 39) rfl rfl Tryd.func11 (by kernel_rfl) rfl #[.string t164, .string t165] rfl (by (try simp only [List.map_toArray, List.map_cons, List.map_nil]); first | done | rfl | (simp only [List.length_drop, List.length_take]; rfl)) ?_; (with_reducible refine (nibble_Less.calls t164 t165 t167 _ A18.out).mono ?_); rintro e w' ⟨rfl, ⟨nd, rfl⟩⟩; refine ⟨_, rfl, ?_⟩) | (go_at_call 11; (with_reducible refine (nibble_Less.calls t164 t165 false _ A20.out).mono ?_); rintro e w' ⟨rfl, ⟨nd, rfl⟩⟩) | (go_at_call 11; (with_reducible refine (nibble_Less.calls (t164 ++ t166) t164 t171 _ A25.out).mono ?_); rintro e w' ⟨rfl, ⟨nd, rfl⟩⟩))
                go_meet
                case rel => exact ⟨_, (t171), (by first | rfl | (simp; done) | (simp [*]; done)), H', ⟨by have := HJ4.out; first | omega | exact Nat.le_refl _⟩, ⟨by repeat (first | (with_reducible first | exact HB.out | apply below_alloc | apply pw_below_drewN | apply below_drew1) | exact HB.out)⟩⟩
          case rest =>
            clear HC14
            try clear c1
            try clear c2
            try clear p2
            try clear c3
            try clear c7
            try clear c7b0
            try clear c7b1
            try clear c8
            try clear c8b0
            try clear c8b1
            try clear c9
            try clear c10
            try clear c11
            try clear c13
            try clear c13b0
            try clear c13b1
            try clear c13b2
            try clear c19
            try clear c19b0
            try clear c19b1
            try clear c19b2
            try clear c21
            try clear c23
            try clear p2
            obtain ⟨kq, x58_13, rfl, HA, HJ13, HB⟩ := hcut
            cases kq with
            | zero => exact absurd HA.out (by simp [loesslaw03_NibbleOrder.j1])
            | succ kj13 =>
              have H := HA.out
              clear HA
              simp only [loesslaw03_NibbleOrder.j1] at H
              by_cases c26 : x58_13 = true
              · subst c26
                have H1 : (none) = some r := by rw [if_pos rfl] at H; exact H
                clear H
                have H := H1
                clear H1
                exact absurd H (by simp)
              · replace c26 := Bool.eq_false_iff.mpr c26
                subst c26
                have H1 : ((nibble_Next.f kj13 t164).bind fun bt172 => (if bt172.2 = true then ((nibble_Prefix.f kj13 t164 t165).bind fun t174 => (if t163 = true then ((nibble_Less.f (t164 ++ t166) bt172.1).bind fun t175 => (if t175 = true then (if t174 = (t164.size : Int) then (some true) else ((nibble_Less.f t165 t164).bind fun t176 => (if t176 = true then (some true) else ((nibble_Less.f t165 bt172.1).bind fun t177 => (some (!t177)))))) else (none))) else (none))) else (some t163))) = some r := by rw [if_neg (show ¬ (false = true) by decide)] at H; exact H
                clear H
                have H := H1
                clear H1
                replace H := Option.bind_eq_some_iff.mp H
                obtain ⟨⟨t172, t173⟩, A270, H⟩ := H
                replace H : (if t173 = true then ((nibble_Prefix.f kj13 t164 t165).bind fun t174 => (if t163 = true then ((nibble_Less.f (t164 ++ t166) t172).bind fun t175 => (if t175 = true then (if t174 = (t164.size : Int) then (some true) else ((nibble_Less.f t165 t164).bind fun t176 => (if t176 = true then (some true) else ((nibble_Less.f t165 t172).bind fun t177 => (some (!t177)))))) else (none))) else (none))) else (some t163)) = some r := H
                have A27 := Aside0.mk A270
                clear A270
                by_cases c28 : t173 = true
                · subst c28
                  have H1 : ((nibble_Prefix.f kj13 t164 t165).bind fun t174 => (if t163 = true then ((nibble_Less.f (t164 ++ t166) t172).bind fun t175 => (if t175 = true then (if t174 = (t164.size : Int) then (some true) else ((nibble_Less.f t165 t164).bind fun t176 => (if t176 = true then (some true) else ((nibble_Less.f t165 t172).bind fun t177 => (some (!t177)))))) else (none))) else (none))) = some r := by rw [if_pos rfl] at H; exact H
                  clear H
                  have H := H1
                  clear H1
                  replace H := Option.bind_eq_some_iff.mp H
                  obtain ⟨t174, A290, H⟩ := H
                  replace H : (if t163 = true then ((nibble_Less.f (t164 ++ t166) t172).bind fun t175 => (if t175 = true then (if t174 = (t164.size : Int) then (some true) else ((nibble_Less.f t165 t164).bind fun t176 => (if t176 = true then (some true) else ((nibble_Less.f t165 t172).bind fun t177 => (some (!t177)))))) else (none))) else (none)) = some r := H
                  have A29 := Aside0.mk A290
                  clear A290
                  by_cases c30 : t163 = true
                  · subst c30
                    have H1 : ((nibble_Less.f (t164 ++ t166) t172).bind fun t175 => (if t175 = true then (if t174 = (t164.size : Int) then (some true) else ((nibble_Less.f t165 t164).bind fun t176 => (if t176 = true then (some true) else ((nibble_Less.f t165 t172).bind fun t177 => (some (!t177)))))) else (none))) = some r := by rw [if_pos rfl] at H; exact H
                    clear H
                    have H := H1
                    clear H1
                    replace H := Option.bind_eq_some_iff.mp H
                    obtain ⟨t175, A310, H⟩ := H
                    replace H : (if t175 = true then (if t174 = (t164.size : Int) then (some true) else ((nibble_Less.f t165 t164).bind fun t176 => (if t176 = true then (some true) else ((nibble_Less.f t165 t172).bind fun t177 => (some (!t177)))))) else (none)) = some r := H
                    have A31 := Aside0.mk A310
                    clear A310
                    by_cases c32 : t175 = true
                    · subst c32
                      have H1 : (if t174 = (t164.size : Int) then (some true) else ((nibble_Less.f t165 t164).bind fun t176 => (if t176 = true then (some true) else ((nibble_Less.f t165 t172).bind fun t177 => (some (!t177)))))) = some r := by rw [if_pos rfl] at H; exact H
                      clear H
                      have H := H1
                      clear H1
                      by_cases c33 : t174 = (t164.size : Int)
                      · rw [if_pos c33] at H
                        have c33b0 : (t174 == (t164.size : Int)) = true := beq_iff_eq.mpr c33
                        have c33b1 : (t174 != (t164.size : Int)) = false := bne_eq_false_iff_eq.mpr c33
                        clear c33
                        obtain rfl := Option.some.inj H
                        go_wp2_with (first | ((with_reducible refine gate_callee (f := 12) rfl ?_); refine goesL_ (some 61) rfl rfl Tryd.func12 (by kernel_rfl) rfl #[.string t164] rfl (by (try simp only [List.map_toArray, List.map_cons, List.map_nil]); first | done | rfl | (simp only [List.length_drop, List.length_take]; rfl)) ?_; (with_reducible refine (nibble_Next.calls kj13 t164 t172 true _ A27.out).mono ?_); rintro e w34 ⟨rfl, hb⟩; refine ⟨_, rfl, ?_⟩; have n0_ := Aside0.mk (below_step (by repeat (first | (with_reducible first | exact HB.out | apply below_alloc | apply pw_below_drewN | apply below_drew1) | exact HB.out)) hb); clear HB; have HB := n0_; clear n0_; (try clear hb); (try clear hb2); (try clear hk); (try clear hi)) | ((with_reducible refine gate_callee (f := 13) rfl ?_); refine goesL_ (some 69) rfl rfl Tryd.func13 (by kernel_rfl) rfl #[.string t164, .string t165] rfl (by (try simp only [List.map_toArray, List.map_cons, List.map_nil]); first | done | rfl | (simp only [List.length_drop, List.length_take]; rfl)) ?_; (with_reducible refine (nibble_Prefix.calls kj13 t164 t165 t174 _ A29.out).mono ?_); rintro e w35 ⟨rfl, hb⟩; refine ⟨_, rfl, ?_⟩; have n0_ := Aside0.mk (below_step (by repeat (first | (with_reducible first | exact HB.out | apply below_alloc | apply pw_below_drewN | apply below_drew1) | exact HB.out)) hb); clear HB; have HB := n0_; clear n0_; (try clear hb); (try clear hb2); (try clear hk); (try clear hi)) | (go_at_call 11; (with_reducible refine (nibble_Less.calls (t164 ++ t166) t172 true _ A31.out).mono ?_); rintro e w' ⟨rfl, ⟨nd, rfl⟩⟩))
                        go_ret
                        exact ⟨by first | rfl | (simp [errW_none, errW_some] <;> rfl) | (simp [*, errW_none, errW_some] <;> rfl), by repeat (first | (with_reducible first | exact HB.out | apply below_alloc | apply pw_below_drewN | apply below_drew1) | exact HB.out)⟩
                      · rw [if_neg c33] at H
                        have c33b0 : (t174 == (t164.size : Int)) = false := beq_eq_false_iff_ne.mpr c33
                        have c33b1 : (t174 != (t164.size : Int)) = true := bne_iff_ne.mpr c33
                        replace H := Option.bind_eq_some_iff.mp H
                        obtain ⟨t176, A360, H⟩ := H
                        replace H : (if t176 = true then (some true) else ((nibble_Less.f t165 t172).bind fun t177 => (some (!t177)))) = some r := H
                        have A36 := Aside0.mk A360
                        clear A360
                        by_cases c37 : t176 = true
                        · subst c37
                          have H1 : (some true) = some r := by rw [if_pos rfl] at H; exact H
                          clear H
                          have H := H1
                          clear H1
                          obtain rfl := Option.some.inj H
                          go_wp2_with (first | ((with_reducible refine gate_callee (f := 12) rfl ?_); refine goesL_ (some 61) rfl rfl Tryd.func12 (by kernel_rfl) rfl #[.string t164] rfl (by (try simp only [List.map_toArray, List.map_cons, List.map_nil]); first | done | rfl | (simp only [List.length_drop, List.length_take]; rfl)) ?_; (with_reducible refine (nibble_Next.calls kj13 t164 t172 true _ A27.out).mono ?_); rintro e w38 ⟨rfl, hb⟩; refine ⟨_, rfl, ?_⟩; have n0_ := Aside0.mk (below_step (by repeat (first | (with_reducible first | exact HB.out | apply below_alloc | apply pw_below_drewN | apply below_drew1) | exact HB.out)) hb); clear HB; have HB := n0_; clear n0_; (try clear hb); (try clear hb2); (try clear hk); (try clear hi)) | ((with_reducible refine gate_callee (f := 13) rfl ?_); refine goesL_ (some 69) rfl rfl Tryd.func13 (by kernel_rfl) rfl #[.string t164, .string t165] rfl (by (try simp only [List.map_toArray, List.map_cons, List.map_nil]); first | done | rfl | (simp only [List.length_drop, List.length_take]; rfl)) ?_; (with_reducible refine (nibble_Prefix.calls kj13 t164 t165 t174 _ A29.out).mono ?_); rintro e w39 ⟨rfl, hb⟩; refine ⟨_, rfl, ?_⟩; have n0_ := Aside0.mk (below_step (by repeat (first | (with_reducible first | exact HB.out | apply below_alloc | apply pw_below_drewN | apply below_drew1) | exact HB.out)) hb); clear HB; have HB := n0_; clear n0_; (try clear hb); (try clear hb2); (try clear hk); (try clear hi)) | (go_at_call 11; (with_reducible refine (nibble_Less.calls (t164 ++ t166) t172 true _ A31.out).mono ?_); rintro e w' ⟨rfl, ⟨nd, rfl⟩⟩) | (go_at_call 11; (with_reducible refine (nibble_Less.calls t165 t164 true _ A36.out).mono ?_); rintro e w' ⟨rfl, ⟨nd, rfl⟩⟩))
                          go_ret
                          exact ⟨by first | rfl | (simp [errW_none, errW_some] <;> rfl) | (simp [*, errW_none, errW_some] <;> rfl), by repeat (first | (with_reducible first | exact HB.out | apply below_alloc | apply pw_below_drewN | apply below_drew1) | exact HB.out)⟩
                        · replace c37 := Bool.eq_false_iff.mpr c37
                          subst c37
                          have H1 : ((nibble_Less.f t165 t172).bind fun t177 => (some (!t177))) = some r := by rw [if_neg (show ¬ (false = true) by decide)] at H; exact H
                          clear H
                          have H := H1
                          clear H1
                          replace H := Option.bind_eq_some_iff.mp H
                          obtain ⟨t177, A400, H⟩ := H
                          replace H : (some (!t177)) = some r := H
                          have A40 := Aside0.mk A400
                          clear A400
                          obtain rfl := Option.some.inj H
                          go_wp2_with (first | ((with_reducible refine gate_callee (f := 12) rfl ?_); refine goesL_ (some 61) rfl rfl Tryd.func12 (by kernel_rfl) rfl #[.string t164] rfl (by (try simp only [List.map_toArray, List.map_cons, List.map_nil]); first | done | rfl | (simp only [List.length_drop, List.length_take]; rfl)) ?_; (with_reducible refine (nibble_Next.calls kj13 t164 t172 true _ A27.out).mono ?_); rintro e w41 ⟨rfl, hb⟩; refine ⟨_, rfl, ?_⟩; have n0_ := Aside0.mk (below_step (by repeat (first | (with_reducible first | exact HB.out | apply below_alloc | apply pw_below_drewN | apply below_drew1) | exact HB.out)) hb); clear HB; have HB := n0_; clear n0_; (try clear hb); (try clear hb2); (try clear hk); (try clear hi)) | ((with_reducible refine gate_callee (f := 13) rfl ?_); refine goesL_ (some 69) rfl rfl Tryd.func13 (by kernel_rfl) rfl #[.string t164, .string t165] rfl (by (try simp only [List.map_toArray, List.map_cons, List.map_nil]); first | done | rfl | (simp only [List.length_drop, List.length_take]; rfl)) ?_; (with_reducible refine (nibble_Prefix.calls kj13 t164 t165 t174 _ A29.out).mono ?_); rintro e w42 ⟨rfl, hb⟩; refine ⟨_, rfl, ?_⟩; have n0_ := Aside0.mk (below_step (by repeat (first | (with_reducible first | exact HB.out | apply below_alloc | apply pw_below_drewN | apply below_drew1) | exact HB.out)) hb); clear HB; have HB := n0_; clear n0_; (try clear hb); (try clear hb2); (try clear hk); (try clear hi)) | (go_at_call 11; (with_reducible refine (nibble_Less.calls (t164 ++ t166) t172 true _ A31.out).mono ?_); rintro e w' ⟨rfl, ⟨nd, rfl⟩⟩) | (go_at_call 11; (with_reducible refine (nibble_Less.calls t165 t164 false _ A36.out).mono ?_); rintro e w' ⟨rfl, ⟨nd, rfl⟩⟩) | (go_at_call 11; (with_reducible refine (nibble_Less.calls t165 t172 t177 _ A40.out).mono ?_); rintro e w' ⟨rfl, ⟨nd, rfl⟩⟩))
                          go_ret
                          exact ⟨by first | rfl | (simp [errW_none, errW_some] <;> rfl) | (simp [*, errW_none, errW_some] <;> rfl), by repeat (first | (with_reducible first | exact HB.out | apply below_alloc | apply pw_below_drewN | apply below_drew1) | exact HB.out)⟩
                    · replace c32 := Bool.eq_false_iff.mpr c32
                      subst c32
                      have H1 : (none) = some r := by rw [if_neg (show ¬ (false = true) by decide)] at H; exact H
                      clear H
                      have H := H1
                      clear H1
                      exact absurd H (by simp)
                  · replace c30 := Bool.eq_false_iff.mpr c30
                    subst c30
                    have H1 : (none) = some r := by rw [if_neg (show ¬ (false = true) by decide)] at H; exact H
                    clear H
                    have H := H1
                    clear H1
                    exact absurd H (by simp)
                · replace c28 := Bool.eq_false_iff.mpr c28
                  subst c28
                  have H1 : (some t163) = some r := by rw [if_neg (show ¬ (false = true) by decide)] at H; exact H
                  clear H
                  have H := H1
                  clear H1
                  obtain rfl := Option.some.inj H
                  go_wp2_with (first | ((with_reducible refine gate_callee (f := 12) rfl ?_); refine goesL_ (some 61) rfl rfl Tryd.func12 (by kernel_rfl) rfl #[.string t164] rfl (by (try simp only [List.map_toArray, List.map_cons, List.map_nil]); first | done | rfl | (simp only [List.length_drop, List.length_take]; rfl)) ?_; (with_reducible refine (nibble_Next.calls kj13 t164 t172 false _ A27.out).mono ?_); rintro e w43 ⟨rfl, hb⟩; refine ⟨_, rfl, ?_⟩; have n0_ := Aside0.mk (below_step (by repeat (first | (with_reducible first | exact HB.out | apply below_alloc | apply pw_below_drewN | apply below_drew1) | exact HB.out)) hb); clear HB; have HB := n0_; clear n0_; (try clear hb); (try clear hb2); (try clear hk); (try clear hi)))
                  go_ret
                  exact ⟨by first | rfl | (simp [errW_none, errW_some] <;> rfl) | (simp [*, errW_none, errW_some] <;> rfl), by repeat (first | (with_reducible first | exact HB.out | apply below_alloc | apply pw_below_drewN | apply below_drew1) | exact HB.out)⟩
        · rw [if_neg c13] at H
          exact absurd H (by simp)

/-- THE ONE PURE STATEMENT of loesslaw03_NibbleOrder: yours. -/
def loesslaw03_NibbleOrder.Pure : Prop := ∀ (a0 : ByteArray) (a1 : ByteArray) (a2 : ByteArray), a0.size ≤ 140737488351232 → a1.size ≤ 140737488351232 → a2.size ≤ 140737488351232 → ∃ k, loesslaw03_NibbleOrder.f k a0 a1 a2 = some true
theorem loesslaw03_NibbleOrder.walk (P : loesslaw03_NibbleOrder.Pure) (a0 : ByteArray) (a1 : ByteArray) (a2 : ByteArray) (w : World) (w0 : a0.size ≤ 140737488351232) (w1 : a1.size ≤ 140737488351232) (w2 : a2.size ≤ 140737488351232) :
    Calls Tryd.prog 3 #[.string a0, .string a1, .string a2] w fun e w' => e = .returned (.bool true) ∧ Below w.heap.size w w' := by
  obtain ⟨k, h⟩ := P a0 a1 a2 w0 w1 w2
  refine (loesslaw03_NibbleOrder.calls k a0 a1 a2 true w h).mono ?_
  rintro e w' ⟨rfl, hd⟩
  exact ⟨rfl, hd⟩

end Go.Proofs.YtlajpfdmbagedaaDoor.P
