/- What Go functions of the program come to: a Lean function and its contract for each. Written by a program of this session over the kit's printer, some contracts by hand. -/
import Derived.Test.YtlajpfdmbagedaaDoorP0
import Derived.Test.YtlajpfdmbagedaaDoorP1
import Derived.Test.YtlajpfdmbagedaaDoorP6
import Derived.Test.YtlajpfdmbagedaaDoorP8
import Derived.Test.YtlajpfdmbagedaaDoorP9
namespace Go.Proofs.YtlajpfdmbagedaaDoor.P
open Go.RowKit Go.Proofs.YtlajpfdmbagedaaDoorW.PrintWords Go.Proofs.YtlajpfdmbagedaaDoorW.PrintLast Go.Proofs.YtlajpfdmbagedaaDoorW.PrintMore
attribute [local go_sem] max2_int min2_int max_two min_two max_three min_three max_four min_four   -- for this text's walks alone
set_option linter.unusedVariables false
set_option linter.unusedSimpArgs false

/-! ### loesslaw03_NibbleUnpacks: function 4 -/
def loesslaw03_NibbleUnpacks.j0 : Nat → ByteArray → ByteArray → Bool → Bool → Bool → Option (Bool)
  | 0, _, _, _, _, _ => none
  | k + 1, x0, x1, x2, x7, x23 => if x23 = true then (some x7) else ((nibble_Unpack.f k x0).bind fun bt253 => (if bt253.2.2 = 0 then ((nibble_Pack.f k bt253.1 bt253.2.1).bind fun bt256 => (if x7 = true then (if bt256.2 = 0 then (if bt256.1.toList = x0.toList then ((nibble_Right.f k bt253.1).bind fun t258 => (some t258)) else (none)) else (none)) else (none))) else ((nibble_Of.f k x1).bind fun t259 => ((nibble_Pack.f k t259 x2).bind fun bt260 => (if x7 = true then (if bt253.2.2 = 10 then (if bt260.2 = 0 then (some (bt260.1.toList != x0.toList)) else (none)) else (none)) else (none))))))
def loesslaw03_NibbleUnpacks.f (k : Nat) (a0 : ByteArray) (a1 : ByteArray) (a2 : Bool) : Option (Bool) := (loesslaw03_awake.f k).bind fun t252 => (if (a0.size : Int) > 200 then (loesslaw03_NibbleUnpacks.j0 k a0 a1 a2 t252 true) else (loesslaw03_NibbleUnpacks.j0 k a0 a1 a2 t252 (decide ((a1.size : Int) > 200))))
theorem loesslaw03_NibbleUnpacks.mono_l : ∀ k, (∀ y0 y1 y2 y3 y4, LeO (loesslaw03_NibbleUnpacks.j0 k y0 y1 y2 y3 y4) (loesslaw03_NibbleUnpacks.j0 (k + 1) y0 y1 y2 y3 y4))
  | 0 => fun _ _ _ _ _ r h => by simp [loesslaw03_NibbleUnpacks.j0] at h
  | k + 1 => by
    have ih0 := loesslaw03_NibbleUnpacks.mono_l k
    · intro y0 y1 y2 y3 y4
      unfold loesslaw03_NibbleUnpacks.j0
      repeat' first
      | (with_reducible exact ih0 _ _ _ _ _)
      | (with_reducible exact loesslaw03_awake.mono _)
      | (with_reducible exact nibble_Of.mono _ _)
      | (with_reducible exact nibble_Pack.mono _ _ _)
      | (with_reducible exact nibble_Right.mono _ _)
      | (with_reducible exact nibble_Unpack.mono _ _)
      | (with_reducible exact LeO.refl _)
      | (with_reducible exact LeO.none _)
      | (with_reducible refine LeO.ite ?_ ?_)
      | (with_reducible refine LeO.bind ?_ (fun _ => ?_))
      | exact ih0 _ _ _ _ _
      | exact loesslaw03_awake.mono _
      | exact nibble_Of.mono _ _
      | exact nibble_Pack.mono _ _ _
      | exact nibble_Right.mono _ _
      | exact nibble_Unpack.mono _ _
      | exact LeO.none _
      | refine LeO.ite ?_ ?_
      | refine LeO.bind ?_ (fun _ => ?_)
theorem loesslaw03_NibbleUnpacks.mono : ∀ a0 a1 a2 k, LeO (loesslaw03_NibbleUnpacks.f k a0 a1 a2) (loesslaw03_NibbleUnpacks.f (k + 1) a0 a1 a2) := by
  intro a0 a1 a2 k
  have ih0 := loesslaw03_NibbleUnpacks.mono_l k
  unfold loesslaw03_NibbleUnpacks.f
  repeat' first
      | (with_reducible exact ih0 _ _ _ _ _)
      | (with_reducible exact loesslaw03_awake.mono _)
      | (with_reducible exact nibble_Of.mono _ _)
      | (with_reducible exact nibble_Pack.mono _ _ _)
      | (with_reducible exact nibble_Right.mono _ _)
      | (with_reducible exact nibble_Unpack.mono _ _)
      | (with_reducible exact LeO.refl _)
      | (with_reducible exact LeO.none _)
      | (with_reducible refine LeO.ite ?_ ?_)
      | (with_reducible refine LeO.bind ?_ (fun _ => ?_))
      | exact ih0 _ _ _ _ _
      | exact loesslaw03_awake.mono _
      | exact nibble_Of.mono _ _
      | exact nibble_Pack.mono _ _ _
      | exact nibble_Right.mono _ _
      | exact nibble_Unpack.mono _ _
      | exact LeO.none _
      | refine LeO.ite ?_ ?_
      | refine LeO.bind ?_ (fun _ => ?_)
set_option maxHeartbeats 8000000 in
set_option maxRecDepth 100000 in
theorem loesslaw03_NibbleUnpacks.calls (k : Nat) (a0 : ByteArray) (a1 : ByteArray) (a2 : Bool) (r : Bool) (w : World) (h : loesslaw03_NibbleUnpacks.f k a0 a1 a2 = some r) :
    Calls Tryd.prog 4 #[.string a0, .string a1, .bool a2] w fun e w' => e = .returned (.bool r) ∧ Below w.heap.size w w' := by
  have HB := Aside0.mk (Below.refl w.heap.size w)
  have H : ((loesslaw03_awake.f k).bind fun t252 => (if (a0.size : Int) > 200 then (loesslaw03_NibbleUnpacks.j0 k a0 a1 a2 t252 true) else (loesslaw03_NibbleUnpacks.j0 k a0 a1 a2 t252 (decide ((a1.size : Int) > 200))))) = some r := h
  clear h
  replace H := Option.bind_eq_some_iff.mp H
  obtain ⟨t252, A40, H⟩ := H
  replace H : (if (a0.size : Int) > 200 then (loesslaw03_NibbleUnpacks.j0 k a0 a1 a2 t252 true) else (loesslaw03_NibbleUnpacks.j0 k a0 a1 a2 t252 (decide ((a1.size : Int) > 200)))) = some r := H
  have A4 := Aside0.mk A40
  clear A40
  have HC5 := Aside0.mk H
  clear H
  go_enter Tryd.func4, Tryd.ntmps4
  go_upto_region 2 with (first | ((with_reducible refine gate_callee (f := 9) rfl ?_); refine goesL_ (some 15) rfl rfl Tryd.func9 (by kernel_rfl) rfl #[] rfl (by (try simp only [List.map_toArray, List.map_cons, List.map_nil]); first | done | rfl | (simp only [List.length_drop, List.length_take]; rfl)) ?_; (with_reducible refine (loesslaw03_awake.calls k  t252 _ A4.out).mono ?_); rintro e w6 ⟨rfl, hb⟩; refine ⟨_, rfl, ?_⟩; have n0_ := Aside0.mk (below_step (by repeat (first | (with_reducible first | exact HB.out | apply below_alloc | apply pw_below_drewN | apply below_drew1) | exact HB.out)) hb); clear HB; have HB := n0_; clear n0_; (try clear hb); (try clear hb2); (try clear hk); (try clear hi)))
  (try simp only [Act.put, List.setIfInBounds_toArray, List.set_cons_zero, List.set_cons_succ])
  go_cut [23] (fun v23 wc => ∃ (kq : Nat) (x23_4 : Bool), v23 = .bool x23_4 ∧ Aside0 (loesslaw03_NibbleUnpacks.j0 kq a0 a1 a2 t252 x23_4 = some r) ∧ Aside0 (kq ≤ k) ∧ Aside0 (Below w.heap.size w wc))
  case first =>
    have H := HC5.out
    clear HC5
    by_cases c7 : (a0.size : Int) > 200
    · rw [if_pos c7] at H
      have c7b0 : decide (200 < (a0.size : Int)) = true := decide_eq_true c7
      have c7b1 : decide (200 < a0.size) = true := decide_eq_true (by omega)
      clear c7
      (first | rw [c7b0] | (simp only [i64_w, i32_w]; rw [c7b0]) | skip)
      have H' := Aside0.mk H
      clear H
      go_wp2
      go_meet
      case rel => exact ⟨_, (true), (by first | rfl | (simp; done) | (simp [*]; done)), H', ⟨by first | omega | exact Nat.le_refl _⟩, ⟨by repeat (first | (with_reducible first | exact HB.out | apply below_alloc | apply pw_below_drewN | apply below_drew1) | exact HB.out)⟩⟩
    · rw [if_neg c7] at H
      have c7b0 : decide (200 < (a0.size : Int)) = false := decide_eq_false c7
      have c7b1 : decide (200 < a0.size) = false := decide_eq_false (by omega)
      clear c7
      (first | rw [c7b0] | (simp only [i64_w, i32_w]; rw [c7b0]) | skip)
      have H' := Aside0.mk H
      clear H
      go_wp2
      go_meet
      case rel => exact ⟨_, (decide ((a1.size : Int) > 200)), (by first | rfl | (simp; done) | (simp [*]; done)), H', ⟨by first | omega | exact Nat.le_refl _⟩, ⟨by repeat (first | (with_reducible first | exact HB.out | apply below_alloc | apply pw_below_drewN | apply below_drew1) | exact HB.out)⟩⟩
  case rest =>
    clear HC5
    try clear p2
    try clear c4
    try clear c7
    try clear c7b0
    try clear c7b1
    obtain ⟨kq, x23_4, rfl, HA, HJ4, HB⟩ := hcut
    cases kq with
    | zero => exact absurd HA.out (by simp [loesslaw03_NibbleUnpacks.j0])
    | succ kj4 =>
      have H := HA.out
      clear HA
      simp only [loesslaw03_NibbleUnpacks.j0] at H
      by_cases c8 : x23_4 = true
      · subst c8
        have H1 : (some t252) = some r := by rw [if_pos rfl] at H; exact H
        clear H
        have H := H1
        clear H1
        obtain rfl := Option.some.inj H
        go_wp2
        go_ret
        exact ⟨by first | rfl | (simp [errW_none, errW_some] <;> rfl) | (simp [*, errW_none, errW_some] <;> rfl), by repeat (first | (with_reducible first | exact HB.out | apply below_alloc | apply pw_below_drewN | apply below_drew1) | exact HB.out)⟩
      · replace c8 := Bool.eq_false_iff.mpr c8
        subst c8
        have H1 : ((nibble_Unpack.f kj4 a0).bind fun bt253 => (if bt253.2.2 = 0 then ((nibble_Pack.f kj4 bt253.1 bt253.2.1).bind fun bt256 => (if t252 = true then (if bt256.2 = 0 then (if bt256.1.toList = a0.toList then ((nibble_Right.f kj4 bt253.1).bind fun t258 => (some t258)) else (none)) else (none)) else (none))) else ((nibble_Of.f kj4 a1).bind fun t259 => ((nibble_Pack.f kj4 t259 a2).bind fun bt260 => (if t252 = true then (if bt253.2.2 = 10 then (if bt260.2 = 0 then (some (bt260.1.toList != a0.toList)) else (none)) else (none)) else (none)))))) = some r := by rw [if_neg (show ¬ (false = true) by decide)] at H; exact H
        clear H
        have H := H1
        clear H1
        replace H := Option.bind_eq_some_iff.mp H
        obtain ⟨⟨t253, t254, t255⟩, A90, H⟩ := H
        replace H : (if t255 = 0 then ((nibble_Pack.f kj4 t253 t254).bind fun bt256 => (if t252 = true then (if bt256.2 = 0 then (if bt256.1.toList = a0.toList then ((nibble_Right.f kj4 t253).bind fun t258 => (some t258)) else (none)) else (none)) else (none))) else ((nibble_Of.f kj4 a1).bind fun t259 => ((nibble_Pack.f kj4 t259 a2).bind fun bt260 => (if t252 = true then (if t255 = 10 then (if bt260.2 = 0 then (some (bt260.1.toList != a0.toList)) else (none)) else (none)) else (none))))) = some r := H
        have A9 := Aside0.mk A90
        clear A90
        by_cases c10 : t255 = 0
        · rw [if_pos c10] at H
          have c10b0 : (t255 == 0) = true := beq_iff_eq.mpr c10
          have c10b1 : (t255 != 0) = false := bne_eq_false_iff_eq.mpr c10
          clear c10
          replace H := Option.bind_eq_some_iff.mp H
          obtain ⟨⟨t256, t257⟩, A110, H⟩ := H
          replace H : (if t252 = true then (if t257 = 0 then (if t256.toList = a0.toList then ((nibble_Right.f kj4 t253).bind fun t258 => (some t258)) else (none)) else (none)) else (none)) = some r := H
          have A11 := Aside0.mk A110
          clear A110
          by_cases c12 : t252 = true
          · subst c12
            have H1 : (if t257 = 0 then (if t256.toList = a0.toList then ((nibble_Right.f kj4 t253).bind fun t258 => (some t258)) else (none)) else (none)) = some r := by rw [if_pos rfl] at H; exact H
            clear H
            have H := H1
            clear H1
            by_cases c13 : t257 = 0
            · rw [if_pos c13] at H
              have c13b0 : (t257 == 0) = true := beq_iff_eq.mpr c13
              have c13b1 : (t257 != 0) = false := bne_eq_false_iff_eq.mpr c13
              clear c13
              by_cases c14 : t256.toList = a0.toList
              · rw [if_pos c14] at H
                have c14b0 : (t256.toList == a0.toList) = true := beq_iff_eq.mpr c14
                have c14b1 : (t256.toList != a0.toList) = false := bne_eq_false_iff_eq.mpr c14
                clear c14
                replace H := Option.bind_eq_some_iff.mp H
                obtain ⟨t258, A150, H⟩ := H
                replace H : (some t258) = some r := H
                have A15 := Aside0.mk A150
                clear A150
                obtain rfl := Option.some.inj H
                go_wp2_with (first | ((with_reducible refine gate_callee (f := 14) rfl ?_); refine goesL_ (some 27) rfl rfl Tryd.func14 (by kernel_rfl) rfl #[.string a0] rfl (by (try simp only [List.map_toArray, List.map_cons, List.map_nil]); first | done | rfl | (simp only [List.length_drop, List.length_take]; rfl)) ?_; (with_reducible refine (nibble_Unpack.calls kj4 a0 t253 t254 t255 _ A9.out).mono ?_); rintro e w16 ⟨rfl, hb⟩; refine ⟨_, rfl, ?_⟩; have n0_ := Aside0.mk (below_step (by repeat (first | (with_reducible first | exact HB.out | apply below_alloc | apply pw_below_drewN | apply below_drew1) | exact HB.out)) hb); clear HB; have HB := n0_; clear n0_; (try clear hb); (try clear hb2); (try clear hk); (try clear hi)) | ((with_reducible refine gate_callee (f := 15) rfl ?_); refine goesL_ (some 36) rfl rfl Tryd.func15 (by kernel_rfl) rfl #[.string t253, .bool t254] rfl (by (try simp only [List.map_toArray, List.map_cons, List.map_nil]); first | done | rfl | (simp only [List.length_drop, List.length_take]; rfl)) ?_; (with_reducible refine (nibble_Pack.calls kj4 t253 t254 t256 t257 _ A11.out).mono ?_); rintro e w17 ⟨rfl, hb⟩; refine ⟨_, rfl, ?_⟩; have n0_ := Aside0.mk (below_step (by repeat (first | (with_reducible first | exact HB.out | apply below_alloc | apply pw_below_drewN | apply below_drew1) | exact HB.out)) hb); clear HB; have HB := n0_; clear n0_; (try clear hb); (try clear hb2); (try clear hk); (try clear hi)) | (go_at_call 16; (with_reducible refine (nibble_Right.calls kj4 t253 t258 _ A15.out).mono ?_); rintro e w' ⟨rfl, ⟨nd, rfl⟩⟩))
                go_ret
                exact ⟨by first | rfl | (simp [errW_none, errW_some] <;> rfl) | (simp [*, errW_none, errW_some] <;> rfl), by repeat (first | (with_reducible first | exact HB.out | apply below_alloc | apply pw_below_drewN | apply below_drew1) | exact HB.out)⟩
              · rw [if_neg c14] at H
                exact absurd H (by simp)
            · rw [if_neg c13] at H
              exact absurd H (by simp)
          · replace c12 := Bool.eq_false_iff.mpr c12
            subst c12
            have H1 : (none) = some r := by rw [if_neg (show ¬ (false = true) by decide)] at H; exact H
            clear H
            have H := H1
            clear H1
            exact absurd H (by simp)
        · rw [if_neg c10] at H
          have c10b0 : (t255 == 0) = false := beq_eq_false_iff_ne.mpr c10
          have c10b1 : (t255 != 0) = true := bne_iff_ne.mpr c10
          replace H := Option.bind_eq_some_iff.mp H
          obtain ⟨t259, A180, H⟩ := H
          replace H : ((nibble_Pack.f kj4 t259 a2).bind fun bt260 => (if t252 = true then (if t255 = 10 then (if bt260.2 = 0 then (some (bt260.1.toList != a0.toList)) else (none)) else (none)) else (none))) = some r := H
          have A18 := Aside0.mk A180
          clear A180
          replace H := Option.bind_eq_some_iff.mp H
          obtain ⟨⟨t260, t261⟩, A190, H⟩ := H
          replace H : (if t252 = true then (if t255 = 10 then (if t261 = 0 then (some (t260.toList != a0.toList)) else (none)) else (none)) else (none)) = some r := H
          have A19 := Aside0.mk A190
          clear A190
          by_cases c20 : t252 = true
          · subst c20
            have H1 : (if t255 = 10 then (if t261 = 0 then (some (t260.toList != a0.toList)) else (none)) else (none)) = some r := by rw [if_pos rfl] at H; exact H
            clear H
            have H := H1
            clear H1
            by_cases c21 : t255 = 10
            · rw [if_pos c21] at H
              have c21b0 : (t255 == 10) = true := beq_iff_eq.mpr c21
              have c21b1 : (t255 != 10) = false := bne_eq_false_iff_eq.mpr c21
              clear c21
              by_cases c22 : t261 = 0
              · rw [if_pos c22] at H
                have c22b0 : (t261 == 0) = true := beq_iff_eq.mpr c22
                have c22b1 : (t261 != 0) = false := bne_eq_false_iff_eq.mpr c22
                clear c22
                obtain rfl := Option.some.inj H
                go_wp2_with (first | ((with_reducible refine gate_callee (f := 14) rfl ?_); refine goesL_ (some 27) rfl rfl Tryd.func14 (by kernel_rfl) rfl #[.string a0] rfl (by (try simp only [List.map_toArray, List.map_cons, List.map_nil]); first | done | rfl | (simp only [List.length_drop, List.length_take]; rfl)) ?_; (with_reducible refine (nibble_Unpack.calls kj4 a0 t253 t254 t255 _ A9.out).mono ?_); rintro e w23 ⟨rfl, hb⟩; refine ⟨_, rfl, ?_⟩; have n0_ := Aside0.mk (below_step (by repeat (first | (with_reducible first | exact HB.out | apply below_alloc | apply pw_below_drewN | apply below_drew1) | exact HB.out)) hb); clear HB; have HB := n0_; clear n0_; (try clear hb); (try clear hb2); (try clear hk); (try clear hi)) | ((with_reducible refine gate_callee (f := 10) rfl ?_); refine goesL_ (some 55) rfl rfl Tryd.func10 (by kernel_rfl) rfl #[.string a1] rfl (by (try simp only [List.map_toArray, List.map_cons, List.map_nil]); first | done | rfl | (simp only [List.length_drop, List.length_take]; rfl)) ?_; (with_reducible refine (nibble_Of.calls kj4 a1 t259 _ A18.out).mono ?_); rintro e w24 ⟨rfl, hb⟩; refine ⟨_, rfl, ?_⟩; have n0_ := Aside0.mk (below_step (by repeat (first | (with_reducible first | exact HB.out | apply below_alloc | apply pw_below_drewN | apply below_drew1) | exact HB.out)) hb); clear HB; have HB := n0_; clear n0_; (try clear hb); (try clear hb2); (try clear hk); (try clear hi)) | ((with_reducible refine gate_callee (f := 15) rfl ?_); refine goesL_ (some 57) rfl rfl Tryd.func15 (by kernel_rfl) rfl #[.string t259, .bool a2] rfl (by (try simp only [List.map_toArray, List.map_cons, List.map_nil]); first | done | rfl | (simp only [List.length_drop, List.length_take]; rfl)) ?_; (with_reducible refine (nibble_Pack.calls kj4 t259 a2 t260 t261 _ A19.out).mono ?_); rintro e w25 ⟨rfl, hb⟩; refine ⟨_, rfl, ?_⟩; have n0_ := Aside0.mk (below_step (by repeat (first | (with_reducible first | exact HB.out | apply below_alloc | apply pw_below_drewN | apply below_drew1) | exact HB.out)) hb); clear HB; have HB := n0_; clear n0_; (try clear hb); (try clear hb2); (try clear hk); (try clear hi)))
                go_ret
                exact ⟨by first | rfl | (simp [errW_none, errW_some] <;> rfl) | (simp [*, errW_none, errW_some] <;> rfl), by repeat (first | (with_reducible first | exact HB.out | apply below_alloc | apply pw_below_drewN | apply below_drew1) | exact HB.out)⟩
              · rw [if_neg c22] at H
                exact absurd H (by simp)
            · rw [if_neg c21] at H
              exact absurd H (by simp)
          · replace c20 := Bool.eq_false_iff.mpr c20
            subst c20
            have H1 : (none) = some r := by rw [if_neg (show ¬ (false = true) by decide)] at H; exact H
            clear H
            have H := H1
            clear H1
            exact absurd H (by simp)

/-- THE ONE PURE STATEMENT of loesslaw03_NibbleUnpacks: yours. -/
def loesslaw03_NibbleUnpacks.Pure : Prop := ∀ (a0 : ByteArray) (a1 : ByteArray) (a2 : Bool), a0.size ≤ 140737488351232 → a1.size ≤ 140737488351232 → ∃ k, loesslaw03_NibbleUnpacks.f k a0 a1 a2 = some true
theorem loesslaw03_NibbleUnpacks.walk (P : loesslaw03_NibbleUnpacks.Pure) (a0 : ByteArray) (a1 : ByteArray) (a2 : Bool) (w : World) (w0 : a0.size ≤ 140737488351232) (w1 : a1.size ≤ 140737488351232) :
    Calls Tryd.prog 4 #[.string a0, .string a1, .bool a2] w fun e w' => e = .returned (.bool true) ∧ Below w.heap.size w w' := by
  obtain ⟨k, h⟩ := P a0 a1 a2 w0 w1
  refine (loesslaw03_NibbleUnpacks.calls k a0 a1 a2 true w h).mono ?_
  rintro e w' ⟨rfl, hd⟩
  exact ⟨rfl, hd⟩

end Go.Proofs.YtlajpfdmbagedaaDoor.P
