/- What Go functions of the program come to: a Lean function and its contract for each. Written by a program of this session over the kit's printer, some contracts by hand. -/
import Derived.Test.YtkkammncpkgodaaP0
import Derived.Test.YtkkammncpkgodaaP15
namespace Go.Proofs.Ytkkammncpkgodaa.P
open Go.RowKit Go.Proofs.YtkkammncpkgodaaW.PrintWords Go.Proofs.YtkkammncpkgodaaW.PrintLast Go.Proofs.YtkkammncpkgodaaW.PrintMore
attribute [local go_sem] max2_int min2_int max_two min_two max_three min_three max_four min_four   -- for this text's walks alone
set_option linter.unusedVariables false
set_option linter.unusedSimpArgs false

/-! ### loessref02_Split: function 14 -/
mutual
def loessref02_Split.j0 : Nat → ByteArray → Bool → Int → Option (ByteArray × Bool × ByteArray × Int)
  | 0, _, _, _ => none
  | k + 1, x0, x7, x8 => if x8 > 55 then (if (x0.size : Int) < (wrap64 ((wrap64 (1 + x8)) - 55)) then (some ((⟨#[]⟩ : ByteArray), false, (⟨#[]⟩ : ByteArray), 10)) else (if 1 ≤ (wrap64 ((wrap64 (1 + x8)) - 55)) then (if (wrap64 ((wrap64 (1 + x8)) - 55)) ≤ (x0.size : Int) then ((loessref02_Uint.f k (x0.extract 1 ((wrap64 ((wrap64 (1 + x8)) - 55)) : Int).toNat)).bind fun bt193 => (if bt193.2 = true then (if bt193.1 < 56 then (loessref02_Split.j1 k x0 x7 x8 bt193.1 true) else (loessref02_Split.j1 k x0 x7 x8 bt193.1 (decide (bt193.1 > (IntKind.u64.wrap ((x0.size : Int))))))) else (loessref02_Split.j1 k x0 x7 x8 bt193.1 true))) else (none)) else (none))) else (if (wrap64 ((x0.size : Int) - 1)) < x8 then (some ((⟨#[]⟩ : ByteArray), false, (⟨#[]⟩ : ByteArray), 10)) else (if x7 = true then (if 1 ≤ (wrap64 (1 + x8)) then (if (wrap64 (1 + x8)) ≤ (x0.size : Int) then (if 0 ≤ (wrap64 (1 + x8)) then (some (x0.extract 1 ((wrap64 (1 + x8)) : Int).toNat, x7, x0.extract ((wrap64 (1 + x8)) : Int).toNat x0.size, 0)) else (none)) else (none)) else (none)) else (if x8 = 1 then (if 1 < (x0.size : Int) then (if (bt x0 1) < 128 then (some ((⟨#[]⟩ : ByteArray), false, (⟨#[]⟩ : ByteArray), 10)) else (if 1 ≤ (wrap64 (1 + x8)) then (if (wrap64 (1 + x8)) ≤ (x0.size : Int) then (if 0 ≤ (wrap64 (1 + x8)) then (some (x0.extract 1 ((wrap64 (1 + x8)) : Int).toNat, x7, x0.extract ((wrap64 (1 + x8)) : Int).toNat x0.size, 0)) else (none)) else (none)) else (none))) else (none)) else (if 1 ≤ (wrap64 (1 + x8)) then (if (wrap64 (1 + x8)) ≤ (x0.size : Int) then (if 0 ≤ (wrap64 (1 + x8)) then (some (x0.extract 1 ((wrap64 (1 + x8)) : Int).toNat, x7, x0.extract ((wrap64 (1 + x8)) : Int).toNat x0.size, 0)) else (none)) else (none)) else (none)))))
def loessref02_Split.j1 : Nat → ByteArray → Bool → Int → Int → Bool → Option (ByteArray × Bool × ByteArray × Int)
  | 0, _, _, _, _, _ => none
  | k + 1, x0, x7, x8, x11, x62 => if x62 = true then (some ((⟨#[]⟩ : ByteArray), false, (⟨#[]⟩ : ByteArray), 10)) else (if (wrap64 ((x0.size : Int) - (wrap64 ((wrap64 (1 + x8)) - 55)))) < (wrap64 (x11)) then (some ((⟨#[]⟩ : ByteArray), false, (⟨#[]⟩ : ByteArray), 10)) else (if x7 = true then (if 0 ≤ (wrap64 ((wrap64 (1 + x8)) - 55)) then (if (wrap64 ((wrap64 (1 + x8)) - 55)) ≤ (wrap64 ((wrap64 ((wrap64 (1 + x8)) - 55)) + (wrap64 (x11)))) then (if (wrap64 ((wrap64 ((wrap64 (1 + x8)) - 55)) + (wrap64 (x11)))) ≤ (x0.size : Int) then (if 0 ≤ (wrap64 ((wrap64 ((wrap64 (1 + x8)) - 55)) + (wrap64 (x11)))) then (some (x0.extract ((wrap64 ((wrap64 (1 + x8)) - 55)) : Int).toNat ((wrap64 ((wrap64 ((wrap64 (1 + x8)) - 55)) + (wrap64 (x11)))) : Int).toNat, x7, x0.extract ((wrap64 ((wrap64 ((wrap64 (1 + x8)) - 55)) + (wrap64 (x11)))) : Int).toNat x0.size, 0)) else (none)) else (none)) else (none)) else (none)) else (if (wrap64 (x11)) = 1 then (if 0 ≤ (wrap64 ((wrap64 (1 + x8)) - 55)) then (if (wrap64 ((wrap64 (1 + x8)) - 55)) < (x0.size : Int) then (if (bt x0 (wrap64 ((wrap64 (1 + x8)) - 55))) < 128 then (some ((⟨#[]⟩ : ByteArray), false, (⟨#[]⟩ : ByteArray), 10)) else (if (wrap64 ((wrap64 (1 + x8)) - 55)) ≤ (wrap64 ((wrap64 ((wrap64 (1 + x8)) - 55)) + (wrap64 (x11)))) then (if (wrap64 ((wrap64 ((wrap64 (1 + x8)) - 55)) + (wrap64 (x11)))) ≤ (x0.size : Int) then (if 0 ≤ (wrap64 ((wrap64 ((wrap64 (1 + x8)) - 55)) + (wrap64 (x11)))) then (some (x0.extract ((wrap64 ((wrap64 (1 + x8)) - 55)) : Int).toNat ((wrap64 ((wrap64 ((wrap64 (1 + x8)) - 55)) + (wrap64 (x11)))) : Int).toNat, x7, x0.extract ((wrap64 ((wrap64 ((wrap64 (1 + x8)) - 55)) + (wrap64 (x11)))) : Int).toNat x0.size, 0)) else (none)) else (none)) else (none))) else (none)) else (none)) else (if 0 ≤ (wrap64 ((wrap64 (1 + x8)) - 55)) then (if (wrap64 ((wrap64 (1 + x8)) - 55)) ≤ (wrap64 ((wrap64 ((wrap64 (1 + x8)) - 55)) + (wrap64 (x11)))) then (if (wrap64 ((wrap64 ((wrap64 (1 + x8)) - 55)) + (wrap64 (x11)))) ≤ (x0.size : Int) then (if 0 ≤ (wrap64 ((wrap64 ((wrap64 (1 + x8)) - 55)) + (wrap64 (x11)))) then (some (x0.extract ((wrap64 ((wrap64 (1 + x8)) - 55)) : Int).toNat ((wrap64 ((wrap64 ((wrap64 (1 + x8)) - 55)) + (wrap64 (x11)))) : Int).toNat, x7, x0.extract ((wrap64 ((wrap64 ((wrap64 (1 + x8)) - 55)) + (wrap64 (x11)))) : Int).toNat x0.size, 0)) else (none)) else (none)) else (none)) else (none)))))
end
def loessref02_Split.f (k : Nat) (a0 : ByteArray) : Option (ByteArray × Bool × ByteArray × Int) := if (a0.size : Int) = 0 then (some ((⟨#[]⟩ : ByteArray), false, (⟨#[]⟩ : ByteArray), 10)) else (if 0 < (a0.size : Int) then (if (wrap64 (bt a0 0)) < 128 then (if 0 ≤ 1 then (if 1 ≤ (a0.size : Int) then (some (a0.extract 0 1, false, a0.extract 1 a0.size, 0)) else (none)) else (none)) else (if (wrap64 (bt a0 0)) ≥ 192 then (loessref02_Split.j0 k a0 (decide ((wrap64 (bt a0 0)) ≥ 192)) (wrap64 ((wrap64 (bt a0 0)) - 192))) else (loessref02_Split.j0 k a0 (decide ((wrap64 (bt a0 0)) ≥ 192)) (wrap64 ((wrap64 (bt a0 0)) - 128))))) else (none))
theorem loessref02_Split.mono_l : ∀ k, (∀ y0 y1 y2, LeO (loessref02_Split.j0 k y0 y1 y2) (loessref02_Split.j0 (k + 1) y0 y1 y2)) ∧ (∀ y0 y1 y2 y3 y4, LeO (loessref02_Split.j1 k y0 y1 y2 y3 y4) (loessref02_Split.j1 (k + 1) y0 y1 y2 y3 y4))
  | 0 => ⟨fun _ _ _ r h => by simp [loessref02_Split.j0] at h, fun _ _ _ _ _ r h => by simp [loessref02_Split.j1] at h⟩
  | k + 1 => by
    obtain ⟨ih0, ih1⟩ := loessref02_Split.mono_l k
    refine ⟨?_, ?_⟩
    · intro y0 y1 y2
      unfold loessref02_Split.j0
      repeat' first
      | (with_reducible exact ih0 _ _ _)
      | (with_reducible exact ih1 _ _ _ _ _)
      | (with_reducible exact loessref02_Uint.mono _ _)
      | (with_reducible exact LeO.refl _)
      | (with_reducible exact LeO.none _)
      | (with_reducible refine LeO.ite ?_ ?_)
      | (with_reducible refine LeO.bind ?_ (fun _ => ?_))
      | exact ih0 _ _ _
      | exact ih1 _ _ _ _ _
      | exact loessref02_Uint.mono _ _
      | exact LeO.none _
      | refine LeO.ite ?_ ?_
      | refine LeO.bind ?_ (fun _ => ?_)
    · intro y0 y1 y2 y3 y4
      unfold loessref02_Split.j1
      repeat' first
      | (with_reducible exact ih0 _ _ _)
      | (with_reducible exact ih1 _ _ _ _ _)
      | (with_reducible exact loessref02_Uint.mono _ _)
      | (with_reducible exact LeO.refl _)
      | (with_reducible exact LeO.none _)
      | (with_reducible refine LeO.ite ?_ ?_)
      | (with_reducible refine LeO.bind ?_ (fun _ => ?_))
      | exact ih0 _ _ _
      | exact ih1 _ _ _ _ _
      | exact loessref02_Uint.mono _ _
      | exact LeO.none _
      | refine LeO.ite ?_ ?_
      | refine LeO.bind ?_ (fun _ => ?_)
theorem loessref02_Split.mono : ∀ a0 k, LeO (loessref02_Split.f k a0) (loessref02_Split.f (k + 1) a0) := by
  intro a0 k
  obtain ⟨ih0, ih1⟩ := loessref02_Split.mono_l k
  unfold loessref02_Split.f
  repeat' first
      | (with_reducible exact ih0 _ _ _)
      | (with_reducible exact ih1 _ _ _ _ _)
      | (with_reducible exact loessref02_Uint.mono _ _)
      | (with_reducible exact LeO.refl _)
      | (with_reducible exact LeO.none _)
      | (with_reducible refine LeO.ite ?_ ?_)
      | (with_reducible refine LeO.bind ?_ (fun _ => ?_))
      | exact ih0 _ _ _
      | exact ih1 _ _ _ _ _
      | exact loessref02_Uint.mono _ _
      | exact LeO.none _
      | refine LeO.ite ?_ ?_
      | refine LeO.bind ?_ (fun _ => ?_)
set_option maxHeartbeats 8000000 in
set_option maxRecDepth 100000 in
theorem loessref02_Split.calls (k : Nat) (a0 : ByteArray) (r1 : ByteArray) (r2 : Bool) (r3 : ByteArray) (r4 : Int) (w : World) (h : loessref02_Split.f k a0 = some (r1, r2, r3, r4)) :
    Calls Try.prog 14 #[.string a0] w fun e w' => e = .returned (.tuple #[.string r1, .bool r2, .string r3, .int .i64 r4]) ∧ Drawn0 w w' := by
  have H : (if (a0.size : Int) = 0 then (some ((⟨#[]⟩ : ByteArray), false, (⟨#[]⟩ : ByteArray), 10)) else (if 0 < (a0.size : Int) then (if (wrap64 (bt a0 0)) < 128 then (if 0 ≤ 1 then (if 1 ≤ (a0.size : Int) then (some (a0.extract 0 1, false, a0.extract 1 a0.size, 0)) else (none)) else (none)) else (if (wrap64 (bt a0 0)) ≥ 192 then (loessref02_Split.j0 k a0 (decide ((wrap64 (bt a0 0)) ≥ 192)) (wrap64 ((wrap64 (bt a0 0)) - 192))) else (loessref02_Split.j0 k a0 (decide ((wrap64 (bt a0 0)) ≥ 192)) (wrap64 ((wrap64 (bt a0 0)) - 128))))) else (none))) = some (r1, r2, r3, r4) := h
  clear h
  by_cases c2 : (a0.size : Int) = 0
  · rw [if_pos c2] at H
    have c2b0 : ((a0.size : Int) == 0) = true := beq_iff_eq.mpr c2
    have c2b1 : ((a0.size : Int) != 0) = false := bne_eq_false_iff_eq.mpr c2
    clear c2
    simp only [Option.some.injEq, Prod.mk.injEq] at H
    obtain ⟨rfl, rfl, rfl, rfl⟩ := H
    go_enter Try.func14, Try.ntmps14
    go_wp2
    repeat (go_quiet (fail); try go_wp2)
    refine bodyPost_ret (results_list (rs := [.tmp 2, .tmp 3, .tmp 4, .tmp 5]) rfl (by simp) (.tmp (.tmp (.tmp (.tmp .nil))))) rfl ?_
    exact ⟨by first | rfl | (simp; done) | (simp [*]; done), by repeat (first | exact Drawn0.refl _ | apply Drawn0.step)⟩
  · rw [if_neg c2] at H
    have c2b0 : ((a0.size : Int) == 0) = false := beq_eq_false_iff_ne.mpr c2
    have c2b1 : ((a0.size : Int) != 0) = true := bne_iff_ne.mpr c2
    by_cases c3 : 0 < (a0.size : Int)
    · rw [if_pos c3] at H
      have c3b0 : decide (0 < (a0.size : Int)) = true := decide_eq_true c3
      have c3b1 : decide (0 < a0.size) = true := decide_eq_true (by omega)
      clear c3
      by_cases c5 : (wrap64 (bt a0 0)) < 128
      · rw [if_pos c5] at H
        have c5b0 : decide ((wrap64 (bt a0 0)) < 128) = true := decide_eq_true c5
        clear c5
        by_cases c6 : 0 ≤ 1
        · rw [if_pos c6] at H
          have c6b0 := eq_true c6
          have c6b1 : decide (0 ≤ 1) = true := decide_eq_true c6
          clear c6
          by_cases c7 : 1 ≤ (a0.size : Int)
          · rw [if_pos c7] at H
            have c7b0 := eq_true c7
            have c7b1 : decide (1 ≤ (a0.size : Int)) = true := decide_eq_true c7
            clear c7
            have c8b0 := eq_true (of_decide_eq_true (by first | (with_reducible assumption) | assumption) : 1 ≤ (a0.size : Int))
            simp only [Option.some.injEq, Prod.mk.injEq] at H
            obtain ⟨rfl, rfl, rfl, rfl⟩ := H
            have p4 : 0 ≤ (0 : Int) := (by omega)
            have q4 : 0 < a0.size := (by have : (0 : Int) < (a0.size : Int) := of_decide_eq_true (by first | (with_reducible assumption) | assumption); omega)
            have hx4 : ∀ h : 0 < a0.size, ((a0[0]'h).toNat : Int) = bt a0 0 := bt_at a0 0
            clear p4
            have qi4 : (0 < (a0.size : Int)) = True := eq_true (of_decide_eq_true (by first | (with_reducible assumption) | assumption))
            replace q4 := eq_true q4
            go_enter Try.func14, Try.ntmps14
            go_wp2
            repeat (go_quiet (fail); try go_wp2)
            refine bodyPost_ret (results_list (rs := [.tmp 2, .tmp 3, .tmp 4, .tmp 5]) rfl (by simp) (.tmp (.tmp (.tmp (.tmp .nil))))) rfl ?_
            exact ⟨by first | rfl | (simp; done) | (simp [*]; done), by repeat (first | exact Drawn0.refl _ | apply Drawn0.step)⟩
          · rw [if_neg c7] at H
            exact absurd H (by simp)
        · rw [if_neg c6] at H
          exact absurd H (by simp)
      · rw [if_neg c5] at H
        have c5b0 : decide ((wrap64 (bt a0 0)) < 128) = false := decide_eq_false c5
        clear c5
        have HC9 := Aside0.mk H
        clear H
        have p4 : 0 ≤ (0 : Int) := (by omega)
        have q4 : 0 < a0.size := (by have : (0 : Int) < (a0.size : Int) := of_decide_eq_true (by first | (with_reducible assumption) | assumption); omega)
        have hx4 : ∀ h : 0 < a0.size, ((a0[0]'h).toNat : Int) = bt a0 0 := bt_at a0 0
        clear p4
        have qi4 : (0 < (a0.size : Int)) = True := eq_true (of_decide_eq_true (by first | (with_reducible assumption) | assumption))
        replace q4 := eq_true q4
        go_enter Try.func14, Try.ntmps14
        go_upto_if 29 with (fail)
        repeat (go_quiet (fail); go_upto_if 29 with (fail))
        go_cut [7, 8] (fun v7 v8 wc => ∃ (kq : Nat) (x7_8 : Bool) (x8_8 : Int), v7 = .bool x7_8 ∧ v8 = .int .i64 x8_8 ∧ Aside0 (loessref02_Split.j0 kq a0 x7_8 x8_8 = some (r1, r2, r3, r4)) ∧ Aside0 (kq ≤ k) ∧ Drawn0 w wc)
        case first =>
          have H := HC9.out
          clear HC9
          by_cases c10 : (wrap64 (bt a0 0)) ≥ 192
          · rw [if_pos c10] at H
            have c10b0 : decide (192 ≤ (wrap64 (bt a0 0))) = true := decide_eq_true c10
            clear c10
            (first | rw [c10b0] | (simp only [i64_w, i32_w]; rw [c10b0]) | skip)
            have H' := Aside0.mk H
            clear H
            go_wp2
            repeat (go_quiet (fail); try go_wp2)
            go_meet
            case rel => exact ⟨_, (decide ((wrap64 (bt a0 0)) ≥ 192)), (wrap64 ((wrap64 (bt a0 0)) - 192)), (by first | rfl | (simp; done) | (simp [*]; done)), (by first | rfl | (simp; done) | (simp [*]; done)), H', ⟨by first | omega | exact Nat.le_refl _⟩, by repeat (first | exact Drawn0.refl _ | apply Drawn0.step)⟩
          · rw [if_neg c10] at H
            have c10b0 : decide (192 ≤ (wrap64 (bt a0 0))) = false := decide_eq_false c10
            clear c10
            (first | rw [c10b0] | (simp only [i64_w, i32_w]; rw [c10b0]) | skip)
            have H' := Aside0.mk H
            clear H
            go_wp2
            repeat (go_quiet (fail); try go_wp2)
            go_meet
            case rel => exact ⟨_, (decide ((wrap64 (bt a0 0)) ≥ 192)), (wrap64 ((wrap64 (bt a0 0)) - 128)), (by first | rfl | (simp; done) | (simp [*]; done)), (by first | rfl | (simp; done) | (simp [*]; done)), H', ⟨by first | omega | exact Nat.le_refl _⟩, by repeat (first | exact Drawn0.refl _ | apply Drawn0.step)⟩
        case rest =>
          clear HC9
          try clear c1
          try clear c2
          try clear c2b0
          try clear c2b1
          try clear p2
          try clear c3
          try clear c3b0
          try clear c3b1
          try clear p4
          try clear q4
          try clear hx4
          try clear qi4
          try clear c5
          try clear c5b0
          try clear c6
          try clear c6b0
          try clear c6b1
          try clear p6
          try clear c7
          try clear c7b0
          try clear c7b1
          try clear c8
          try clear c8b0
          try clear c10
          try clear c10b0
          try clear p4
          try clear q4
          obtain ⟨kq, x7_8, x8_8, rfl, rfl, HA, HJ8, ⟨mc8, rfl⟩⟩ := hcut
          cases kq with
          | zero => exact absurd HA.out (by simp [loessref02_Split.j0])
          | succ kj8 =>
            have H := HA.out
            clear HA
            simp only [loessref02_Split.j0] at H
            by_cases c11 : x8_8 > 55
            · rw [if_pos c11] at H
              have c11b0 : decide (55 < x8_8) = true := decide_eq_true c11
              clear c11
              by_cases c12 : (a0.size : Int) < (wrap64 ((wrap64 (1 + x8_8)) - 55))
              · rw [if_pos c12] at H
                have c12b0 : decide ((a0.size : Int) < (wrap64 ((wrap64 (1 + x8_8)) - 55))) = true := decide_eq_true c12
                clear c12
                simp only [Option.some.injEq, Prod.mk.injEq] at H
                obtain ⟨rfl, rfl, rfl, rfl⟩ := H
                go_wp2
                repeat (go_quiet (fail); try go_wp2)
                refine bodyPost_ret (results_list (rs := [.tmp 2, .tmp 3, .tmp 4, .tmp 5]) rfl (by simp) (.tmp (.tmp (.tmp (.tmp .nil))))) rfl ?_
                exact ⟨by first | rfl | (simp; done) | (simp [*]; done), by repeat (first | exact Drawn0.refl _ | apply Drawn0.step)⟩
              · rw [if_neg c12] at H
                have c12b0 : decide ((a0.size : Int) < (wrap64 ((wrap64 (1 + x8_8)) - 55))) = false := decide_eq_false c12
                clear c12
                by_cases c13 : 1 ≤ (wrap64 ((wrap64 (1 + x8_8)) - 55))
                · rw [if_pos c13] at H
                  have c13b0 := eq_true c13
                  have c13b1 : decide (1 ≤ (wrap64 ((wrap64 (1 + x8_8)) - 55))) = true := decide_eq_true c13
                  by_cases c14 : (wrap64 ((wrap64 (1 + x8_8)) - 55)) ≤ (a0.size : Int)
                  · rw [if_pos c14] at H
                    have c14b0 := eq_true c14
                    have c14b1 : decide ((wrap64 ((wrap64 (1 + x8_8)) - 55)) ≤ (a0.size : Int)) = true := decide_eq_true c14
                    replace H := Option.bind_eq_some_iff.mp H
                    obtain ⟨⟨t193, t194⟩, A150, H⟩ := H
                    replace H : (if t194 = true then (if t193 < 56 then (loessref02_Split.j1 kj8 a0 x7_8 x8_8 t193 true) else (loessref02_Split.j1 kj8 a0 x7_8 x8_8 t193 (decide (t193 > (IntKind.u64.wrap ((a0.size : Int))))))) else (loessref02_Split.j1 kj8 a0 x7_8 x8_8 t193 true)) = some (r1, r2, r3, r4) := H
                    have A15 := Aside0.mk A150
                    clear A150
                    have HC16 := Aside0.mk H
                    clear H
                    go_upto_region 16 with (first | (go_at_call 17; (with_reducible refine (loessref02_Uint.calls kj8 (a0.extract 1 ((wrap64 ((wrap64 (1 + x8_8)) - 55)) : Int).toNat) t193 t194 _ A15.out).mono ?_); rintro e w' ⟨rfl, ⟨nd, rfl⟩⟩; (try first | exact ⟨rfl, _, World.drewN_drewN _ _ _⟩ | exact ⟨rfl, _, Eq.trans (World.drewN_drewN _ _ _) (congrArg (World.drewN _) (Nat.add_assoc _ _ _))⟩)))
                    repeat (go_quiet (first | (go_at_call 17; (with_reducible refine (loessref02_Uint.calls kj8 (a0.extract 1 ((wrap64 ((wrap64 (1 + x8_8)) - 55)) : Int).toNat) t193 t194 _ A15.out).mono ?_); rintro e w' ⟨rfl, ⟨nd, rfl⟩⟩; (try first | exact ⟨rfl, _, World.drewN_drewN _ _ _⟩ | exact ⟨rfl, _, Eq.trans (World.drewN_drewN _ _ _) (congrArg (World.drewN _) (Nat.add_assoc _ _ _))⟩))); go_upto_region 16 with (first | (go_at_call 17; (with_reducible refine (loessref02_Uint.calls kj8 (a0.extract 1 ((wrap64 ((wrap64 (1 + x8_8)) - 55)) : Int).toNat) t193 t194 _ A15.out).mono ?_); rintro e w' ⟨rfl, ⟨nd, rfl⟩⟩; (try first | exact ⟨rfl, _, World.drewN_drewN _ _ _⟩ | exact ⟨rfl, _, Eq.trans (World.drewN_drewN _ _ _) (congrArg (World.drewN _) (Nat.add_assoc _ _ _))⟩))))
                    (try simp only [Act.put, List.setIfInBounds_toArray, List.set_cons_zero, List.set_cons_succ])
                    go_cut [62] (fun v62 wc => ∃ (kq : Nat) (x62_15 : Bool), v62 = .bool x62_15 ∧ Aside0 (loessref02_Split.j1 kq a0 x7_8 x8_8 t193 x62_15 = some (r1, r2, r3, r4)) ∧ Aside0 (kq ≤ kj8) ∧ Drawn0 w wc)
                    case first =>
                      have H := HC16.out
                      clear HC16
                      by_cases c17 : t194 = true
                      · subst c17
                        have H1 : (if t193 < 56 then (loessref02_Split.j1 kj8 a0 x7_8 x8_8 t193 true) else (loessref02_Split.j1 kj8 a0 x7_8 x8_8 t193 (decide (t193 > (IntKind.u64.wrap ((a0.size : Int))))))) = some (r1, r2, r3, r4) := by rw [if_pos rfl] at H; exact H
                        clear H
                        have H := H1
                        clear H1
                        by_cases c18 : t193 < 56
                        · rw [if_pos c18] at H
                          have c18b0 : decide (t193 < 56) = true := decide_eq_true c18
                          clear c18
                          (first | rw [c18b0] | (simp only [i64_w, i32_w]; rw [c18b0]) | skip)
                          have H' := Aside0.mk H
                          clear H
                          go_wp2
                          repeat (go_quiet (fail); try go_wp2)
                          go_meet
                          case rel => exact ⟨_, (true), (by first | rfl | (simp; done) | (simp [*]; done)), H', ⟨by have := HJ8.out; first | omega | exact Nat.le_refl _⟩, by repeat (first | exact Drawn0.refl _ | apply Drawn0.step)⟩
                        · rw [if_neg c18] at H
                          have c18b0 : decide (t193 < 56) = false := decide_eq_false c18
                          clear c18
                          (first | rw [c18b0] | (simp only [i64_w, i32_w]; rw [c18b0]) | skip)
                          have H' := Aside0.mk H
                          clear H
                          go_wp2
                          repeat (go_quiet (fail); try go_wp2)
                          go_meet
                          case rel => exact ⟨_, (decide (t193 > (IntKind.u64.wrap ((a0.size : Int))))), (by first | rfl | (simp; done) | (simp [*]; done)), H', ⟨by have := HJ8.out; first | omega | exact Nat.le_refl _⟩, by repeat (first | exact Drawn0.refl _ | apply Drawn0.step)⟩
                      · replace c17 := Bool.eq_false_iff.mpr c17
                        subst c17
                        have H1 : (loessref02_Split.j1 kj8 a0 x7_8 x8_8 t193 true) = some (r1, r2, r3, r4) := by rw [if_neg (show ¬ (false = true) by decide)] at H; exact H
                        clear H
                        have H := H1
                        clear H1
                        have H' := Aside0.mk H
                        clear H
                        go_wp2
                        repeat (go_quiet (fail); try go_wp2)
                        go_meet
                        case rel => exact ⟨_, (true), (by first | rfl | (simp; done) | (simp [*]; done)), H', ⟨by have := HJ8.out; first | omega | exact Nat.le_refl _⟩, by repeat (first | exact Drawn0.refl _ | apply Drawn0.step)⟩
                    case rest =>
                      clear HC16
                      try clear c1
                      try clear c2
                      try clear c2b0
                      try clear c2b1
                      try clear p2
                      try clear c3
                      try clear c3b0
                      try clear c3b1
                      try clear p4
                      try clear q4
                      try clear hx4
                      try clear qi4
                      try clear c5
                      try clear c5b0
                      try clear c6
                      try clear c6b0
                      try clear c6b1
                      try clear p6
                      try clear c7
                      try clear c7b0
                      try clear c7b1
                      try clear c8
                      try clear c8b0
                      try clear c10
                      try clear c10b0
                      try clear c11
                      try clear c11b0
                      try clear c12
                      try clear c12b0
                      try clear c13
                      try clear c13b0
                      try clear c13b1
                      try clear c14
                      try clear c14b0
                      try clear c14b1
                      try clear c17
                      try clear c18
                      try clear c18b0
                      try clear p2
                      try clear p4
                      try clear p6
                      try clear q4
                      obtain ⟨kq, x62_15, rfl, HA, HJ15, ⟨mc15, rfl⟩⟩ := hcut
                      cases kq with
                      | zero => exact absurd HA.out (by simp [loessref02_Split.j1])
                      | succ kj15 =>
                        have H := HA.out
                        clear HA
                        simp only [loessref02_Split.j1] at H
                        by_cases c19 : x62_15 = true
                        · subst c19
                          have H1 : (some ((⟨#[]⟩ : ByteArray), false, (⟨#[]⟩ : ByteArray), 10)) = some (r1, r2, r3, r4) := by rw [if_pos rfl] at H; exact H
                          clear H
                          have H := H1
                          clear H1
                          simp only [Option.some.injEq, Prod.mk.injEq] at H
                          obtain ⟨rfl, rfl, rfl, rfl⟩ := H
                          go_wp2
                          repeat (go_quiet (fail); try go_wp2)
                          refine bodyPost_ret (results_list (rs := [.tmp 2, .tmp 3, .tmp 4, .tmp 5]) rfl (by simp) (.tmp (.tmp (.tmp (.tmp .nil))))) rfl ?_
                          exact ⟨by first | rfl | (simp; done) | (simp [*]; done), by repeat (first | exact Drawn0.refl _ | apply Drawn0.step)⟩
                        · replace c19 := Bool.eq_false_iff.mpr c19
                          subst c19
                          have H1 : (if (wrap64 ((a0.size : Int) - (wrap64 ((wrap64 (1 + x8_8)) - 55)))) < (wrap64 (t193)) then (some ((⟨#[]⟩ : ByteArray), false, (⟨#[]⟩ : ByteArray), 10)) else (if x7_8 = true then (if 0 ≤ (wrap64 ((wrap64 (1 + x8_8)) - 55)) then (if (wrap64 ((wrap64 (1 + x8_8)) - 55)) ≤ (wrap64 ((wrap64 ((wrap64 (1 + x8_8)) - 55)) + (wrap64 (t193)))) then (if (wrap64 ((wrap64 ((wrap64 (1 + x8_8)) - 55)) + (wrap64 (t193)))) ≤ (a0.size : Int) then (if 0 ≤ (wrap64 ((wrap64 ((wrap64 (1 + x8_8)) - 55)) + (wrap64 (t193)))) then (some (a0.extract ((wrap64 ((wrap64 (1 + x8_8)) - 55)) : Int).toNat ((wrap64 ((wrap64 ((wrap64 (1 + x8_8)) - 55)) + (wrap64 (t193)))) : Int).toNat, x7_8, a0.extract ((wrap64 ((wrap64 ((wrap64 (1 + x8_8)) - 55)) + (wrap64 (t193)))) : Int).toNat a0.size, 0)) else (none)) else (none)) else (none)) else (none)) else (if (wrap64 (t193)) = 1 then (if 0 ≤ (wrap64 ((wrap64 (1 + x8_8)) - 55)) then (if (wrap64 ((wrap64 (1 + x8_8)) - 55)) < (a0.size : Int) then (if (bt a0 (wrap64 ((wrap64 (1 + x8_8)) - 55))) < 128 then (some ((⟨#[]⟩ : ByteArray), false, (⟨#[]⟩ : ByteArray), 10)) else (if (wrap64 ((wrap64 (1 + x8_8)) - 55)) ≤ (wrap64 ((wrap64 ((wrap64 (1 + x8_8)) - 55)) + (wrap64 (t193)))) then (if (wrap64 ((wrap64 ((wrap64 (1 + x8_8)) - 55)) + (wrap64 (t193)))) ≤ (a0.size : Int) then (if 0 ≤ (wrap64 ((wrap64 ((wrap64 (1 + x8_8)) - 55)) + (wrap64 (t193)))) then (some (a0.extract ((wrap64 ((wrap64 (1 + x8_8)) - 55)) : Int).toNat ((wrap64 ((wrap64 ((wrap64 (1 + x8_8)) - 55)) + (wrap64 (t193)))) : Int).toNat, x7_8, a0.extract ((wrap64 ((wrap64 ((wrap64 (1 + x8_8)) - 55)) + (wrap64 (t193)))) : Int).toNat a0.size, 0)) else (none)) else (none)) else (none))) else (none)) else (none)) else (if 0 ≤ (wrap64 ((wrap64 (1 + x8_8)) - 55)) then (if (wrap64 ((wrap64 (1 + x8_8)) - 55)) ≤ (wrap64 ((wrap64 ((wrap64 (1 + x8_8)) - 55)) + (wrap64 (t193)))) then (if (wrap64 ((wrap64 ((wrap64 (1 + x8_8)) - 55)) + (wrap64 (t193)))) ≤ (a0.size : Int) then (if 0 ≤ (wrap64 ((wrap64 ((wrap64 (1 + x8_8)) - 55)) + (wrap64 (t193)))) then (some (a0.extract ((wrap64 ((wrap64 (1 + x8_8)) - 55)) : Int).toNat ((wrap64 ((wrap64 ((wrap64 (1 + x8_8)) - 55)) + (wrap64 (t193)))) : Int).toNat, x7_8, a0.extract ((wrap64 ((wrap64 ((wrap64 (1 + x8_8)) - 55)) + (wrap64 (t193)))) : Int).toNat a0.size, 0)) else (none)) else (none)) else (none)) else (none))))) = some (r1, r2, r3, r4) := by rw [if_neg (show ¬ (false = true) by decide)] at H; exact H
                          clear H
                          have H := H1
                          clear H1
                          by_cases c20 : (wrap64 ((a0.size : Int) - (wrap64 ((wrap64 (1 + x8_8)) - 55)))) < (wrap64 (t193))
                          · rw [if_pos c20] at H
                            have c20b0 : decide ((wrap64 ((a0.size : Int) - (wrap64 ((wrap64 (1 + x8_8)) - 55)))) < (wrap64 (t193))) = true := decide_eq_true c20
                            clear c20
                            simp only [Option.some.injEq, Prod.mk.injEq] at H
                            obtain ⟨rfl, rfl, rfl, rfl⟩ := H
                            go_wp2
                            repeat (go_quiet (fail); try go_wp2)
                            refine bodyPost_ret (results_list (rs := [.tmp 2, .tmp 3, .tmp 4, .tmp 5]) rfl (by simp) (.tmp (.tmp (.tmp (.tmp .nil))))) rfl ?_
                            exact ⟨by first | rfl | (simp; done) | (simp [*]; done), by repeat (first | exact Drawn0.refl _ | apply Drawn0.step)⟩
                          · rw [if_neg c20] at H
                            have c20b0 : decide ((wrap64 ((a0.size : Int) - (wrap64 ((wrap64 (1 + x8_8)) - 55)))) < (wrap64 (t193))) = false := decide_eq_false c20
                            clear c20
                            by_cases c21 : x7_8 = true
                            · subst c21
                              have H1 : (if 0 ≤ (wrap64 ((wrap64 (1 + x8_8)) - 55)) then (if (wrap64 ((wrap64 (1 + x8_8)) - 55)) ≤ (wrap64 ((wrap64 ((wrap64 (1 + x8_8)) - 55)) + (wrap64 (t193)))) then (if (wrap64 ((wrap64 ((wrap64 (1 + x8_8)) - 55)) + (wrap64 (t193)))) ≤ (a0.size : Int) then (if 0 ≤ (wrap64 ((wrap64 ((wrap64 (1 + x8_8)) - 55)) + (wrap64 (t193)))) then (some (a0.extract ((wrap64 ((wrap64 (1 + x8_8)) - 55)) : Int).toNat ((wrap64 ((wrap64 ((wrap64 (1 + x8_8)) - 55)) + (wrap64 (t193)))) : Int).toNat, true, a0.extract ((wrap64 ((wrap64 ((wrap64 (1 + x8_8)) - 55)) + (wrap64 (t193)))) : Int).toNat a0.size, 0)) else (none)) else (none)) else (none)) else (none)) = some (r1, r2, r3, r4) := by rw [if_pos rfl] at H; exact H
                              clear H
                              have H := H1
                              clear H1
                              obtain ⟨ji22, hji22⟩ : ∃ j_ : Int, (wrap64 ((wrap64 (1 + x8_8)) - 55)) = j_ := ⟨_, rfl⟩
                              replace H : (if 0 ≤ (ji22) then (if (ji22) ≤ (wrap64 ((ji22) + (wrap64 (t193)))) then (if (wrap64 ((ji22) + (wrap64 (t193)))) ≤ (a0.size : Int) then (if 0 ≤ (wrap64 ((ji22) + (wrap64 (t193)))) then (some (a0.extract ((ji22) : Int).toNat ((wrap64 ((ji22) + (wrap64 (t193)))) : Int).toNat, true, a0.extract ((wrap64 ((ji22) + (wrap64 (t193)))) : Int).toNat a0.size, 0)) else (none)) else (none)) else (none)) else (none)) = some (r1, r2, r3, r4) := by first | (rw [hji22] at H; exact H) | (simp only [hji22] at H ⊢; exact H)
                              (try rw [hji22] at c12b0)
                              (try rw [hji22] at c13b0)
                              (try rw [hji22] at c13b1)
                              (try rw [hji22] at c13)
                              (try rw [hji22] at c14b0)
                              (try rw [hji22] at c14b1)
                              (try rw [hji22] at c14)
                              (try rw [hji22] at c20b0)
                              have hji22w : (IntKind.i64.wrap ((wrap64 (1 + x8_8)) - 55)) = ji22 := (i64_w _).trans hji22
                              by_cases c23 : 0 ≤ (ji22)
                              · rw [if_pos c23] at H
                                have c23b0 := eq_true c23
                                have c23b1 : decide (0 ≤ (ji22)) = true := decide_eq_true c23
                                clear c23
                                by_cases c24 : (ji22) ≤ (wrap64 ((ji22) + (wrap64 (t193))))
                                · rw [if_pos c24] at H
                                  have c24b0 := eq_true c24
                                  have c24b1 : decide ((ji22) ≤ (wrap64 ((ji22) + (wrap64 (t193))))) = true := decide_eq_true c24
                                  by_cases c25 : (wrap64 ((ji22) + (wrap64 (t193)))) ≤ (a0.size : Int)
                                  · rw [if_pos c25] at H
                                    have c25b0 := eq_true c25
                                    have c25b1 : decide ((wrap64 ((ji22) + (wrap64 (t193)))) ≤ (a0.size : Int)) = true := decide_eq_true c25
                                    obtain ⟨ji26, hji26⟩ : ∃ j_ : Int, (wrap64 ((ji22) + (wrap64 (t193)))) = j_ := ⟨_, rfl⟩
                                    replace H : (if 0 ≤ (ji26) then (some (a0.extract ((ji22) : Int).toNat ((ji26) : Int).toNat, true, a0.extract ((ji26) : Int).toNat a0.size, 0)) else (none)) = some (r1, r2, r3, r4) := by first | (rw [hji26] at H; exact H) | (simp only [hji26] at H ⊢; exact H)
                                    (try rw [hji26] at c24b0)
                                    (try rw [hji26] at c24b1)
                                    (try rw [hji26] at c24)
                                    (try rw [hji26] at c25b0)
                                    (try rw [hji26] at c25b1)
                                    (try rw [hji26] at c25)
                                    have hji26w : (IntKind.i64.wrap ((ji22) + (wrap64 (t193)))) = ji26 := (i64_w _).trans hji26
                                    by_cases c27 : 0 ≤ (ji26)
                                    · rw [if_pos c27] at H
                                      have c27b0 := eq_true c27
                                      have c27b1 : decide (0 ≤ (ji26)) = true := decide_eq_true c27
                                      clear c27
                                      have c28b0 := eq_true (of_decide_eq_true (by first | (with_reducible assumption) | assumption) : (ji26) ≤ (a0.size : Int))
                                      simp only [Option.some.injEq, Prod.mk.injEq] at H
                                      obtain ⟨rfl, rfl, rfl, rfl⟩ := H
                                      go_wp2
                                      repeat (go_quiet (fail); try go_wp2)
                                      refine bodyPost_ret (results_list (rs := [.tmp 2, .tmp 3, .tmp 4, .tmp 5]) rfl (by simp) (.tmp (.tmp (.tmp (.tmp .nil))))) rfl ?_
                                      exact ⟨by first | rfl | (simp; done) | (simp only [← hji22, ← hji26] <;> (first | rfl | simp)) | (simp [*]; done), by repeat (first | exact Drawn0.refl _ | apply Drawn0.step)⟩
                                    · rw [if_neg c27] at H
                                      exact absurd H (by simp)
                                  · rw [if_neg c25] at H
                                    exact absurd H (by simp)
                                · rw [if_neg c24] at H
                                  exact absurd H (by simp)
                              · rw [if_neg c23] at H
                                exact absurd H (by simp)
                            · replace c21 := Bool.eq_false_iff.mpr c21
                              subst c21
                              have H1 : (if (wrap64 (t193)) = 1 then (if 0 ≤ (wrap64 ((wrap64 (1 + x8_8)) - 55)) then (if (wrap64 ((wrap64 (1 + x8_8)) - 55)) < (a0.size : Int) then (if (bt a0 (wrap64 ((wrap64 (1 + x8_8)) - 55))) < 128 then (some ((⟨#[]⟩ : ByteArray), false, (⟨#[]⟩ : ByteArray), 10)) else (if (wrap64 ((wrap64 (1 + x8_8)) - 55)) ≤ (wrap64 ((wrap64 ((wrap64 (1 + x8_8)) - 55)) + (wrap64 (t193)))) then (if (wrap64 ((wrap64 ((wrap64 (1 + x8_8)) - 55)) + (wrap64 (t193)))) ≤ (a0.size : Int) then (if 0 ≤ (wrap64 ((wrap64 ((wrap64 (1 + x8_8)) - 55)) + (wrap64 (t193)))) then (some (a0.extract ((wrap64 ((wrap64 (1 + x8_8)) - 55)) : Int).toNat ((wrap64 ((wrap64 ((wrap64 (1 + x8_8)) - 55)) + (wrap64 (t193)))) : Int).toNat, false, a0.extract ((wrap64 ((wrap64 ((wrap64 (1 + x8_8)) - 55)) + (wrap64 (t193)))) : Int).toNat a0.size, 0)) else (none)) else (none)) else (none))) else (none)) else (none)) else (if 0 ≤ (wrap64 ((wrap64 (1 + x8_8)) - 55)) then (if (wrap64 ((wrap64 (1 + x8_8)) - 55)) ≤ (wrap64 ((wrap64 ((wrap64 (1 + x8_8)) - 55)) + (wrap64 (t193)))) then (if (wrap64 ((wrap64 ((wrap64 (1 + x8_8)) - 55)) + (wrap64 (t193)))) ≤ (a0.size : Int) then (if 0 ≤ (wrap64 ((wrap64 ((wrap64 (1 + x8_8)) - 55)) + (wrap64 (t193)))) then (some (a0.extract ((wrap64 ((wrap64 (1 + x8_8)) - 55)) : Int).toNat ((wrap64 ((wrap64 ((wrap64 (1 + x8_8)) - 55)) + (wrap64 (t193)))) : Int).toNat, false, a0.extract ((wrap64 ((wrap64 ((wrap64 (1 + x8_8)) - 55)) + (wrap64 (t193)))) : Int).toNat a0.size, 0)) else (none)) else (none)) else (none)) else (none))) = some (r1, r2, r3, r4) := by rw [if_neg (show ¬ (false = true) by decide)] at H; exact H
                              clear H
                              have H := H1
                              clear H1
                              by_cases c29 : (wrap64 (t193)) = 1
                              · rw [if_pos c29] at H
                                have c29b0 : ((wrap64 (t193)) == 1) = true := beq_iff_eq.mpr c29
                                have c29b1 : ((wrap64 (t193)) != 1) = false := bne_eq_false_iff_eq.mpr c29
                                clear c29
                                obtain ⟨ji30, hji30⟩ : ∃ j_ : Int, (wrap64 ((wrap64 (1 + x8_8)) - 55)) = j_ := ⟨_, rfl⟩
                                replace H : (if 0 ≤ (ji30) then (if (ji30) < (a0.size : Int) then (if (bt a0 (ji30)) < 128 then (some ((⟨#[]⟩ : ByteArray), false, (⟨#[]⟩ : ByteArray), 10)) else (if (ji30) ≤ (wrap64 ((ji30) + (wrap64 (t193)))) then (if (wrap64 ((ji30) + (wrap64 (t193)))) ≤ (a0.size : Int) then (if 0 ≤ (wrap64 ((ji30) + (wrap64 (t193)))) then (some (a0.extract ((ji30) : Int).toNat ((wrap64 ((ji30) + (wrap64 (t193)))) : Int).toNat, false, a0.extract ((wrap64 ((ji30) + (wrap64 (t193)))) : Int).toNat a0.size, 0)) else (none)) else (none)) else (none))) else (none)) else (none)) = some (r1, r2, r3, r4) := by first | (rw [hji30] at H; exact H) | (simp only [hji30] at H ⊢; exact H)
                                (try rw [hji30] at c12b0)
                                (try rw [hji30] at c13b0)
                                (try rw [hji30] at c13b1)
                                (try rw [hji30] at c13)
                                (try rw [hji30] at c14b0)
                                (try rw [hji30] at c14b1)
                                (try rw [hji30] at c14)
                                (try rw [hji30] at c20b0)
                                have hji30w : (IntKind.i64.wrap ((wrap64 (1 + x8_8)) - 55)) = ji30 := (i64_w _).trans hji30
                                by_cases c31 : 0 ≤ (ji30)
                                · rw [if_pos c31] at H
                                  have c31b0 : decide (0 ≤ (ji30)) = true := decide_eq_true c31
                                  clear c31
                                  by_cases c32 : (ji30) < (a0.size : Int)
                                  · rw [if_pos c32] at H
                                    have c32b0 : decide ((ji30) < (a0.size : Int)) = true := decide_eq_true c32
                                    clear c32
                                    by_cases c34 : (bt a0 (ji30)) < 128
                                    · rw [if_pos c34] at H
                                      have c34b0 : decide ((bt a0 (ji30)) < 128) = true := decide_eq_true c34
                                      clear c34
                                      simp only [Option.some.injEq, Prod.mk.injEq] at H
                                      obtain ⟨rfl, rfl, rfl, rfl⟩ := H
                                      have p33 : 0 ≤ ((ji30) : Int) := of_decide_eq_true (by first | (with_reducible assumption) | assumption)
                                      have q33 : (ji30) < (a0.size : Int) := of_decide_eq_true (by first | (with_reducible assumption) | assumption)
                                      have hx33 := bt_at a0 (ji30)
                                      replace p33 := eq_true p33
                                      replace q33 := eq_true q33
                                      go_wp2
                                      repeat (go_quiet (fail); try go_wp2)
                                      refine bodyPost_ret (results_list (rs := [.tmp 2, .tmp 3, .tmp 4, .tmp 5]) rfl (by simp) (.tmp (.tmp (.tmp (.tmp .nil))))) rfl ?_
                                      exact ⟨by first | rfl | (simp; done) | (simp only [← hji30] <;> (first | rfl | simp)) | (simp [*]; done), by repeat (first | exact Drawn0.refl _ | apply Drawn0.step)⟩
                                    · rw [if_neg c34] at H
                                      have c34b0 : decide ((bt a0 (ji30)) < 128) = false := decide_eq_false c34
                                      clear c34
                                      have c35b0 := eq_true (of_decide_eq_true (by first | (with_reducible assumption) | assumption) : 0 ≤ (ji30))
                                      by_cases c36 : (ji30) ≤ (wrap64 ((ji30) + (wrap64 (t193))))
                                      · rw [if_pos c36] at H
                                        have c36b0 := eq_true c36
                                        have c36b1 : decide ((ji30) ≤ (wrap64 ((ji30) + (wrap64 (t193))))) = true := decide_eq_true c36
                                        by_cases c37 : (wrap64 ((ji30) + (wrap64 (t193)))) ≤ (a0.size : Int)
                                        · rw [if_pos c37] at H
                                          have c37b0 := eq_true c37
                                          have c37b1 : decide ((wrap64 ((ji30) + (wrap64 (t193)))) ≤ (a0.size : Int)) = true := decide_eq_true c37
                                          obtain ⟨ji38, hji38⟩ : ∃ j_ : Int, (wrap64 ((ji30) + (wrap64 (t193)))) = j_ := ⟨_, rfl⟩
                                          replace H : (if 0 ≤ (ji38) then (some (a0.extract ((ji30) : Int).toNat ((ji38) : Int).toNat, false, a0.extract ((ji38) : Int).toNat a0.size, 0)) else (none)) = some (r1, r2, r3, r4) := by first | (rw [hji38] at H; exact H) | (simp only [hji38] at H ⊢; exact H)
                                          (try rw [hji38] at c36b0)
                                          (try rw [hji38] at c36b1)
                                          (try rw [hji38] at c36)
                                          (try rw [hji38] at c37b0)
                                          (try rw [hji38] at c37b1)
                                          (try rw [hji38] at c37)
                                          have hji38w : (IntKind.i64.wrap ((ji30) + (wrap64 (t193)))) = ji38 := (i64_w _).trans hji38
                                          by_cases c39 : 0 ≤ (ji38)
                                          · rw [if_pos c39] at H
                                            have c39b0 := eq_true c39
                                            have c39b1 : decide (0 ≤ (ji38)) = true := decide_eq_true c39
                                            clear c39
                                            have c40b0 := eq_true (of_decide_eq_true (by first | (with_reducible assumption) | assumption) : (ji38) ≤ (a0.size : Int))
                                            simp only [Option.some.injEq, Prod.mk.injEq] at H
                                            obtain ⟨rfl, rfl, rfl, rfl⟩ := H
                                            have p33 : 0 ≤ ((ji30) : Int) := of_decide_eq_true (by first | (with_reducible assumption) | assumption)
                                            have q33 : (ji30) < (a0.size : Int) := of_decide_eq_true (by first | (with_reducible assumption) | assumption)
                                            have hx33 := bt_at a0 (ji30)
                                            replace p33 := eq_true p33
                                            replace q33 := eq_true q33
                                            go_wp2
                                            repeat (go_quiet (fail); try go_wp2)
                                            refine bodyPost_ret (results_list (rs := [.tmp 2, .tmp 3, .tmp 4, .tmp 5]) rfl (by simp) (.tmp (.tmp (.tmp (.tmp .nil))))) rfl ?_
                                            exact ⟨by first | rfl | (simp; done) | (simp only [← hji30, ← hji38] <;> (first | rfl | simp)) | (simp [*]; done), by repeat (first | exact Drawn0.refl _ | apply Drawn0.step)⟩
                                          · rw [if_neg c39] at H
                                            exact absurd H (by simp)
                                        · rw [if_neg c37] at H
                                          exact absurd H (by simp)
                                      · rw [if_neg c36] at H
                                        exact absurd H (by simp)
                                  · rw [if_neg c32] at H
                                    exact absurd H (by simp)
                                · rw [if_neg c31] at H
                                  exact absurd H (by simp)
                              · rw [if_neg c29] at H
                                have c29b0 : ((wrap64 (t193)) == 1) = false := beq_eq_false_iff_ne.mpr c29
                                have c29b1 : ((wrap64 (t193)) != 1) = true := bne_iff_ne.mpr c29
                                obtain ⟨ji41, hji41⟩ : ∃ j_ : Int, (wrap64 ((wrap64 (1 + x8_8)) - 55)) = j_ := ⟨_, rfl⟩
                                replace H : (if 0 ≤ (ji41) then (if (ji41) ≤ (wrap64 ((ji41) + (wrap64 (t193)))) then (if (wrap64 ((ji41) + (wrap64 (t193)))) ≤ (a0.size : Int) then (if 0 ≤ (wrap64 ((ji41) + (wrap64 (t193)))) then (some (a0.extract ((ji41) : Int).toNat ((wrap64 ((ji41) + (wrap64 (t193)))) : Int).toNat, false, a0.extract ((wrap64 ((ji41) + (wrap64 (t193)))) : Int).toNat a0.size, 0)) else (none)) else (none)) else (none)) else (none)) = some (r1, r2, r3, r4) := by first | (rw [hji41] at H; exact H) | (simp only [hji41] at H ⊢; exact H)
                                (try rw [hji41] at c12b0)
                                (try rw [hji41] at c13b0)
                                (try rw [hji41] at c13b1)
                                (try rw [hji41] at c13)
                                (try rw [hji41] at c14b0)
                                (try rw [hji41] at c14b1)
                                (try rw [hji41] at c14)
                                (try rw [hji41] at c20b0)
                                have hji41w : (IntKind.i64.wrap ((wrap64 (1 + x8_8)) - 55)) = ji41 := (i64_w _).trans hji41
                                by_cases c42 : 0 ≤ (ji41)
                                · rw [if_pos c42] at H
                                  have c42b0 := eq_true c42
                                  have c42b1 : decide (0 ≤ (ji41)) = true := decide_eq_true c42
                                  clear c42
                                  by_cases c43 : (ji41) ≤ (wrap64 ((ji41) + (wrap64 (t193))))
                                  · rw [if_pos c43] at H
                                    have c43b0 := eq_true c43
                                    have c43b1 : decide ((ji41) ≤ (wrap64 ((ji41) + (wrap64 (t193))))) = true := decide_eq_true c43
                                    by_cases c44 : (wrap64 ((ji41) + (wrap64 (t193)))) ≤ (a0.size : Int)
                                    · rw [if_pos c44] at H
                                      have c44b0 := eq_true c44
                                      have c44b1 : decide ((wrap64 ((ji41) + (wrap64 (t193)))) ≤ (a0.size : Int)) = true := decide_eq_true c44
                                      obtain ⟨ji45, hji45⟩ : ∃ j_ : Int, (wrap64 ((ji41) + (wrap64 (t193)))) = j_ := ⟨_, rfl⟩
                                      replace H : (if 0 ≤ (ji45) then (some (a0.extract ((ji41) : Int).toNat ((ji45) : Int).toNat, false, a0.extract ((ji45) : Int).toNat a0.size, 0)) else (none)) = some (r1, r2, r3, r4) := by first | (rw [hji45] at H; exact H) | (simp only [hji45] at H ⊢; exact H)
                                      (try rw [hji45] at c43b0)
                                      (try rw [hji45] at c43b1)
                                      (try rw [hji45] at c43)
                                      (try rw [hji45] at c44b0)
                                      (try rw [hji45] at c44b1)
                                      (try rw [hji45] at c44)
                                      have hji45w : (IntKind.i64.wrap ((ji41) + (wrap64 (t193)))) = ji45 := (i64_w _).trans hji45
                                      by_cases c46 : 0 ≤ (ji45)
                                      · rw [if_pos c46] at H
                                        have c46b0 := eq_true c46
                                        have c46b1 : decide (0 ≤ (ji45)) = true := decide_eq_true c46
                                        clear c46
                                        have c47b0 := eq_true (of_decide_eq_true (by first | (with_reducible assumption) | assumption) : (ji45) ≤ (a0.size : Int))
                                        simp only [Option.some.injEq, Prod.mk.injEq] at H
                                        obtain ⟨rfl, rfl, rfl, rfl⟩ := H
                                        go_wp2
                                        repeat (go_quiet (fail); try go_wp2)
                                        refine bodyPost_ret (results_list (rs := [.tmp 2, .tmp 3, .tmp 4, .tmp 5]) rfl (by simp) (.tmp (.tmp (.tmp (.tmp .nil))))) rfl ?_
                                        exact ⟨by first | rfl | (simp; done) | (simp only [← hji41, ← hji45] <;> (first | rfl | simp)) | (simp [*]; done), by repeat (first | exact Drawn0.refl _ | apply Drawn0.step)⟩
                                      · rw [if_neg c46] at H
                                        exact absurd H (by simp)
                                    · rw [if_neg c44] at H
                                      exact absurd H (by simp)
                                  · rw [if_neg c43] at H
                                    exact absurd H (by simp)
                                · rw [if_neg c42] at H
                                  exact absurd H (by simp)
                  · rw [if_neg c14] at H
                    exact absurd H (by simp)
                · rw [if_neg c13] at H
                  exact absurd H (by simp)
            · rw [if_neg c11] at H
              have c11b0 : decide (55 < x8_8) = false := decide_eq_false c11
              clear c11
              by_cases c48 : (wrap64 ((a0.size : Int) - 1)) < x8_8
              · rw [if_pos c48] at H
                have c48b0 : decide ((wrap64 ((a0.size : Int) - 1)) < x8_8) = true := decide_eq_true c48
                clear c48
                simp only [Option.some.injEq, Prod.mk.injEq] at H
                obtain ⟨rfl, rfl, rfl, rfl⟩ := H
                go_wp2
                repeat (go_quiet (fail); try go_wp2)
                refine bodyPost_ret (results_list (rs := [.tmp 2, .tmp 3, .tmp 4, .tmp 5]) rfl (by simp) (.tmp (.tmp (.tmp (.tmp .nil))))) rfl ?_
                exact ⟨by first | rfl | (simp; done) | (simp [*]; done), by repeat (first | exact Drawn0.refl _ | apply Drawn0.step)⟩
              · rw [if_neg c48] at H
                have c48b0 : decide ((wrap64 ((a0.size : Int) - 1)) < x8_8) = false := decide_eq_false c48
                clear c48
                by_cases c49 : x7_8 = true
                · subst c49
                  have H1 : (if 1 ≤ (wrap64 (1 + x8_8)) then (if (wrap64 (1 + x8_8)) ≤ (a0.size : Int) then (if 0 ≤ (wrap64 (1 + x8_8)) then (some (a0.extract 1 ((wrap64 (1 + x8_8)) : Int).toNat, true, a0.extract ((wrap64 (1 + x8_8)) : Int).toNat a0.size, 0)) else (none)) else (none)) else (none)) = some (r1, r2, r3, r4) := by rw [if_pos rfl] at H; exact H
                  clear H
                  have H := H1
                  clear H1
                  by_cases c50 : 1 ≤ (wrap64 (1 + x8_8))
                  · rw [if_pos c50] at H
                    have c50b0 := eq_true c50
                    have c50b1 : decide (1 ≤ (wrap64 (1 + x8_8))) = true := decide_eq_true c50
                    by_cases c51 : (wrap64 (1 + x8_8)) ≤ (a0.size : Int)
                    · rw [if_pos c51] at H
                      have c51b0 := eq_true c51
                      have c51b1 : decide ((wrap64 (1 + x8_8)) ≤ (a0.size : Int)) = true := decide_eq_true c51
                      obtain ⟨ji52, hji52⟩ : ∃ j_ : Int, (wrap64 (1 + x8_8)) = j_ := ⟨_, rfl⟩
                      replace H : (if 0 ≤ (ji52) then (some (a0.extract 1 ((ji52) : Int).toNat, true, a0.extract ((ji52) : Int).toNat a0.size, 0)) else (none)) = some (r1, r2, r3, r4) := by first | (rw [hji52] at H; exact H) | (simp only [hji52] at H ⊢; exact H)
                      (try rw [hji52] at c50b0)
                      (try rw [hji52] at c50b1)
                      (try rw [hji52] at c50)
                      (try rw [hji52] at c51b0)
                      (try rw [hji52] at c51b1)
                      (try rw [hji52] at c51)
                      have hji52w : (IntKind.i64.wrap (1 + x8_8)) = ji52 := (i64_w _).trans hji52
                      by_cases c53 : 0 ≤ (ji52)
                      · rw [if_pos c53] at H
                        have c53b0 := eq_true c53
                        have c53b1 : decide (0 ≤ (ji52)) = true := decide_eq_true c53
                        clear c53
                        have c54b0 := eq_true (of_decide_eq_true (by first | (with_reducible assumption) | assumption) : (ji52) ≤ (a0.size : Int))
                        simp only [Option.some.injEq, Prod.mk.injEq] at H
                        obtain ⟨rfl, rfl, rfl, rfl⟩ := H
                        go_wp2
                        repeat (go_quiet (fail); try go_wp2)
                        refine bodyPost_ret (results_list (rs := [.tmp 2, .tmp 3, .tmp 4, .tmp 5]) rfl (by simp) (.tmp (.tmp (.tmp (.tmp .nil))))) rfl ?_
                        exact ⟨by first | rfl | (simp; done) | (simp only [← hji52] <;> (first | rfl | simp)) | (simp [*]; done), by repeat (first | exact Drawn0.refl _ | apply Drawn0.step)⟩
                      · rw [if_neg c53] at H
                        exact absurd H (by simp)
                    · rw [if_neg c51] at H
                      exact absurd H (by simp)
                  · rw [if_neg c50] at H
                    exact absurd H (by simp)
                · replace c49 := Bool.eq_false_iff.mpr c49
                  subst c49
                  have H1 : (if x8_8 = 1 then (if 1 < (a0.size : Int) then (if (bt a0 1) < 128 then (some ((⟨#[]⟩ : ByteArray), false, (⟨#[]⟩ : ByteArray), 10)) else (if 1 ≤ (wrap64 (1 + x8_8)) then (if (wrap64 (1 + x8_8)) ≤ (a0.size : Int) then (if 0 ≤ (wrap64 (1 + x8_8)) then (some (a0.extract 1 ((wrap64 (1 + x8_8)) : Int).toNat, false, a0.extract ((wrap64 (1 + x8_8)) : Int).toNat a0.size, 0)) else (none)) else (none)) else (none))) else (none)) else (if 1 ≤ (wrap64 (1 + x8_8)) then (if (wrap64 (1 + x8_8)) ≤ (a0.size : Int) then (if 0 ≤ (wrap64 (1 + x8_8)) then (some (a0.extract 1 ((wrap64 (1 + x8_8)) : Int).toNat, false, a0.extract ((wrap64 (1 + x8_8)) : Int).toNat a0.size, 0)) else (none)) else (none)) else (none))) = some (r1, r2, r3, r4) := by rw [if_neg (show ¬ (false = true) by decide)] at H; exact H
                  clear H
                  have H := H1
                  clear H1
                  by_cases c55 : x8_8 = 1
                  · rw [if_pos c55] at H
                    have c55b0 : (x8_8 == 1) = true := beq_iff_eq.mpr c55
                    have c55b1 : (x8_8 != 1) = false := bne_eq_false_iff_eq.mpr c55
                    clear c55
                    by_cases c56 : 1 < (a0.size : Int)
                    · rw [if_pos c56] at H
                      have c56b0 : decide (1 < (a0.size : Int)) = true := decide_eq_true c56
                      have c56b1 : decide (1 < a0.size) = true := decide_eq_true (by omega)
                      clear c56
                      by_cases c58 : (bt a0 1) < 128
                      · rw [if_pos c58] at H
                        have c58b0 : decide ((bt a0 1) < 128) = true := decide_eq_true c58
                        clear c58
                        simp only [Option.some.injEq, Prod.mk.injEq] at H
                        obtain ⟨rfl, rfl, rfl, rfl⟩ := H
                        have p57 : 0 ≤ (1 : Int) := (by omega)
                        have q57 : 1 < a0.size := (by have : (1 : Int) < (a0.size : Int) := of_decide_eq_true (by first | (with_reducible assumption) | assumption); omega)
                        have hx57 : ∀ h : 1 < a0.size, ((a0[1]'h).toNat : Int) = bt a0 1 := bt_at a0 1
                        clear p57
                        have qi57 : (1 < (a0.size : Int)) = True := eq_true (of_decide_eq_true (by first | (with_reducible assumption) | assumption))
                        replace q57 := eq_true q57
                        go_wp2
                        repeat (go_quiet (fail); try go_wp2)
                        refine bodyPost_ret (results_list (rs := [.tmp 2, .tmp 3, .tmp 4, .tmp 5]) rfl (by simp) (.tmp (.tmp (.tmp (.tmp .nil))))) rfl ?_
                        exact ⟨by first | rfl | (simp; done) | (simp [*]; done), by repeat (first | exact Drawn0.refl _ | apply Drawn0.step)⟩
                      · rw [if_neg c58] at H
                        have c58b0 : decide ((bt a0 1) < 128) = false := decide_eq_false c58
                        clear c58
                        by_cases c59 : 1 ≤ (wrap64 (1 + x8_8))
                        · rw [if_pos c59] at H
                          have c59b0 := eq_true c59
                          have c59b1 : decide (1 ≤ (wrap64 (1 + x8_8))) = true := decide_eq_true c59
                          by_cases c60 : (wrap64 (1 + x8_8)) ≤ (a0.size : Int)
                          · rw [if_pos c60] at H
                            have c60b0 := eq_true c60
                            have c60b1 : decide ((wrap64 (1 + x8_8)) ≤ (a0.size : Int)) = true := decide_eq_true c60
                            obtain ⟨ji61, hji61⟩ : ∃ j_ : Int, (wrap64 (1 + x8_8)) = j_ := ⟨_, rfl⟩
                            replace H : (if 0 ≤ (ji61) then (some (a0.extract 1 ((ji61) : Int).toNat, false, a0.extract ((ji61) : Int).toNat a0.size, 0)) else (none)) = some (r1, r2, r3, r4) := by first | (rw [hji61] at H; exact H) | (simp only [hji61] at H ⊢; exact H)
                            (try rw [hji61] at c59b0)
                            (try rw [hji61] at c59b1)
                            (try rw [hji61] at c59)
                            (try rw [hji61] at c60b0)
                            (try rw [hji61] at c60b1)
                            (try rw [hji61] at c60)
                            have hji61w : (IntKind.i64.wrap (1 + x8_8)) = ji61 := (i64_w _).trans hji61
                            by_cases c62 : 0 ≤ (ji61)
                            · rw [if_pos c62] at H
                              have c62b0 := eq_true c62
                              have c62b1 : decide (0 ≤ (ji61)) = true := decide_eq_true c62
                              clear c62
                              have c63b0 := eq_true (of_decide_eq_true (by first | (with_reducible assumption) | assumption) : (ji61) ≤ (a0.size : Int))
                              simp only [Option.some.injEq, Prod.mk.injEq] at H
                              obtain ⟨rfl, rfl, rfl, rfl⟩ := H
                              have p57 : 0 ≤ (1 : Int) := (by omega)
                              have q57 : 1 < a0.size := (by have : (1 : Int) < (a0.size : Int) := of_decide_eq_true (by first | (with_reducible assumption) | assumption); omega)
                              have hx57 : ∀ h : 1 < a0.size, ((a0[1]'h).toNat : Int) = bt a0 1 := bt_at a0 1
                              clear p57
                              have qi57 : (1 < (a0.size : Int)) = True := eq_true (of_decide_eq_true (by first | (with_reducible assumption) | assumption))
                              replace q57 := eq_true q57
                              go_wp2
                              repeat (go_quiet (fail); try go_wp2)
                              refine bodyPost_ret (results_list (rs := [.tmp 2, .tmp 3, .tmp 4, .tmp 5]) rfl (by simp) (.tmp (.tmp (.tmp (.tmp .nil))))) rfl ?_
                              exact ⟨by first | rfl | (simp; done) | (simp only [← hji61] <;> (first | rfl | simp)) | (simp [*]; done), by repeat (first | exact Drawn0.refl _ | apply Drawn0.step)⟩
                            · rw [if_neg c62] at H
                              exact absurd H (by simp)
                          · rw [if_neg c60] at H
                            exact absurd H (by simp)
                        · rw [if_neg c59] at H
                          exact absurd H (by simp)
                    · rw [if_neg c56] at H
                      exact absurd H (by simp)
                  · rw [if_neg c55] at H
                    have c55b0 : (x8_8 == 1) = false := beq_eq_false_iff_ne.mpr c55
                    have c55b1 : (x8_8 != 1) = true := bne_iff_ne.mpr c55
                    by_cases c64 : 1 ≤ (wrap64 (1 + x8_8))
                    · rw [if_pos c64] at H
                      have c64b0 := eq_true c64
                      have c64b1 : decide (1 ≤ (wrap64 (1 + x8_8))) = true := decide_eq_true c64
                      by_cases c65 : (wrap64 (1 + x8_8)) ≤ (a0.size : Int)
                      · rw [if_pos c65] at H
                        have c65b0 := eq_true c65
                        have c65b1 : decide ((wrap64 (1 + x8_8)) ≤ (a0.size : Int)) = true := decide_eq_true c65
                        obtain ⟨ji66, hji66⟩ : ∃ j_ : Int, (wrap64 (1 + x8_8)) = j_ := ⟨_, rfl⟩
                        replace H : (if 0 ≤ (ji66) then (some (a0.extract 1 ((ji66) : Int).toNat, false, a0.extract ((ji66) : Int).toNat a0.size, 0)) else (none)) = some (r1, r2, r3, r4) := by first | (rw [hji66] at H; exact H) | (simp only [hji66] at H ⊢; exact H)
                        (try rw [hji66] at c64b0)
                        (try rw [hji66] at c64b1)
                        (try rw [hji66] at c64)
                        (try rw [hji66] at c65b0)
                        (try rw [hji66] at c65b1)
                        (try rw [hji66] at c65)
                        have hji66w : (IntKind.i64.wrap (1 + x8_8)) = ji66 := (i64_w _).trans hji66
                        by_cases c67 : 0 ≤ (ji66)
                        · rw [if_pos c67] at H
                          have c67b0 := eq_true c67
                          have c67b1 : decide (0 ≤ (ji66)) = true := decide_eq_true c67
                          clear c67
                          have c68b0 := eq_true (of_decide_eq_true (by first | (with_reducible assumption) | assumption) : (ji66) ≤ (a0.size : Int))
                          simp only [Option.some.injEq, Prod.mk.injEq] at H
                          obtain ⟨rfl, rfl, rfl, rfl⟩ := H
                          go_wp2
                          repeat (go_quiet (fail); try go_wp2)
                          refine bodyPost_ret (results_list (rs := [.tmp 2, .tmp 3, .tmp 4, .tmp 5]) rfl (by simp) (.tmp (.tmp (.tmp (.tmp .nil))))) rfl ?_
                          exact ⟨by first | rfl | (simp; done) | (simp only [← hji66] <;> (first | rfl | simp)) | (simp [*]; done), by repeat (first | exact Drawn0.refl _ | apply Drawn0.step)⟩
                        · rw [if_neg c67] at H
                          exact absurd H (by simp)
                      · rw [if_neg c65] at H
                        exact absurd H (by simp)
                    · rw [if_neg c64] at H
                      exact absurd H (by simp)
    · rw [if_neg c3] at H
      exact absurd H (by simp)

end Go.Proofs.Ytkkammncpkgodaa.P
