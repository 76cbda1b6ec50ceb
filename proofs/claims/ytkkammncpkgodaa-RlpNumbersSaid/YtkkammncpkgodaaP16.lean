/- What Go functions of the program come to: a Lean function and its contract for each. Written by a program of this session over the kit's printer, some contracts by hand. -/
import Derived.Test.YtkkammncpkgodaaP0
import Derived.Test.YtkkammncpkgodaaP1
import Derived.Test.YtkkammncpkgodaaP5
import Derived.Test.YtkkammncpkgodaaP8
import Derived.Test.YtkkammncpkgodaaP15
namespace Go.Proofs.Ytkkammncpkgodaa.P
open Go.RowKit Go.Proofs.YtkkammncpkgodaaW.PrintWords Go.Proofs.YtkkammncpkgodaaW.PrintLast Go.Proofs.YtkkammncpkgodaaW.PrintMore
attribute [local go_sem] max2_int min2_int max_two min_two max_three min_three max_four min_four   -- for this text's walks alone
set_option linter.unusedVariables false
set_option linter.unusedSimpArgs false

/-! ### loesslaw02_RlpNumbers: function 4 -/
def loesslaw02_RlpNumbers.f (k : Nat) (a0 : Int) (a1 : Int) (a2 : ByteArray) : Option (Bool) := (loesslaw02_awake.f).bind fun t178 => ((rlp_Number.f k a0).bind fun t179 => ((rlp_Uint.f k t179).bind fun bt180 => ((rlp_Uint.f k a2).bind fun bt182 => ((loessref02_Uint.f k a2).bind fun bt184 => (if t178 = true then ((rlp_Number.f k a0).bind fun t186 => ((loessref02_Number.f k a0).bind fun t187 => (if t186.toList = t187.toList then (if bt180.1 = a0 then (if bt180.2 = true then (if bt182.1 = bt184.1 then (if (bt182.2 == bt184.2) = true then (if bt182.2 = true then ((rlp_Number.f k bt182.1).bind fun t188 => (if t188.toList = a2.toList then (if a0 < a1 then (some true) else ((rlp_Number.f k a0).bind fun t189 => ((rlp_Number.f k a1).bind fun t190 => (some (decide ((t189.size : Int) ≥ (t190.size : Int))))))) else (none))) else (if a0 < a1 then (some true) else ((rlp_Number.f k a0).bind fun t191 => ((rlp_Number.f k a1).bind fun t192 => (some (decide ((t191.size : Int) ≥ (t192.size : Int)))))))) else (none)) else (none)) else (none)) else (none)) else (none)))) else (none))))))
theorem loesslaw02_RlpNumbers.mono : ∀ a0 a1 a2 k, LeO (loesslaw02_RlpNumbers.f k a0 a1 a2) (loesslaw02_RlpNumbers.f (k + 1) a0 a1 a2) := by
  intro a0 a1 a2 k
  unfold loesslaw02_RlpNumbers.f
  repeat' first
      | (with_reducible exact loessref02_Number.mono _ _)
      | (with_reducible exact loessref02_Uint.mono _ _)
      | (with_reducible exact rlp_Number.mono _ _)
      | (with_reducible exact rlp_Uint.mono _ _)
      | (with_reducible exact LeO.refl _)
      | (with_reducible exact LeO.none _)
      | (with_reducible refine LeO.ite ?_ ?_)
      | (with_reducible refine LeO.bind ?_ (fun _ => ?_))
      | exact loessref02_Number.mono _ _
      | exact loessref02_Uint.mono _ _
      | exact rlp_Number.mono _ _
      | exact rlp_Uint.mono _ _
      | exact LeO.none _
      | refine LeO.ite ?_ ?_
      | refine LeO.bind ?_ (fun _ => ?_)
set_option maxHeartbeats 8000000 in
set_option maxRecDepth 100000 in
theorem loesslaw02_RlpNumbers.calls (k : Nat) (a0 : Int) (a1 : Int) (a2 : ByteArray) (r : Bool) (w : World) (h : loesslaw02_RlpNumbers.f k a0 a1 a2 = some r) :
    Calls Try.prog 4 #[.int .u64 a0, .int .u64 a1, .string a2] w fun e w' => e = .returned (.bool r) ∧ Below w.heap.size w w' := by
  have HB := Aside0.mk (Below.refl w.heap.size w)
  have H : ((loesslaw02_awake.f).bind fun t178 => ((rlp_Number.f k a0).bind fun t179 => ((rlp_Uint.f k t179).bind fun bt180 => ((rlp_Uint.f k a2).bind fun bt182 => ((loessref02_Uint.f k a2).bind fun bt184 => (if t178 = true then ((rlp_Number.f k a0).bind fun t186 => ((loessref02_Number.f k a0).bind fun t187 => (if t186.toList = t187.toList then (if bt180.1 = a0 then (if bt180.2 = true then (if bt182.1 = bt184.1 then (if (bt182.2 == bt184.2) = true then (if bt182.2 = true then ((rlp_Number.f k bt182.1).bind fun t188 => (if t188.toList = a2.toList then (if a0 < a1 then (some true) else ((rlp_Number.f k a0).bind fun t189 => ((rlp_Number.f k a1).bind fun t190 => (some (decide ((t189.size : Int) ≥ (t190.size : Int))))))) else (none))) else (if a0 < a1 then (some true) else ((rlp_Number.f k a0).bind fun t191 => ((rlp_Number.f k a1).bind fun t192 => (some (decide ((t191.size : Int) ≥ (t192.size : Int)))))))) else (none)) else (none)) else (none)) else (none)) else (none)))) else (none))))))) = some r := h
  clear h
  replace H := Option.bind_eq_some_iff.mp H
  obtain ⟨t178, A40, H⟩ := H
  replace H : ((rlp_Number.f k a0).bind fun t179 => ((rlp_Uint.f k t179).bind fun bt180 => ((rlp_Uint.f k a2).bind fun bt182 => ((loessref02_Uint.f k a2).bind fun bt184 => (if t178 = true then ((rlp_Number.f k a0).bind fun t186 => ((loessref02_Number.f k a0).bind fun t187 => (if t186.toList = t187.toList then (if bt180.1 = a0 then (if bt180.2 = true then (if bt182.1 = bt184.1 then (if (bt182.2 == bt184.2) = true then (if bt182.2 = true then ((rlp_Number.f k bt182.1).bind fun t188 => (if t188.toList = a2.toList then (if a0 < a1 then (some true) else ((rlp_Number.f k a0).bind fun t189 => ((rlp_Number.f k a1).bind fun t190 => (some (decide ((t189.size : Int) ≥ (t190.size : Int))))))) else (none))) else (if a0 < a1 then (some true) else ((rlp_Number.f k a0).bind fun t191 => ((rlp_Number.f k a1).bind fun t192 => (some (decide ((t191.size : Int) ≥ (t192.size : Int)))))))) else (none)) else (none)) else (none)) else (none)) else (none)))) else (none)))))) = some r := H
  have A4 := Aside0.mk A40
  clear A40
  replace H := Option.bind_eq_some_iff.mp H
  obtain ⟨t179, A50, H⟩ := H
  replace H : ((rlp_Uint.f k t179).bind fun bt180 => ((rlp_Uint.f k a2).bind fun bt182 => ((loessref02_Uint.f k a2).bind fun bt184 => (if t178 = true then ((rlp_Number.f k a0).bind fun t186 => ((loessref02_Number.f k a0).bind fun t187 => (if t186.toList = t187.toList then (if bt180.1 = a0 then (if bt180.2 = true then (if bt182.1 = bt184.1 then (if (bt182.2 == bt184.2) = true then (if bt182.2 = true then ((rlp_Number.f k bt182.1).bind fun t188 => (if t188.toList = a2.toList then (if a0 < a1 then (some true) else ((rlp_Number.f k a0).bind fun t189 => ((rlp_Number.f k a1).bind fun t190 => (some (decide ((t189.size : Int) ≥ (t190.size : Int))))))) else (none))) else (if a0 < a1 then (some true) else ((rlp_Number.f k a0).bind fun t191 => ((rlp_Number.f k a1).bind fun t192 => (some (decide ((t191.size : Int) ≥ (t192.size : Int)))))))) else (none)) else (none)) else (none)) else (none)) else (none)))) else (none))))) = some r := H
  have A5 := Aside0.mk A50
  clear A50
  replace H := Option.bind_eq_some_iff.mp H
  obtain ⟨⟨t180, t181⟩, A60, H⟩ := H
  replace H : ((rlp_Uint.f k a2).bind fun bt182 => ((loessref02_Uint.f k a2).bind fun bt184 => (if t178 = true then ((rlp_Number.f k a0).bind fun t186 => ((loessref02_Number.f k a0).bind fun t187 => (if t186.toList = t187.toList then (if t180 = a0 then (if t181 = true then (if bt182.1 = bt184.1 then (if (bt182.2 == bt184.2) = true then (if bt182.2 = true then ((rlp_Number.f k bt182.1).bind fun t188 => (if t188.toList = a2.toList then (if a0 < a1 then (some true) else ((rlp_Number.f k a0).bind fun t189 => ((rlp_Number.f k a1).bind fun t190 => (some (decide ((t189.size : Int) ≥ (t190.size : Int))))))) else (none))) else (if a0 < a1 then (some true) else ((rlp_Number.f k a0).bind fun t191 => ((rlp_Number.f k a1).bind fun t192 => (some (decide ((t191.size : Int) ≥ (t192.size : Int)))))))) else (none)) else (none)) else (none)) else (none)) else (none)))) else (none)))) = some r := H
  have A6 := Aside0.mk A60
  clear A60
  replace H := Option.bind_eq_some_iff.mp H
  obtain ⟨⟨t182, t183⟩, A70, H⟩ := H
  replace H : ((loessref02_Uint.f k a2).bind fun bt184 => (if t178 = true then ((rlp_Number.f k a0).bind fun t186 => ((loessref02_Number.f k a0).bind fun t187 => (if t186.toList = t187.toList then (if t180 = a0 then (if t181 = true then (if t182 = bt184.1 then (if (t183 == bt184.2) = true then (if t183 = true then ((rlp_Number.f k t182).bind fun t188 => (if t188.toList = a2.toList then (if a0 < a1 then (some true) else ((rlp_Number.f k a0).bind fun t189 => ((rlp_Number.f k a1).bind fun t190 => (some (decide ((t189.size : Int) ≥ (t190.size : Int))))))) else (none))) else (if a0 < a1 then (some true) else ((rlp_Number.f k a0).bind fun t191 => ((rlp_Number.f k a1).bind fun t192 => (some (decide ((t191.size : Int) ≥ (t192.size : Int)))))))) else (none)) else (none)) else (none)) else (none)) else (none)))) else (none))) = some r := H
  have A7 := Aside0.mk A70
  clear A70
  replace H := Option.bind_eq_some_iff.mp H
  obtain ⟨⟨t184, t185⟩, A80, H⟩ := H
  replace H : (if t178 = true then ((rlp_Number.f k a0).bind fun t186 => ((loessref02_Number.f k a0).bind fun t187 => (if t186.toList = t187.toList then (if t180 = a0 then (if t181 = true then (if t182 = t184 then (if (t183 == t185) = true then (if t183 = true then ((rlp_Number.f k t182).bind fun t188 => (if t188.toList = a2.toList then (if a0 < a1 then (some true) else ((rlp_Number.f k a0).bind fun t189 => ((rlp_Number.f k a1).bind fun t190 => (some (decide ((t189.size : Int) ≥ (t190.size : Int))))))) else (none))) else (if a0 < a1 then (some true) else ((rlp_Number.f k a0).bind fun t191 => ((rlp_Number.f k a1).bind fun t192 => (some (decide ((t191.size : Int) ≥ (t192.size : Int)))))))) else (none)) else (none)) else (none)) else (none)) else (none)))) else (none)) = some r := H
  have A8 := Aside0.mk A80
  clear A80
  by_cases c9 : t178 = true
  · subst c9
    have H1 : ((rlp_Number.f k a0).bind fun t186 => ((loessref02_Number.f k a0).bind fun t187 => (if t186.toList = t187.toList then (if t180 = a0 then (if t181 = true then (if t182 = t184 then (if (t183 == t185) = true then (if t183 = true then ((rlp_Number.f k t182).bind fun t188 => (if t188.toList = a2.toList then (if a0 < a1 then (some true) else ((rlp_Number.f k a0).bind fun t189 => ((rlp_Number.f k a1).bind fun t190 => (some (decide ((t189.size : Int) ≥ (t190.size : Int))))))) else (none))) else (if a0 < a1 then (some true) else ((rlp_Number.f k a0).bind fun t191 => ((rlp_Number.f k a1).bind fun t192 => (some (decide ((t191.size : Int) ≥ (t192.size : Int)))))))) else (none)) else (none)) else (none)) else (none)) else (none)))) = some r := by rw [if_pos rfl] at H; exact H
    clear H
    have H := H1
    clear H1
    replace H := Option.bind_eq_some_iff.mp H
    obtain ⟨t186, A100, H⟩ := H
    replace H : ((loessref02_Number.f k a0).bind fun t187 => (if t186.toList = t187.toList then (if t180 = a0 then (if t181 = true then (if t182 = t184 then (if (t183 == t185) = true then (if t183 = true then ((rlp_Number.f k t182).bind fun t188 => (if t188.toList = a2.toList then (if a0 < a1 then (some true) else ((rlp_Number.f k a0).bind fun t189 => ((rlp_Number.f k a1).bind fun t190 => (some (decide ((t189.size : Int) ≥ (t190.size : Int))))))) else (none))) else (if a0 < a1 then (some true) else ((rlp_Number.f k a0).bind fun t191 => ((rlp_Number.f k a1).bind fun t192 => (some (decide ((t191.size : Int) ≥ (t192.size : Int)))))))) else (none)) else (none)) else (none)) else (none)) else (none))) = some r := H
    have A10 := Aside0.mk A100
    clear A100
    have e_ : t179 = t186 := Option.some.inj (A5.out.symm.trans A10.out)
    subst e_
    replace H := Option.bind_eq_some_iff.mp H
    obtain ⟨t187, A110, H⟩ := H
    replace H : (if t179.toList = t187.toList then (if t180 = a0 then (if t181 = true then (if t182 = t184 then (if (t183 == t185) = true then (if t183 = true then ((rlp_Number.f k t182).bind fun t188 => (if t188.toList = a2.toList then (if a0 < a1 then (some true) else ((rlp_Number.f k a0).bind fun t189 => ((rlp_Number.f k a1).bind fun t190 => (some (decide ((t189.size : Int) ≥ (t190.size : Int))))))) else (none))) else (if a0 < a1 then (some true) else ((rlp_Number.f k a0).bind fun t191 => ((rlp_Number.f k a1).bind fun t192 => (some (decide ((t191.size : Int) ≥ (t192.size : Int)))))))) else (none)) else (none)) else (none)) else (none)) else (none)) = some r := H
    have A11 := Aside0.mk A110
    clear A110
    by_cases c12 : t179.toList = t187.toList
    · rw [if_pos c12] at H
      have c12b0 : (t179.toList == t187.toList) = true := beq_iff_eq.mpr c12
      have c12b1 : (t179.toList != t187.toList) = false := bne_eq_false_iff_eq.mpr c12
      clear c12
      by_cases c13 : t180 = a0
      · rw [if_pos c13] at H
        have c13b0 : (t180 == a0) = true := beq_iff_eq.mpr c13
        have c13b1 : (t180 != a0) = false := bne_eq_false_iff_eq.mpr c13
        clear c13
        by_cases c14 : t181 = true
        · subst c14
          have H1 : (if t182 = t184 then (if (t183 == t185) = true then (if t183 = true then ((rlp_Number.f k t182).bind fun t188 => (if t188.toList = a2.toList then (if a0 < a1 then (some true) else ((rlp_Number.f k a0).bind fun t189 => ((rlp_Number.f k a1).bind fun t190 => (some (decide ((t189.size : Int) ≥ (t190.size : Int))))))) else (none))) else (if a0 < a1 then (some true) else ((rlp_Number.f k a0).bind fun t191 => ((rlp_Number.f k a1).bind fun t192 => (some (decide ((t191.size : Int) ≥ (t192.size : Int)))))))) else (none)) else (none)) = some r := by rw [if_pos rfl] at H; exact H
          clear H
          have H := H1
          clear H1
          by_cases c15 : t182 = t184
          · rw [if_pos c15] at H
            have c15b0 : (t182 == t184) = true := beq_iff_eq.mpr c15
            have c15b1 : (t182 != t184) = false := bne_eq_false_iff_eq.mpr c15
            clear c15
            by_cases c16 : (t183 == t185) = true
            · rw [if_pos c16] at H
              have c16b0 : (t183 == t185) = true := c16
              (try (have c16b1 : decide (t183 = t185) = true := by simpa using c16))
              (try (have c16b2 : (t183 == t185) = true := by simpa using c16))
              clear c16
              by_cases c17 : t183 = true
              · subst c17
                have H1 : ((rlp_Number.f k t182).bind fun t188 => (if t188.toList = a2.toList then (if a0 < a1 then (some true) else ((rlp_Number.f k a0).bind fun t189 => ((rlp_Number.f k a1).bind fun t190 => (some (decide ((t189.size : Int) ≥ (t190.size : Int))))))) else (none))) = some r := by rw [if_pos rfl] at H; exact H
                clear H
                have H := H1
                clear H1
                replace H := Option.bind_eq_some_iff.mp H
                obtain ⟨t188, A180, H⟩ := H
                replace H : (if t188.toList = a2.toList then (if a0 < a1 then (some true) else ((rlp_Number.f k a0).bind fun t189 => ((rlp_Number.f k a1).bind fun t190 => (some (decide ((t189.size : Int) ≥ (t190.size : Int))))))) else (none)) = some r := H
                have A18 := Aside0.mk A180
                clear A180
                by_cases c19 : t188.toList = a2.toList
                · rw [if_pos c19] at H
                  have c19b0 : (t188.toList == a2.toList) = true := beq_iff_eq.mpr c19
                  have c19b1 : (t188.toList != a2.toList) = false := bne_eq_false_iff_eq.mpr c19
                  clear c19
                  by_cases c20 : a0 < a1
                  · rw [if_pos c20] at H
                    have c20b0 : decide (a0 < a1) = true := decide_eq_true c20
                    clear c20
                    obtain rfl := Option.some.inj H
                    go_enter Try.func4, Try.ntmps4
                    go_wp2_with (first | ((with_reducible refine gate_callee (f := 9) rfl ?_); refine goesL_ (some 14) rfl rfl Try.func9 (by kernel_rfl) rfl #[] rfl (by (try simp only [List.map_toArray, List.map_cons, List.map_nil]); first | done | rfl | (simp only [List.length_drop, List.length_take]; rfl)) ?_; (with_reducible refine (loesslaw02_awake.calls  true _ A4.out).mono ?_); rintro e w21 ⟨rfl, hb⟩; refine ⟨_, rfl, ?_⟩; have n0_ := Aside0.mk (below_step (by repeat (first | (with_reducible first | exact HB.out | apply below_alloc | apply pw_below_drewN | apply below_drew1) | exact HB.out)) hb); clear HB; have HB := n0_; clear n0_; (try clear hb); (try clear hb2); (try clear hk); (try clear hi)) | ((with_reducible refine gate_callee (f := 16) rfl ?_); refine goesL_ (some 17) rfl rfl Try.func16 (by kernel_rfl) rfl #[.int .u64 a0] rfl (by (try simp only [List.map_toArray, List.map_cons, List.map_nil]); first | done | rfl | (simp only [List.length_drop, List.length_take]; rfl)) ?_; (with_reducible refine (rlp_Number.calls k a0 t179 _ A5.out).mono ?_); rintro e w22 ⟨rfl, hb⟩; refine ⟨_, rfl, ?_⟩; have n0_ := Aside0.mk (below_step (by repeat (first | (with_reducible first | exact HB.out | apply below_alloc | apply pw_below_drewN | apply below_drew1) | exact HB.out)) hb); clear HB; have HB := n0_; clear n0_; (try clear hb); (try clear hb2); (try clear hk); (try clear hi)) | ((with_reducible refine gate_callee (f := 15) rfl ?_); refine goesL_ (some 18) rfl rfl Try.func15 (by kernel_rfl) rfl #[.string t179] rfl (by (try simp only [List.map_toArray, List.map_cons, List.map_nil]); first | done | rfl | (simp only [List.length_drop, List.length_take]; rfl)) ?_; (with_reducible refine (rlp_Uint.calls k t179 t180 true _ A6.out).mono ?_); rintro e w' ⟨rfl, ⟨nd, rfl⟩⟩; refine ⟨_, rfl, ?_⟩) | ((with_reducible refine gate_callee (f := 15) rfl ?_); refine goesL_ (some 23) rfl rfl Try.func15 (by kernel_rfl) rfl #[.string a2] rfl (by (try simp only [List.map_toArray, List.map_cons, List.map_nil]); first | done | rfl | (simp only [List.length_drop, List.length_take]; rfl)) ?_; (with_reducible refine (rlp_Uint.calls k a2 t182 true _ A7.out).mono ?_); rintro e w' ⟨rfl, ⟨nd, rfl⟩⟩; refine ⟨_, rfl, ?_⟩) | ((with_reducible refine gate_callee (f := 17) rfl ?_); refine goesL_ (some 28) rfl rfl Try.func17 (by kernel_rfl) rfl #[.string a2] rfl (by (try simp only [List.map_toArray, List.map_cons, List.map_nil]); first | done | rfl | (simp only [List.length_drop, List.length_take]; rfl)) ?_; (with_reducible refine (loessref02_Uint.calls k a2 t184 t185 _ A8.out).mono ?_); rintro e w' ⟨rfl, ⟨nd, rfl⟩⟩; refine ⟨_, rfl, ?_⟩) | (go_at_call 16; (with_reducible refine (rlp_Number.calls k a0 t179 _ A10.out).mono ?_); rintro e w23 ⟨rfl, hb⟩; have n0_ := Aside0.mk (below_step (by repeat (first | (with_reducible first | exact HB.out | apply below_alloc | apply pw_below_drewN | apply below_drew1) | exact HB.out)) hb); clear HB; have HB := n0_; clear n0_; (try clear hb); (try clear hb2); (try clear hk); (try clear hi)) | (go_at_call 18; (with_reducible refine (loessref02_Number.calls k a0 t187 _ A11.out).mono ?_); rintro e w24 ⟨rfl, hb⟩; have n0_ := Aside0.mk (below_step (by repeat (first | (with_reducible first | exact HB.out | apply below_alloc | apply pw_below_drewN | apply below_drew1) | exact HB.out)) hb); clear HB; have HB := n0_; clear n0_; (try clear hb); (try clear hb2); (try clear hk); (try clear hi)) | (go_at_call 16; (with_reducible refine (rlp_Number.calls k t182 t188 _ A18.out).mono ?_); rintro e w25 ⟨rfl, hb⟩; have n0_ := Aside0.mk (below_step (by repeat (first | (with_reducible first | exact HB.out | apply below_alloc | apply pw_below_drewN | apply below_drew1) | exact HB.out)) hb); clear HB; have HB := n0_; clear n0_; (try clear hb); (try clear hb2); (try clear hk); (try clear hi)))
                    go_ret
                    exact ⟨by first | rfl | (simp [errW_none, errW_some] <;> rfl) | (simp [*, errW_none, errW_some] <;> rfl), by repeat (first | (with_reducible first | exact HB.out | apply below_alloc | apply pw_below_drewN | apply below_drew1) | exact HB.out)⟩
                  · rw [if_neg c20] at H
                    have c20b0 : decide (a0 < a1) = false := decide_eq_false c20
                    clear c20
                    replace H := Option.bind_eq_some_iff.mp H
                    obtain ⟨t189, A260, H⟩ := H
                    replace H : ((rlp_Number.f k a1).bind fun t190 => (some (decide ((t189.size : Int) ≥ (t190.size : Int))))) = some r := H
                    have A26 := Aside0.mk A260
                    clear A260
                    have e_ : t179 = t189 := Option.some.inj (A5.out.symm.trans A26.out)
                    subst e_
                    replace H := Option.bind_eq_some_iff.mp H
                    obtain ⟨t190, A270, H⟩ := H
                    replace H : (some (decide ((t179.size : Int) ≥ (t190.size : Int)))) = some r := H
                    have A27 := Aside0.mk A270
                    clear A270
                    obtain rfl := Option.some.inj H
                    go_enter Try.func4, Try.ntmps4
                    go_wp2_with (first | ((with_reducible refine gate_callee (f := 9) rfl ?_); refine goesL_ (some 14) rfl rfl Try.func9 (by kernel_rfl) rfl #[] rfl (by (try simp only [List.map_toArray, List.map_cons, List.map_nil]); first | done | rfl | (simp only [List.length_drop, List.length_take]; rfl)) ?_; (with_reducible refine (loesslaw02_awake.calls  true _ A4.out).mono ?_); rintro e w28 ⟨rfl, hb⟩; refine ⟨_, rfl, ?_⟩; have n0_ := Aside0.mk (below_step (by repeat (first | (with_reducible first | exact HB.out | apply below_alloc | apply pw_below_drewN | apply below_drew1) | exact HB.out)) hb); clear HB; have HB := n0_; clear n0_; (try clear hb); (try clear hb2); (try clear hk); (try clear hi)) | ((with_reducible refine gate_callee (f := 16) rfl ?_); refine goesL_ (some 17) rfl rfl Try.func16 (by kernel_rfl) rfl #[.int .u64 a0] rfl (by (try simp only [List.map_toArray, List.map_cons, List.map_nil]); first | done | rfl | (simp only [List.length_drop, List.length_take]; rfl)) ?_; (with_reducible refine (rlp_Number.calls k a0 t179 _ A5.out).mono ?_); rintro e w29 ⟨rfl, hb⟩; refine ⟨_, rfl, ?_⟩; have n0_ := Aside0.mk (below_step (by repeat (first | (with_reducible first | exact HB.out | apply below_alloc | apply pw_below_drewN | apply below_drew1) | exact HB.out)) hb); clear HB; have HB := n0_; clear n0_; (try clear hb); (try clear hb2); (try clear hk); (try clear hi)) | ((with_reducible refine gate_callee (f := 15) rfl ?_); refine goesL_ (some 18) rfl rfl Try.func15 (by kernel_rfl) rfl #[.string t179] rfl (by (try simp only [List.map_toArray, List.map_cons, List.map_nil]); first | done | rfl | (simp only [List.length_drop, List.length_take]; rfl)) ?_; (with_reducible refine (rlp_Uint.calls k t179 t180 true _ A6.out).mono ?_); rintro e w' ⟨rfl, ⟨nd, rfl⟩⟩; refine ⟨_, rfl, ?_⟩) | ((with_reducible refine gate_callee (f := 15) rfl ?_); refine goesL_ (some 23) rfl rfl Try.func15 (by kernel_rfl) rfl #[.string a2] rfl (by (try simp only [List.map_toArray, List.map_cons, List.map_nil]); first | done | rfl | (simp only [List.length_drop, List.length_take]; rfl)) ?_; (with_reducible refine (rlp_Uint.calls k a2 t182 true _ A7.out).mono ?_); rintro e w' ⟨rfl, ⟨nd, rfl⟩⟩; refine ⟨_, rfl, ?_⟩) | ((with_reducible refine gate_callee (f := 17) rfl ?_); refine goesL_ (some 28) rfl rfl Try.func17 (by kernel_rfl) rfl #[.string a2] rfl (by (try simp only [List.map_toArray, List.map_cons, List.map_nil]); first | done | rfl | (simp only [List.length_drop, List.length_take]; rfl)) ?_; (with_reducible refine (loessref02_Uint.calls k a2 t184 t185 _ A8.out).mono ?_); rintro e w' ⟨rfl, ⟨nd, rfl⟩⟩; refine ⟨_, rfl, ?_⟩) | (go_at_call 16; (with_reducible refine (rlp_Number.calls k a0 t179 _ A10.out).mono ?_); rintro e w30 ⟨rfl, hb⟩; have n0_ := Aside0.mk (below_step (by repeat (first | (with_reducible first | exact HB.out | apply below_alloc | apply pw_below_drewN | apply below_drew1) | exact HB.out)) hb); clear HB; have HB := n0_; clear n0_; (try clear hb); (try clear hb2); (try clear hk); (try clear hi)) | (go_at_call 18; (with_reducible refine (loessref02_Number.calls k a0 t187 _ A11.out).mono ?_); rintro e w31 ⟨rfl, hb⟩; have n0_ := Aside0.mk (below_step (by repeat (first | (with_reducible first | exact HB.out | apply below_alloc | apply pw_below_drewN | apply below_drew1) | exact HB.out)) hb); clear HB; have HB := n0_; clear n0_; (try clear hb); (try clear hb2); (try clear hk); (try clear hi)) | (go_at_call 16; (with_reducible refine (rlp_Number.calls k t182 t188 _ A18.out).mono ?_); rintro e w32 ⟨rfl, hb⟩; have n0_ := Aside0.mk (below_step (by repeat (first | (with_reducible first | exact HB.out | apply below_alloc | apply pw_below_drewN | apply below_drew1) | exact HB.out)) hb); clear HB; have HB := n0_; clear n0_; (try clear hb); (try clear hb2); (try clear hk); (try clear hi)) | (go_at_call 16; (with_reducible refine (rlp_Number.calls k a0 t179 _ A26.out).mono ?_); rintro e w33 ⟨rfl, hb⟩; have n0_ := Aside0.mk (below_step (by repeat (first | (with_reducible first | exact HB.out | apply below_alloc | apply pw_below_drewN | apply below_drew1) | exact HB.out)) hb); clear HB; have HB := n0_; clear n0_; (try clear hb); (try clear hb2); (try clear hk); (try clear hi)) | (go_at_call 16; (with_reducible refine (rlp_Number.calls k a1 t190 _ A27.out).mono ?_); rintro e w34 ⟨rfl, hb⟩; have n0_ := Aside0.mk (below_step (by repeat (first | (with_reducible first | exact HB.out | apply below_alloc | apply pw_below_drewN | apply below_drew1) | exact HB.out)) hb); clear HB; have HB := n0_; clear n0_; (try clear hb); (try clear hb2); (try clear hk); (try clear hi)))
                    go_ret
                    exact ⟨by first | rfl | (simp [errW_none, errW_some] <;> rfl) | (simp [*, errW_none, errW_some] <;> rfl), by repeat (first | (with_reducible first | exact HB.out | apply below_alloc | apply pw_below_drewN | apply below_drew1) | exact HB.out)⟩
                · rw [if_neg c19] at H
                  exact absurd H (by simp)
              · replace c17 := Bool.eq_false_iff.mpr c17
                subst c17
                have H1 : (if a0 < a1 then (some true) else ((rlp_Number.f k a0).bind fun t191 => ((rlp_Number.f k a1).bind fun t192 => (some (decide ((t191.size : Int) ≥ (t192.size : Int))))))) = some r := by rw [if_neg (show ¬ (false = true) by decide)] at H; exact H
                clear H
                have H := H1
                clear H1
                by_cases c35 : a0 < a1
                · rw [if_pos c35] at H
                  have c35b0 : decide (a0 < a1) = true := decide_eq_true c35
                  clear c35
                  obtain rfl := Option.some.inj H
                  go_enter Try.func4, Try.ntmps4
                  go_wp2_with (first | ((with_reducible refine gate_callee (f := 9) rfl ?_); refine goesL_ (some 14) rfl rfl Try.func9 (by kernel_rfl) rfl #[] rfl (by (try simp only [List.map_toArray, List.map_cons, List.map_nil]); first | done | rfl | (simp only [List.length_drop, List.length_take]; rfl)) ?_; (with_reducible refine (loesslaw02_awake.calls  true _ A4.out).mono ?_); rintro e w36 ⟨rfl, hb⟩; refine ⟨_, rfl, ?_⟩; have n0_ := Aside0.mk (below_step (by repeat (first | (with_reducible first | exact HB.out | apply below_alloc | apply pw_below_drewN | apply below_drew1) | exact HB.out)) hb); clear HB; have HB := n0_; clear n0_; (try clear hb); (try clear hb2); (try clear hk); (try clear hi)) | ((with_reducible refine gate_callee (f := 16) rfl ?_); refine goesL_ (some 17) rfl rfl Try.func16 (by kernel_rfl) rfl #[.int .u64 a0] rfl (by (try simp only [List.map_toArray, List.map_cons, List.map_nil]); first | done | rfl | (simp only [List.length_drop, List.length_take]; rfl)) ?_; (with_reducible refine (rlp_Number.calls k a0 t179 _ A5.out).mono ?_); rintro e w37 ⟨rfl, hb⟩; refine ⟨_, rfl, ?_⟩; have n0_ := Aside0.mk (below_step (by repeat (first | (with_reducible first | exact HB.out | apply below_alloc | apply pw_below_drewN | apply below_drew1) | exact HB.out)) hb); clear HB; have HB := n0_; clear n0_; (try clear hb); (try clear hb2); (try clear hk); (try clear hi)) | ((with_reducible refine gate_callee (f := 15) rfl ?_); refine goesL_ (some 18) rfl rfl Try.func15 (by kernel_rfl) rfl #[.string t179] rfl (by (try simp only [List.map_toArray, List.map_cons, List.map_nil]); first | done | rfl | (simp only [List.length_drop, List.length_take]; rfl)) ?_; (with_reducible refine (rlp_Uint.calls k t179 t180 true _ A6.out).mono ?_); rintro e w' ⟨rfl, ⟨nd, rfl⟩⟩; refine ⟨_, rfl, ?_⟩) | ((with_reducible refine gate_callee (f := 15) rfl ?_); refine goesL_ (some 23) rfl rfl Try.func15 (by kernel_rfl) rfl #[.string a2] rfl (by (try simp only [List.map_toArray, List.map_cons, List.map_nil]); first | done | rfl | (simp only [List.length_drop, List.length_take]; rfl)) ?_; (with_reducible refine (rlp_Uint.calls k a2 t182 false _ A7.out).mono ?_); rintro e w' ⟨rfl, ⟨nd, rfl⟩⟩; refine ⟨_, rfl, ?_⟩) | ((with_reducible refine gate_callee (f := 17) rfl ?_); refine goesL_ (some 28) rfl rfl Try.func17 (by kernel_rfl) rfl #[.string a2] rfl (by (try simp only [List.map_toArray, List.map_cons, List.map_nil]); first | done | rfl | (simp only [List.length_drop, List.length_take]; rfl)) ?_; (with_reducible refine (loessref02_Uint.calls k a2 t184 t185 _ A8.out).mono ?_); rintro e w' ⟨rfl, ⟨nd, rfl⟩⟩; refine ⟨_, rfl, ?_⟩) | (go_at_call 16; (with_reducible refine (rlp_Number.calls k a0 t179 _ A10.out).mono ?_); rintro e w38 ⟨rfl, hb⟩; have n0_ := Aside0.mk (below_step (by repeat (first | (with_reducible first | exact HB.out | apply below_alloc | apply pw_below_drewN | apply below_drew1) | exact HB.out)) hb); clear HB; have HB := n0_; clear n0_; (try clear hb); (try clear hb2); (try clear hk); (try clear hi)) | (go_at_call 18; (with_reducible refine (loessref02_Number.calls k a0 t187 _ A11.out).mono ?_); rintro e w39 ⟨rfl, hb⟩; have n0_ := Aside0.mk (below_step (by repeat (first | (with_reducible first | exact HB.out | apply below_alloc | apply pw_below_drewN | apply below_drew1) | exact HB.out)) hb); clear HB; have HB := n0_; clear n0_; (try clear hb); (try clear hb2); (try clear hk); (try clear hi)))
                  go_ret
                  exact ⟨by first | rfl | (simp [errW_none, errW_some] <;> rfl) | (simp [*, errW_none, errW_some] <;> rfl), by repeat (first | (with_reducible first | exact HB.out | apply below_alloc | apply pw_below_drewN | apply below_drew1) | exact HB.out)⟩
                · rw [if_neg c35] at H
                  have c35b0 : decide (a0 < a1) = false := decide_eq_false c35
                  clear c35
                  replace H := Option.bind_eq_some_iff.mp H
                  obtain ⟨t191, A400, H⟩ := H
                  replace H : ((rlp_Number.f k a1).bind fun t192 => (some (decide ((t191.size : Int) ≥ (t192.size : Int))))) = some r := H
                  have A40 := Aside0.mk A400
                  clear A400
                  have e_ : t179 = t191 := Option.some.inj (A5.out.symm.trans A40.out)
                  subst e_
                  replace H := Option.bind_eq_some_iff.mp H
                  obtain ⟨t192, A410, H⟩ := H
                  replace H : (some (decide ((t179.size : Int) ≥ (t192.size : Int)))) = some r := H
                  have A41 := Aside0.mk A410
                  clear A410
                  obtain rfl := Option.some.inj H
                  go_enter Try.func4, Try.ntmps4
                  go_wp2_with (first | ((with_reducible refine gate_callee (f := 9) rfl ?_); refine goesL_ (some 14) rfl rfl Try.func9 (by kernel_rfl) rfl #[] rfl (by (try simp only [List.map_toArray, List.map_cons, List.map_nil]); first | done | rfl | (simp only [List.length_drop, List.length_take]; rfl)) ?_; (with_reducible refine (loesslaw02_awake.calls  true _ A4.out).mono ?_); rintro e w42 ⟨rfl, hb⟩; refine ⟨_, rfl, ?_⟩; have n0_ := Aside0.mk (below_step (by repeat (first | (with_reducible first | exact HB.out | apply below_alloc | apply pw_below_drewN | apply below_drew1) | exact HB.out)) hb); clear HB; have HB := n0_; clear n0_; (try clear hb); (try clear hb2); (try clear hk); (try clear hi)) | ((with_reducible refine gate_callee (f := 16) rfl ?_); refine goesL_ (some 17) rfl rfl Try.func16 (by kernel_rfl) rfl #[.int .u64 a0] rfl (by (try simp only [List.map_toArray, List.map_cons, List.map_nil]); first | done | rfl | (simp only [List.length_drop, List.length_take]; rfl)) ?_; (with_reducible refine (rlp_Number.calls k a0 t179 _ A5.out).mono ?_); rintro e w43 ⟨rfl, hb⟩; refine ⟨_, rfl, ?_⟩; have n0_ := Aside0.mk (below_step (by repeat (first | (with_reducible first | exact HB.out | apply below_alloc | apply pw_below_drewN | apply below_drew1) | exact HB.out)) hb); clear HB; have HB := n0_; clear n0_; (try clear hb); (try clear hb2); (try clear hk); (try clear hi)) | ((with_reducible refine gate_callee (f := 15) rfl ?_); refine goesL_ (some 18) rfl rfl Try.func15 (by kernel_rfl) rfl #[.string t179] rfl (by (try simp only [List.map_toArray, List.map_cons, List.map_nil]); first | done | rfl | (simp only [List.length_drop, List.length_take]; rfl)) ?_; (with_reducible refine (rlp_Uint.calls k t179 t180 true _ A6.out).mono ?_); rintro e w' ⟨rfl, ⟨nd, rfl⟩⟩; refine ⟨_, rfl, ?_⟩) | ((with_reducible refine gate_callee (f := 15) rfl ?_); refine goesL_ (some 23) rfl rfl Try.func15 (by kernel_rfl) rfl #[.string a2] rfl (by (try simp only [List.map_toArray, List.map_cons, List.map_nil]); first | done | rfl | (simp only [List.length_drop, List.length_take]; rfl)) ?_; (with_reducible refine (rlp_Uint.calls k a2 t182 false _ A7.out).mono ?_); rintro e w' ⟨rfl, ⟨nd, rfl⟩⟩; refine ⟨_, rfl, ?_⟩) | ((with_reducible refine gate_callee (f := 17) rfl ?_); refine goesL_ (some 28) rfl rfl Try.func17 (by kernel_rfl) rfl #[.string a2] rfl (by (try simp only [List.map_toArray, List.map_cons, List.map_nil]); first | done | rfl | (simp only [List.length_drop, List.length_take]; rfl)) ?_; (with_reducible refine (loessref02_Uint.calls k a2 t184 t185 _ A8.out).mono ?_); rintro e w' ⟨rfl, ⟨nd, rfl⟩⟩; refine ⟨_, rfl, ?_⟩) | (go_at_call 16; (with_reducible refine (rlp_Number.calls k a0 t179 _ A10.out).mono ?_); rintro e w44 ⟨rfl, hb⟩; have n0_ := Aside0.mk (below_step (by repeat (first | (with_reducible first | exact HB.out | apply below_alloc | apply pw_below_drewN | apply below_drew1) | exact HB.out)) hb); clear HB; have HB := n0_; clear n0_; (try clear hb); (try clear hb2); (try clear hk); (try clear hi)) | (go_at_call 18; (with_reducible refine (loessref02_Number.calls k a0 t187 _ A11.out).mono ?_); rintro e w45 ⟨rfl, hb⟩; have n0_ := Aside0.mk (below_step (by repeat (first | (with_reducible first | exact HB.out | apply below_alloc | apply pw_below_drewN | apply below_drew1) | exact HB.out)) hb); clear HB; have HB := n0_; clear n0_; (try clear hb); (try clear hb2); (try clear hk); (try clear hi)) | (go_at_call 16; (with_reducible refine (rlp_Number.calls k a0 t179 _ A40.out).mono ?_); rintro e w46 ⟨rfl, hb⟩; have n0_ := Aside0.mk (below_step (by repeat (first | (with_reducible first | exact HB.out | apply below_alloc | apply pw_below_drewN | apply below_drew1) | exact HB.out)) hb); clear HB; have HB := n0_; clear n0_; (try clear hb); (try clear hb2); (try clear hk); (try clear hi)) | (go_at_call 16; (with_reducible refine (rlp_Number.calls k a1 t192 _ A41.out).mono ?_); rintro e w47 ⟨rfl, hb⟩; have n0_ := Aside0.mk (below_step (by repeat (first | (with_reducible first | exact HB.out | apply below_alloc | apply pw_below_drewN | apply below_drew1) | exact HB.out)) hb); clear HB; have HB := n0_; clear n0_; (try clear hb); (try clear hb2); (try clear hk); (try clear hi)))
                  go_ret
                  exact ⟨by first | rfl | (simp [errW_none, errW_some] <;> rfl) | (simp [*, errW_none, errW_some] <;> rfl), by repeat (first | (with_reducible first | exact HB.out | apply below_alloc | apply pw_below_drewN | apply below_drew1) | exact HB.out)⟩
            · rw [if_neg c16] at H
              exact absurd H (by simp)
          · rw [if_neg c15] at H
            exact absurd H (by simp)
        · replace c14 := Bool.eq_false_iff.mpr c14
          subst c14
          have H1 : (none) = some r := by rw [if_neg (show ¬ (false = true) by decide)] at H; exact H
          clear H
          have H := H1
          clear H1
          exact absurd H (by simp)
      · rw [if_neg c13] at H
        exact absurd H (by simp)
    · rw [if_neg c12] at H
      exact absurd H (by simp)
  · replace c9 := Bool.eq_false_iff.mpr c9
    subst c9
    have H1 : (none) = some r := by rw [if_neg (show ¬ (false = true) by decide)] at H; exact H
    clear H
    have H := H1
    clear H1
    exact absurd H (by simp)

/-- THE ONE PURE STATEMENT of loesslaw02_RlpNumbers: yours. -/
def loesslaw02_RlpNumbers.Pure : Prop := ∀ (a0 : Int) (a1 : Int) (a2 : ByteArray), (Lit.int .u64 a0).wf = true → (Lit.int .u64 a1).wf = true → a2.size ≤ 140737488351232 → ∃ k, loesslaw02_RlpNumbers.f k a0 a1 a2 = some true
theorem loesslaw02_RlpNumbers.walk (P : loesslaw02_RlpNumbers.Pure) (a0 : Int) (a1 : Int) (a2 : ByteArray) (w : World) (w0 : (Lit.int .u64 a0).wf = true) (w1 : (Lit.int .u64 a1).wf = true) (w2 : a2.size ≤ 140737488351232) :
    Calls Try.prog 4 #[.int .u64 a0, .int .u64 a1, .string a2] w fun e w' => e = .returned (.bool true) ∧ Below w.heap.size w w' := by
  obtain ⟨k, h⟩ := P a0 a1 a2 w0 w1 w2
  refine (loesslaw02_RlpNumbers.calls k a0 a1 a2 true w h).mono ?_
  rintro e w' ⟨rfl, hd⟩
  exact ⟨rfl, hd⟩

end Go.Proofs.Ytkkammncpkgodaa.P
