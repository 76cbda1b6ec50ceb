/- What Go functions of the program come to: a Lean function and its contract for each. Written by a program of this session over the kit's printer, some contracts by hand. -/
import Derived.Test.YtlajpfdmbagedaaDoorP0
import Derived.Test.YtlajpfdmbagedaaDoorP1
import Derived.Test.YtlajpfdmbagedaaDoorP4
import Derived.Test.YtlajpfdmbagedaaDoorP5
import Derived.Test.YtlajpfdmbagedaaDoorP6
import Derived.Test.YtlajpfdmbagedaaDoorP7
import Derived.Test.YtlajpfdmbagedaaDoorP8
namespace Go.Proofs.YtlajpfdmbagedaaDoor.P
open Go.RowKit Go.Proofs.YtlajpfdmbagedaaDoorW.PrintWords Go.Proofs.YtlajpfdmbagedaaDoorW.PrintLast Go.Proofs.YtlajpfdmbagedaaDoorW.PrintMore
attribute [local go_sem] max2_int min2_int max_two min_two max_three min_three max_four min_four   -- for this text's walks alone
set_option linter.unusedVariables false
set_option linter.unusedSimpArgs false

/-! ### loesslaw03_awake: function 9 -/
def loesslaw03_awake.f (k : Nat)  : Option (Bool) := (nibble_Pack.f k (⟨#[1, 2, 3, 4, 5]⟩ : ByteArray) false).bind fun bt137 => ((nibble_Pack.f k (⟨#[15, 1, 12, 11, 8]⟩ : ByteArray) true).bind fun bt139 => ((nibble_Unpack.f k (⟨#[32, 15, 28, 184]⟩ : ByteArray)).bind fun bt141 => ((nibble_Next.f k (⟨#[1, 2, 15]⟩ : ByteArray)).bind fun bt144 => ((nibble_Next.f k (⟨#[15]⟩ : ByteArray)).bind fun bt146 => ((nibble_Of.f k (⟨#[26, 43]⟩ : ByteArray)).bind fun t148 => (if t148.toList = ([1, 10, 2, 11] : List UInt8) then (if bt137.1.toList = ([17, 35, 69] : List UInt8) then (if bt137.2 = 0 then (if bt139.1.toList = ([63, 28, 184] : List UInt8) then (if bt141.1.toList = ([0, 15, 1, 12, 11, 8] : List UInt8) then (if bt141.2.1 = true then (if bt141.2.2 = 0 then (if bt144.1.toList = ([1, 3] : List UInt8) then (if bt144.2 = true then (if bt146.2 = true then (none) else ((nibble_Prefix.f k (⟨#[97, 98]⟩ : ByteArray) (⟨#[97, 99]⟩ : ByteArray)).bind fun t149 => (if t149 = 1 then ((nibble_Less.f (⟨#[97]⟩ : ByteArray) (⟨#[97, 98]⟩ : ByteArray)).bind fun t150 => (some t150)) else (none)))) else (none)) else (none)) else (none)) else (none)) else (none)) else (none)) else (none)) else (none)) else (none)))))))
theorem loesslaw03_awake.mono : ∀ k, LeO (loesslaw03_awake.f k ) (loesslaw03_awake.f (k + 1) ) := by
  intro  k
  unfold loesslaw03_awake.f
  repeat' first
      | (with_reducible exact nibble_Next.mono _ _)
      | (with_reducible exact nibble_Of.mono _ _)
      | (with_reducible exact nibble_Pack.mono _ _ _)
      | (with_reducible exact nibble_Prefix.mono _ _ _)
      | (with_reducible exact nibble_Unpack.mono _ _)
      | (with_reducible exact LeO.refl _)
      | (with_reducible exact LeO.none _)
      | (with_reducible refine LeO.ite ?_ ?_)
      | (with_reducible refine LeO.bind ?_ (fun _ => ?_))
      | exact nibble_Next.mono _ _
      | exact nibble_Of.mono _ _
      | exact nibble_Pack.mono _ _ _
      | exact nibble_Prefix.mono _ _ _
      | exact nibble_Unpack.mono _ _
      | exact LeO.none _
      | refine LeO.ite ?_ ?_
      | refine LeO.bind ?_ (fun _ => ?_)
set_option maxHeartbeats 8000000 in
set_option maxRecDepth 100000 in
theorem loesslaw03_awake.calls (k : Nat)  (r : Bool) (w : World) (h : loesslaw03_awake.f k  = some r) :
    Calls Tryd.prog 9 #[] w fun e w' => e = .returned (.bool r) ∧ Below w.heap.size w w' := by
  have HB := Aside0.mk (Below.refl w.heap.size w)
  have H : ((nibble_Pack.f k (⟨#[1, 2, 3, 4, 5]⟩ : ByteArray) false).bind fun bt137 => ((nibble_Pack.f k (⟨#[15, 1, 12, 11, 8]⟩ : ByteArray) true).bind fun bt139 => ((nibble_Unpack.f k (⟨#[32, 15, 28, 184]⟩ : ByteArray)).bind fun bt141 => ((nibble_Next.f k (⟨#[1, 2, 15]⟩ : ByteArray)).bind fun bt144 => ((nibble_Next.f k (⟨#[15]⟩ : ByteArray)).bind fun bt146 => ((nibble_Of.f k (⟨#[26, 43]⟩ : ByteArray)).bind fun t148 => (if t148.toList = ([1, 10, 2, 11] : List UInt8) then (if bt137.1.toList = ([17, 35, 69] : List UInt8) then (if bt137.2 = 0 then (if bt139.1.toList = ([63, 28, 184] : List UInt8) then (if bt141.1.toList = ([0, 15, 1, 12, 11, 8] : List UInt8) then (if bt141.2.1 = true then (if bt141.2.2 = 0 then (if bt144.1.toList = ([1, 3] : List UInt8) then (if bt144.2 = true then (if bt146.2 = true then (none) else ((nibble_Prefix.f k (⟨#[97, 98]⟩ : ByteArray) (⟨#[97, 99]⟩ : ByteArray)).bind fun t149 => (if t149 = 1 then ((nibble_Less.f (⟨#[97]⟩ : ByteArray) (⟨#[97, 98]⟩ : ByteArray)).bind fun t150 => (some t150)) else (none)))) else (none)) else (none)) else (none)) else (none)) else (none)) else (none)) else (none)) else (none)) else (none)))))))) = some r := h
  clear h
  replace H := Option.bind_eq_some_iff.mp H
  obtain ⟨⟨t137, t138⟩, A10, H⟩ := H
  replace H : ((nibble_Pack.f k (⟨#[15, 1, 12, 11, 8]⟩ : ByteArray) true).bind fun bt139 => ((nibble_Unpack.f k (⟨#[32, 15, 28, 184]⟩ : ByteArray)).bind fun bt141 => ((nibble_Next.f k (⟨#[1, 2, 15]⟩ : ByteArray)).bind fun bt144 => ((nibble_Next.f k (⟨#[15]⟩ : ByteArray)).bind fun bt146 => ((nibble_Of.f k (⟨#[26, 43]⟩ : ByteArray)).bind fun t148 => (if t148.toList = ([1, 10, 2, 11] : List UInt8) then (if t137.toList = ([17, 35, 69] : List UInt8) then (if t138 = 0 then (if bt139.1.toList = ([63, 28, 184] : List UInt8) then (if bt141.1.toList = ([0, 15, 1, 12, 11, 8] : List UInt8) then (if bt141.2.1 = true then (if bt141.2.2 = 0 then (if bt144.1.toList = ([1, 3] : List UInt8) then (if bt144.2 = true then (if bt146.2 = true then (none) else ((nibble_Prefix.f k (⟨#[97, 98]⟩ : ByteArray) (⟨#[97, 99]⟩ : ByteArray)).bind fun t149 => (if t149 = 1 then ((nibble_Less.f (⟨#[97]⟩ : ByteArray) (⟨#[97, 98]⟩ : ByteArray)).bind fun t150 => (some t150)) else (none)))) else (none)) else (none)) else (none)) else (none)) else (none)) else (none)) else (none)) else (none)) else (none))))))) = some r := H
  have A1 := Aside0.mk A10
  clear A10
  replace H := Option.bind_eq_some_iff.mp H
  obtain ⟨⟨t139, t140⟩, A20, H⟩ := H
  replace H : ((nibble_Unpack.f k (⟨#[32, 15, 28, 184]⟩ : ByteArray)).bind fun bt141 => ((nibble_Next.f k (⟨#[1, 2, 15]⟩ : ByteArray)).bind fun bt144 => ((nibble_Next.f k (⟨#[15]⟩ : ByteArray)).bind fun bt146 => ((nibble_Of.f k (⟨#[26, 43]⟩ : ByteArray)).bind fun t148 => (if t148.toList = ([1, 10, 2, 11] : List UInt8) then (if t137.toList = ([17, 35, 69] : List UInt8) then (if t138 = 0 then (if t139.toList = ([63, 28, 184] : List UInt8) then (if bt141.1.toList = ([0, 15, 1, 12, 11, 8] : List UInt8) then (if bt141.2.1 = true then (if bt141.2.2 = 0 then (if bt144.1.toList = ([1, 3] : List UInt8) then (if bt144.2 = true then (if bt146.2 = true then (none) else ((nibble_Prefix.f k (⟨#[97, 98]⟩ : ByteArray) (⟨#[97, 99]⟩ : ByteArray)).bind fun t149 => (if t149 = 1 then ((nibble_Less.f (⟨#[97]⟩ : ByteArray) (⟨#[97, 98]⟩ : ByteArray)).bind fun t150 => (some t150)) else (none)))) else (none)) else (none)) else (none)) else (none)) else (none)) else (none)) else (none)) else (none)) else (none)))))) = some r := H
  have A2 := Aside0.mk A20
  clear A20
  replace H := Option.bind_eq_some_iff.mp H
  obtain ⟨⟨t141, t142, t143⟩, A30, H⟩ := H
  replace H : ((nibble_Next.f k (⟨#[1, 2, 15]⟩ : ByteArray)).bind fun bt144 => ((nibble_Next.f k (⟨#[15]⟩ : ByteArray)).bind fun bt146 => ((nibble_Of.f k (⟨#[26, 43]⟩ : ByteArray)).bind fun t148 => (if t148.toList = ([1, 10, 2, 11] : List UInt8) then (if t137.toList = ([17, 35, 69] : List UInt8) then (if t138 = 0 then (if t139.toList = ([63, 28, 184] : List UInt8) then (if t141.toList = ([0, 15, 1, 12, 11, 8] : List UInt8) then (if t142 = true then (if t143 = 0 then (if bt144.1.toList = ([1, 3] : List UInt8) then (if bt144.2 = true then (if bt146.2 = true then (none) else ((nibble_Prefix.f k (⟨#[97, 98]⟩ : ByteArray) (⟨#[97, 99]⟩ : ByteArray)).bind fun t149 => (if t149 = 1 then ((nibble_Less.f (⟨#[97]⟩ : ByteArray) (⟨#[97, 98]⟩ : ByteArray)).bind fun t150 => (some t150)) else (none)))) else (none)) else (none)) else (none)) else (none)) else (none)) else (none)) else (none)) else (none)) else (none))))) = some r := H
  have A3 := Aside0.mk A30
  clear A30
  replace H := Option.bind_eq_some_iff.mp H
  obtain ⟨⟨t144, t145⟩, A40, H⟩ := H
  replace H : ((nibble_Next.f k (⟨#[15]⟩ : ByteArray)).bind fun bt146 => ((nibble_Of.f k (⟨#[26, 43]⟩ : ByteArray)).bind fun t148 => (if t148.toList = ([1, 10, 2, 11] : List UInt8) then (if t137.toList = ([17, 35, 69] : List UInt8) then (if t138 = 0 then (if t139.toList = ([63, 28, 184] : List UInt8) then (if t141.toList = ([0, 15, 1, 12, 11, 8] : List UInt8) then (if t142 = true then (if t143 = 0 then (if t144.toList = ([1, 3] : List UInt8) then (if t145 = true then (if bt146.2 = true then (none) else ((nibble_Prefix.f k (⟨#[97, 98]⟩ : ByteArray) (⟨#[97, 99]⟩ : ByteArray)).bind fun t149 => (if t149 = 1 then ((nibble_Less.f (⟨#[97]⟩ : ByteArray) (⟨#[97, 98]⟩ : ByteArray)).bind fun t150 => (some t150)) else (none)))) else (none)) else (none)) else (none)) else (none)) else (none)) else (none)) else (none)) else (none)) else (none)))) = some r := H
  have A4 := Aside0.mk A40
  clear A40
  replace H := Option.bind_eq_some_iff.mp H
  obtain ⟨⟨t146, t147⟩, A50, H⟩ := H
  replace H : ((nibble_Of.f k (⟨#[26, 43]⟩ : ByteArray)).bind fun t148 => (if t148.toList = ([1, 10, 2, 11] : List UInt8) then (if t137.toList = ([17, 35, 69] : List UInt8) then (if t138 = 0 then (if t139.toList = ([63, 28, 184] : List UInt8) then (if t141.toList = ([0, 15, 1, 12, 11, 8] : List UInt8) then (if t142 = true then (if t143 = 0 then (if t144.toList = ([1, 3] : List UInt8) then (if t145 = true then (if t147 = true then (none) else ((nibble_Prefix.f k (⟨#[97, 98]⟩ : ByteArray) (⟨#[97, 99]⟩ : ByteArray)).bind fun t149 => (if t149 = 1 then ((nibble_Less.f (⟨#[97]⟩ : ByteArray) (⟨#[97, 98]⟩ : ByteArray)).bind fun t150 => (some t150)) else (none)))) else (none)) else (none)) else (none)) else (none)) else (none)) else (none)) else (none)) else (none)) else (none))) = some r := H
  have A5 := Aside0.mk A50
  clear A50
  replace H := Option.bind_eq_some_iff.mp H
  obtain ⟨t148, A60, H⟩ := H
  replace H : (if t148.toList = ([1, 10, 2, 11] : List UInt8) then (if t137.toList = ([17, 35, 69] : List UInt8) then (if t138 = 0 then (if t139.toList = ([63, 28, 184] : List UInt8) then (if t141.toList = ([0, 15, 1, 12, 11, 8] : List UInt8) then (if t142 = true then (if t143 = 0 then (if t144.toList = ([1, 3] : List UInt8) then (if t145 = true then (if t147 = true then (none) else ((nibble_Prefix.f k (⟨#[97, 98]⟩ : ByteArray) (⟨#[97, 99]⟩ : ByteArray)).bind fun t149 => (if t149 = 1 then ((nibble_Less.f (⟨#[97]⟩ : ByteArray) (⟨#[97, 98]⟩ : ByteArray)).bind fun t150 => (some t150)) else (none)))) else (none)) else (none)) else (none)) else (none)) else (none)) else (none)) else (none)) else (none)) else (none)) = some r := H
  have A6 := Aside0.mk A60
  clear A60
  by_cases  c7 : t148.toList = ([1, 10, 2, 11] : List UInt8)
  · rw [if_pos c7] at H
    obtain rfl : t148 = (⟨#[1, 10, 2, 11]⟩ : ByteArray) := lit_of c7
    by_cases  c8 : t137.toList = ([17, 35, 69] : List UInt8)
    · rw [if_pos c8] at H
      obtain rfl : t137 = (⟨#[17, 35, 69]⟩ : ByteArray) := lit_of c8
      by_cases  c9 : t138 = 0
      · rw [if_pos c9] at H
        subst c9
        by_cases  c10 : t139.toList = ([63, 28, 184] : List UInt8)
        · rw [if_pos c10] at H
          obtain rfl : t139 = (⟨#[63, 28, 184]⟩ : ByteArray) := lit_of c10
          by_cases  c11 : t141.toList = ([0, 15, 1, 12, 11, 8] : List UInt8)
          · rw [if_pos c11] at H
            obtain rfl : t141 = (⟨#[0, 15, 1, 12, 11, 8]⟩ : ByteArray) := lit_of c11
            by_cases c12 : t142 = true
            · subst c12
              have H1 : (if t143 = 0 then (if t144.toList = ([1, 3] : List UInt8) then (if t145 = true then (if t147 = true then (none) else ((nibble_Prefix.f k (⟨#[97, 98]⟩ : ByteArray) (⟨#[97, 99]⟩ : ByteArray)).bind fun t149 => (if t149 = 1 then ((nibble_Less.f (⟨#[97]⟩ : ByteArray) (⟨#[97, 98]⟩ : ByteArray)).bind fun t150 => (some t150)) else (none)))) else (none)) else (none)) else (none)) = some r := by rw [if_pos rfl] at H; exact H
              clear H
              have H := H1
              clear H1
              by_cases  c13 : t143 = 0
              · rw [if_pos c13] at H
                subst c13
                by_cases  c14 : t144.toList = ([1, 3] : List UInt8)
                · rw [if_pos c14] at H
                  obtain rfl : t144 = (⟨#[1, 3]⟩ : ByteArray) := lit_of c14
                  by_cases c15 : t145 = true
                  · subst c15
                    have H1 : (if t147 = true then (none) else ((nibble_Prefix.f k (⟨#[97, 98]⟩ : ByteArray) (⟨#[97, 99]⟩ : ByteArray)).bind fun t149 => (if t149 = 1 then ((nibble_Less.f (⟨#[97]⟩ : ByteArray) (⟨#[97, 98]⟩ : ByteArray)).bind fun t150 => (some t150)) else (none)))) = some r := by rw [if_pos rfl] at H; exact H
                    clear H
                    have H := H1
                    clear H1
                    by_cases c16 : t147 = true
                    · subst c16
                      have H1 : (none) = some r := by rw [if_pos rfl] at H; exact H
                      clear H
                      have H := H1
                      clear H1
                      exact absurd H (by simp)
                    · replace c16 := Bool.eq_false_iff.mpr c16
                      subst c16
                      have H1 : ((nibble_Prefix.f k (⟨#[97, 98]⟩ : ByteArray) (⟨#[97, 99]⟩ : ByteArray)).bind fun t149 => (if t149 = 1 then ((nibble_Less.f (⟨#[97]⟩ : ByteArray) (⟨#[97, 98]⟩ : ByteArray)).bind fun t150 => (some t150)) else (none))) = some r := by rw [if_neg (show ¬ (false = true) by decide)] at H; exact H
                      clear H
                      have H := H1
                      clear H1
                      replace H := Option.bind_eq_some_iff.mp H
                      obtain ⟨t149, A170, H⟩ := H
                      replace H : (if t149 = 1 then ((nibble_Less.f (⟨#[97]⟩ : ByteArray) (⟨#[97, 98]⟩ : ByteArray)).bind fun t150 => (some t150)) else (none)) = some r := H
                      have A17 := Aside0.mk A170
                      clear A170
                      by_cases  c18 : t149 = 1
                      · rw [if_pos c18] at H
                        subst c18
                        replace H := Option.bind_eq_some_iff.mp H
                        obtain ⟨t150, A190, H⟩ := H
                        replace H : (some t150) = some r := H
                        have A19 := Aside0.mk A190
                        clear A190
                        obtain rfl := Option.some.inj H
                        go_enter Tryd.func9, Tryd.ntmps9
                        go_wp2_with (first | ((with_reducible refine gate_callee (f := 15) rfl ?_); refine goesL_ (some 13) rfl rfl Tryd.func15 (by kernel_rfl) rfl #[.string (⟨#[1, 2, 3, 4, 5]⟩ : ByteArray), .bool false] rfl (by (try simp only [List.map_toArray, List.map_cons, List.map_nil]); first | done | rfl | (simp only [List.length_drop, List.length_take]; rfl)) ?_; (with_reducible refine (nibble_Pack.calls k (⟨#[1, 2, 3, 4, 5]⟩ : ByteArray) false (⟨#[17, 35, 69]⟩ : ByteArray) (0 : Int) _ A1.out).mono ?_); rintro e w20 ⟨rfl, hb⟩; refine ⟨_, rfl, ?_⟩; have n0_ := Aside0.mk (below_step (by repeat (first | (with_reducible first | exact HB.out | apply below_alloc | apply pw_below_drewN | apply below_drew1) | exact HB.out)) hb); clear HB; have HB := n0_; clear n0_; (try clear hb); (try clear hb2); (try clear hk); (try clear hi)) | ((with_reducible refine gate_callee (f := 15) rfl ?_); refine goesL_ (some 17) rfl rfl Tryd.func15 (by kernel_rfl) rfl #[.string (⟨#[15, 1, 12, 11, 8]⟩ : ByteArray), .bool true] rfl (by (try simp only [List.map_toArray, List.map_cons, List.map_nil]); first | done | rfl | (simp only [List.length_drop, List.length_take]; rfl)) ?_; (with_reducible refine (nibble_Pack.calls k (⟨#[15, 1, 12, 11, 8]⟩ : ByteArray) true (⟨#[63, 28, 184]⟩ : ByteArray) t140 _ A2.out).mono ?_); rintro e w21 ⟨rfl, hb⟩; refine ⟨_, rfl, ?_⟩; have n0_ := Aside0.mk (below_step (by repeat (first | (with_reducible first | exact HB.out | apply below_alloc | apply pw_below_drewN | apply below_drew1) | exact HB.out)) hb); clear HB; have HB := n0_; clear n0_; (try clear hb); (try clear hb2); (try clear hk); (try clear hi)) | ((with_reducible refine gate_callee (f := 14) rfl ?_); refine goesL_ (some 21) rfl rfl Tryd.func14 (by kernel_rfl) rfl #[.string (⟨#[32, 15, 28, 184]⟩ : ByteArray)] rfl (by (try simp only [List.map_toArray, List.map_cons, List.map_nil]); first | done | rfl | (simp only [List.length_drop, List.length_take]; rfl)) ?_; (with_reducible refine (nibble_Unpack.calls k (⟨#[32, 15, 28, 184]⟩ : ByteArray) (⟨#[0, 15, 1, 12, 11, 8]⟩ : ByteArray) true (0 : Int) _ A3.out).mono ?_); rintro e w22 ⟨rfl, hb⟩; refine ⟨_, rfl, ?_⟩; have n0_ := Aside0.mk (below_step (by repeat (first | (with_reducible first | exact HB.out | apply below_alloc | apply pw_below_drewN | apply below_drew1) | exact HB.out)) hb); clear HB; have HB := n0_; clear n0_; (try clear hb); (try clear hb2); (try clear hk); (try clear hi)) | ((with_reducible refine gate_callee (f := 12) rfl ?_); refine goesL_ (some 26) rfl rfl Tryd.func12 (by kernel_rfl) rfl #[.string (⟨#[1, 2, 15]⟩ : ByteArray)] rfl (by (try simp only [List.map_toArray, List.map_cons, List.map_nil]); first | done | rfl | (simp only [List.length_drop, List.length_take]; rfl)) ?_; (with_reducible refine (nibble_Next.calls k (⟨#[1, 2, 15]⟩ : ByteArray) (⟨#[1, 3]⟩ : ByteArray) true _ A4.out).mono ?_); rintro e w23 ⟨rfl, hb⟩; refine ⟨_, rfl, ?_⟩; have n0_ := Aside0.mk (below_step (by repeat (first | (with_reducible first | exact HB.out | apply below_alloc | apply pw_below_drewN | apply below_drew1) | exact HB.out)) hb); clear HB; have HB := n0_; clear n0_; (try clear hb); (try clear hb2); (try clear hk); (try clear hi)) | ((with_reducible refine gate_callee (f := 12) rfl ?_); refine goesL_ (some 30) rfl rfl Tryd.func12 (by kernel_rfl) rfl #[.string (⟨#[15]⟩ : ByteArray)] rfl (by (try simp only [List.map_toArray, List.map_cons, List.map_nil]); first | done | rfl | (simp only [List.length_drop, List.length_take]; rfl)) ?_; (with_reducible refine (nibble_Next.calls k (⟨#[15]⟩ : ByteArray) t146 false _ A5.out).mono ?_); rintro e w24 ⟨rfl, hb⟩; refine ⟨_, rfl, ?_⟩; have n0_ := Aside0.mk (below_step (by repeat (first | (with_reducible first | exact HB.out | apply below_alloc | apply pw_below_drewN | apply below_drew1) | exact HB.out)) hb); clear HB; have HB := n0_; clear n0_; (try clear hb); (try clear hb2); (try clear hk); (try clear hi)) | ((with_reducible refine gate_callee (f := 10) rfl ?_); refine goesL_ (some 33) rfl rfl Tryd.func10 (by kernel_rfl) rfl #[.string (⟨#[26, 43]⟩ : ByteArray)] rfl (by (try simp only [List.map_toArray, List.map_cons, List.map_nil]); first | done | rfl | (simp only [List.length_drop, List.length_take]; rfl)) ?_; (with_reducible refine (nibble_Of.calls k (⟨#[26, 43]⟩ : ByteArray) (⟨#[1, 10, 2, 11]⟩ : ByteArray) _ A6.out).mono ?_); rintro e w25 ⟨rfl, hb⟩; refine ⟨_, rfl, ?_⟩; have n0_ := Aside0.mk (below_step (by repeat (first | (with_reducible first | exact HB.out | apply below_alloc | apply pw_below_drewN | apply below_drew1) | exact HB.out)) hb); clear HB; have HB := n0_; clear n0_; (try clear hb); (try clear hb2); (try clear hk); (try clear hi)) | (go_at_call 13; (with_reducible refine (nibble_Prefix.calls k (⟨#[97, 98]⟩ : ByteArray) (⟨#[97, 99]⟩ : ByteArray) (1 : Int) _ A17.out).mono ?_); rintro e w' ⟨rfl, ⟨nd, rfl⟩⟩) | (go_at_call 11; (with_reducible refine (nibble_Less.calls (⟨#[97]⟩ : ByteArray) (⟨#[97, 98]⟩ : ByteArray) t150 _ A19.out).mono ?_); rintro e w' ⟨rfl, ⟨nd, rfl⟩⟩))
                        go_ret
                        exact ⟨by first | rfl | (simp [errW_none, errW_some] <;> rfl) | (simp [*, errW_none, errW_some] <;> rfl), by repeat (first | (with_reducible first | exact HB.out | apply below_alloc | apply pw_below_drewN | apply below_drew1) | exact HB.out)⟩
                      · rw [if_neg c18] at H
                        exact absurd H (by simp)
                  · replace c15 := Bool.eq_false_iff.mpr c15
                    subst c15
                    have H1 : (none) = some r := by rw [if_neg (show ¬ (false = true) by decide)] at H; exact H
                    clear H
                    have H := H1
                    clear H1
                    exact absurd H (by simp)
                · rw [if_neg c14] at H
                  exact absurd H (by simp)
              · rw [if_neg c13] at H
                exact absurd H (by simp)
            · replace c12 := Bool.eq_false_iff.mpr c12
              subst c12
              have H1 : (none) = some r := by rw [if_neg (show ¬ (false = true) by decide)] at H; exact H
              clear H
              have H := H1
              clear H1
              exact absurd H (by simp)
          · rw [if_neg c11] at H
            exact absurd H (by simp)
        · rw [if_neg c10] at H
          exact absurd H (by simp)
      · rw [if_neg c9] at H
        exact absurd H (by simp)
    · rw [if_neg c8] at H
      exact absurd H (by simp)
  · rw [if_neg c7] at H
    exact absurd H (by simp)

/-! ### nibble_Bytes: function 17 -/
def nibble_Bytes.f (k : Nat) (a0 : ByteArray) : Option (ByteArray × Bool) := if ((a0.size : Int) % 2) = 0 then ((nibble_Right.f k a0).bind fun t151 => (if t151 = true then ((nibble_join.f k a0).bind fun t152 => (some (t152, true))) else (some ((⟨#[]⟩ : ByteArray), false)))) else (some ((⟨#[]⟩ : ByteArray), false))
theorem nibble_Bytes.mono : ∀ a0 k, LeO (nibble_Bytes.f k a0) (nibble_Bytes.f (k + 1) a0) := by
  intro a0 k
  unfold nibble_Bytes.f
  repeat' first
      | (with_reducible exact nibble_Right.mono _ _)
      | (with_reducible exact nibble_join.mono _ _)
      | (with_reducible exact LeO.refl _)
      | (with_reducible exact LeO.none _)
      | (with_reducible refine LeO.ite ?_ ?_)
      | (with_reducible refine LeO.bind ?_ (fun _ => ?_))
      | exact nibble_Right.mono _ _
      | exact nibble_join.mono _ _
      | exact LeO.none _
      | refine LeO.ite ?_ ?_
      | refine LeO.bind ?_ (fun _ => ?_)
set_option maxHeartbeats 8000000 in
set_option maxRecDepth 100000 in
theorem nibble_Bytes.calls (k : Nat) (a0 : ByteArray) (r1 : ByteArray) (r2 : Bool) (w : World) (h : nibble_Bytes.f k a0 = some (r1, r2)) :
    Calls Tryd.prog 17 #[.string a0] w fun e w' => e = .returned (.tuple #[.string r1, .bool r2]) ∧ Below w.heap.size w w' := by
  have HB := Aside0.mk (Below.refl w.heap.size w)
  have H : (if ((a0.size : Int) % 2) = 0 then ((nibble_Right.f k a0).bind fun t151 => (if t151 = true then ((nibble_join.f k a0).bind fun t152 => (some (t152, true))) else (some ((⟨#[]⟩ : ByteArray), false)))) else (some ((⟨#[]⟩ : ByteArray), false))) = some (r1, r2) := h
  clear h
  by_cases c2 : ((a0.size : Int) % 2) = 0
  · rw [if_pos c2] at H
    have c2b0 : (((a0.size : Int) % 2) == 0) = true := beq_iff_eq.mpr c2
    have c2b1 : (((a0.size : Int) % 2) != 0) = false := bne_eq_false_iff_eq.mpr c2
    clear c2
    replace H := Option.bind_eq_some_iff.mp H
    obtain ⟨t151, A30, H⟩ := H
    replace H : (if t151 = true then ((nibble_join.f k a0).bind fun t152 => (some (t152, true))) else (some ((⟨#[]⟩ : ByteArray), false))) = some (r1, r2) := H
    have A3 := Aside0.mk A30
    clear A30
    by_cases c4 : t151 = true
    · subst c4
      have H1 : ((nibble_join.f k a0).bind fun t152 => (some (t152, true))) = some (r1, r2) := by rw [if_pos rfl] at H; exact H
      clear H
      have H := H1
      clear H1
      replace H := Option.bind_eq_some_iff.mp H
      obtain ⟨t152, A50, H⟩ := H
      replace H : (some (t152, true)) = some (r1, r2) := H
      have A5 := Aside0.mk A50
      clear A50
      simp only [Option.some.injEq, Prod.mk.injEq] at H
      obtain ⟨rfl, rfl⟩ := H
      go_enter Tryd.func17, Tryd.ntmps17
      go_wp2_with (first | (go_at_call 16; (with_reducible refine (nibble_Right.calls k a0 true _ A3.out).mono ?_); rintro e w' ⟨rfl, ⟨nd, rfl⟩⟩) | ((with_reducible refine gate_callee (f := 29) rfl ?_); refine goesL_ (some 14) rfl rfl Tryd.func29 (by kernel_rfl) rfl #[.string a0] rfl (by (try simp only [List.map_toArray, List.map_cons, List.map_nil]); first | done | rfl | (simp only [List.length_drop, List.length_take]; rfl)) ?_; (with_reducible refine (nibble_join.calls k a0 t152 _ A5.out).mono ?_); rintro e w6 ⟨rfl, hb⟩; refine ⟨_, rfl, ?_⟩; have n0_ := Aside0.mk (below_step (by repeat (first | (with_reducible first | exact HB.out | apply below_alloc | apply pw_below_drewN | apply below_drew1) | exact HB.out)) hb); clear HB; have HB := n0_; clear n0_; (try clear hb); (try clear hb2); (try clear hk); (try clear hi)))
      go_ret2
      exact ⟨by first | rfl | (simp [errW_none, errW_some] <;> rfl) | (simp [*, errW_none, errW_some] <;> rfl), by repeat (first | (with_reducible first | exact HB.out | apply below_alloc | apply pw_below_drewN | apply below_drew1) | exact HB.out)⟩
    · replace c4 := Bool.eq_false_iff.mpr c4
      subst c4
      have H1 : (some ((⟨#[]⟩ : ByteArray), false)) = some (r1, r2) := by rw [if_neg (show ¬ (false = true) by decide)] at H; exact H
      clear H
      have H := H1
      clear H1
      simp only [Option.some.injEq, Prod.mk.injEq] at H
      obtain ⟨rfl, rfl⟩ := H
      go_enter Tryd.func17, Tryd.ntmps17
      go_wp2_with (first | (go_at_call 16; (with_reducible refine (nibble_Right.calls k a0 false _ A3.out).mono ?_); rintro e w' ⟨rfl, ⟨nd, rfl⟩⟩))
      go_ret2
      exact ⟨by first | rfl | (simp [errW_none, errW_some] <;> rfl) | (simp [*, errW_none, errW_some] <;> rfl), by repeat (first | (with_reducible first | exact HB.out | apply below_alloc | apply pw_below_drewN | apply below_drew1) | exact HB.out)⟩
  · rw [if_neg c2] at H
    have c2b0 : (((a0.size : Int) % 2) == 0) = false := beq_eq_false_iff_ne.mpr c2
    have c2b1 : (((a0.size : Int) % 2) != 0) = true := bne_iff_ne.mpr c2
    simp only [Option.some.injEq, Prod.mk.injEq] at H
    obtain ⟨rfl, rfl⟩ := H
    go_enter Tryd.func17, Tryd.ntmps17
    go_wp2
    go_ret2
    exact ⟨by first | rfl | (simp [errW_none, errW_some] <;> rfl) | (simp [*, errW_none, errW_some] <;> rfl), by repeat (first | (with_reducible first | exact HB.out | apply below_alloc | apply pw_below_drewN | apply below_drew1) | exact HB.out)⟩

-- NOT PRINTED: function 8 (loesslaw03_NibbleBack)

end Go.Proofs.YtlajpfdmbagedaaDoor.P
