/- What Go functions of the program come to: a Lean function and its contract for each. Written by a program of this session over the kit's printer, some contracts by hand. -/
import Derived.Test.YtkkammncpkgodaaP0
import Derived.Test.YtkkammncpkgodaaP2
import Derived.Test.YtkkammncpkgodaaP4
import Derived.Test.YtkkammncpkgodaaP5
import Derived.Test.YtkkammncpkgodaaP7
import Derived.Test.YtkkammncpkgodaaP8
namespace Go.Proofs.Ytkkammncpkgodaa.P
open Go.RowKit Go.Proofs.YtkkammncpkgodaaW.PrintWords Go.Proofs.YtkkammncpkgodaaW.PrintLast Go.Proofs.YtkkammncpkgodaaW.PrintMore
attribute [local go_sem] max2_int min2_int max_two min_two max_three min_three max_four min_four   -- for this text's walks alone
set_option linter.unusedVariables false
set_option linter.unusedSimpArgs false

/-! ### loesslaw02_RlpCuts: function 6 -/
mutual
def loesslaw02_RlpCuts.j0 : Nat → ByteArray → Int → ByteArray → Bool → Option (Bool)
  | 0, _, _, _, _ => none
  | k + 1, x0, x1, x2, x7 => if (x2.size : Int) > 400 then (if 0 ≤ 400 then (if 400 ≤ (x2.size : Int) then (loesslaw02_RlpCuts.j1 k x0 x1 (x2.extract 0 400) x7) else (none)) else (none)) else (loesslaw02_RlpCuts.j1 k x0 x1 x2 x7)
def loesslaw02_RlpCuts.j1 : Nat → ByteArray → Int → ByteArray → Bool → Option (Bool)
  | 0, _, _, _, _ => none
  | k + 1, x0, x1, x2, x7 => (rlp_Bytes.f k x0).bind fun t151 => ((rlp_List.f k (([t151] : List ByteArray))).bind fun t155 => (if (t155.size : Int) = 0 then (none) else (if x1 < 0 then (loesslaw02_RlpCuts.j2 k x0 x2 x7 t155 (wrap64 (-(wrap64 (x1 + 1))))) else (loesslaw02_RlpCuts.j2 k x0 x2 x7 t155 x1))))
def loesslaw02_RlpCuts.j2 : Nat → ByteArray → ByteArray → Bool → ByteArray → Int → Option (Bool)
  | 0, _, _, _, _, _ => none
  | k + 1, x0, x2, x7, x8, x9 => if (x8.size : Int) = 0 then (none) else (if 0 ≤ (Int.tmod x9 (x8.size : Int)) then (if (Int.tmod x9 (x8.size : Int)) ≤ (x8.size : Int) then ((rlp_Decode.f k (x8.extract 0 ((Int.tmod x9 (x8.size : Int)) : Int).toNat)).bind fun bt156 => (if x8.size + x2.size ≤ 9223372036854775807 then ((rlp_Decode.f k (x8 ++ x2)).bind fun bt163 => ((rlp_Split.f k (x8 ++ x2)).bind fun bt170 => (if x7 = true then (if bt156.2.2.2 = 10 then (if ((bt163.2.2.2 == 0) == (x2.toList == ([] : List UInt8))) = true then (if bt170.2.2.2 = 0 then (if bt170.2.1 = true then ((rlp_Bytes.f k x0).bind fun t174 => (if bt170.1.toList = t174.toList then (some (bt170.2.2.1.toList == x2.toList)) else (none))) else (none)) else (none)) else (none)) else (none)) else (none)))) else (none))) else (none)) else (none))
end
def loesslaw02_RlpCuts.f (k : Nat) (a0 : ByteArray) (a1 : Int) (a2 : ByteArray) : Option (Bool) := (loesslaw02_awake.f).bind fun t150 => (if (a0.size : Int) > 400 then (if 0 ≤ 400 then (if 400 ≤ (a0.size : Int) then (loesslaw02_RlpCuts.j0 k (a0.extract 0 400) a1 a2 t150) else (none)) else (none)) else (loesslaw02_RlpCuts.j0 k a0 a1 a2 t150))
theorem loesslaw02_RlpCuts.mono_l : ∀ k, (∀ y0 y1 y2 y3, LeO (loesslaw02_RlpCuts.j0 k y0 y1 y2 y3) (loesslaw02_RlpCuts.j0 (k + 1) y0 y1 y2 y3)) ∧ (∀ y0 y1 y2 y3, LeO (loesslaw02_RlpCuts.j1 k y0 y1 y2 y3) (loesslaw02_RlpCuts.j1 (k + 1) y0 y1 y2 y3)) ∧ (∀ y0 y1 y2 y3 y4, LeO (loesslaw02_RlpCuts.j2 k y0 y1 y2 y3 y4) (loesslaw02_RlpCuts.j2 (k + 1) y0 y1 y2 y3 y4))
  | 0 => ⟨fun _ _ _ _ r h => by simp [loesslaw02_RlpCuts.j0] at h, fun _ _ _ _ r h => by simp [loesslaw02_RlpCuts.j1] at h, fun _ _ _ _ _ r h => by simp [loesslaw02_RlpCuts.j2] at h⟩
  | k + 1 => by
    obtain ⟨ih0, ih1, ih2⟩ := loesslaw02_RlpCuts.mono_l k
    refine ⟨?_, ?_, ?_⟩
    · intro y0 y1 y2 y3
      unfold loesslaw02_RlpCuts.j0
      repeat' first
      | (with_reducible exact ih0 _ _ _ _)
      | (with_reducible exact ih1 _ _ _ _)
      | (with_reducible exact ih2 _ _ _ _ _)
      | (with_reducible exact rlp_Bytes.mono _ _)
      | (with_reducible exact rlp_Decode.mono _ _)
      | (with_reducible exact rlp_List.mono _ _)
      | (with_reducible exact rlp_Split.mono _ _)
      | (with_reducible exact LeO.refl _)
      | (with_reducible exact LeO.none _)
      | (with_reducible refine LeO.ite ?_ ?_)
      | (with_reducible refine LeO.bind ?_ (fun _ => ?_))
      | exact ih0 _ _ _ _
      | exact ih1 _ _ _ _
      | exact ih2 _ _ _ _ _
      | exact rlp_Bytes.mono _ _
      | exact rlp_Decode.mono _ _
      | exact rlp_List.mono _ _
      | exact rlp_Split.mono _ _
      | exact LeO.none _
      | refine LeO.ite ?_ ?_
      | refine LeO.bind ?_ (fun _ => ?_)
    · intro y0 y1 y2 y3
      unfold loesslaw02_RlpCuts.j1
      repeat' first
      | (with_reducible exact ih0 _ _ _ _)
      | (with_reducible exact ih1 _ _ _ _)
      | (with_reducible exact ih2 _ _ _ _ _)
      | (with_reducible exact rlp_Bytes.mono _ _)
      | (with_reducible exact rlp_Decode.mono _ _)
      | (with_reducible exact rlp_List.mono _ _)
      | (with_reducible exact rlp_Split.mono _ _)
      | (with_reducible exact LeO.refl _)
      | (with_reducible exact LeO.none _)
      | (with_reducible refine LeO.ite ?_ ?_)
      | (with_reducible refine LeO.bind ?_ (fun _ => ?_))
      | exact ih0 _ _ _ _
      | exact ih1 _ _ _ _
      | exact ih2 _ _ _ _ _
      | exact rlp_Bytes.mono _ _
      | exact rlp_Decode.mono _ _
      | exact rlp_List.mono _ _
      | exact rlp_Split.mono _ _
      | exact LeO.none _
      | refine LeO.ite ?_ ?_
      | refine LeO.bind ?_ (fun _ => ?_)
    · intro y0 y1 y2 y3 y4
      unfold loesslaw02_RlpCuts.j2
      repeat' first
      | (with_reducible exact ih0 _ _ _ _)
      | (with_reducible exact ih1 _ _ _ _)
      | (with_reducible exact ih2 _ _ _ _ _)
      | (with_reducible exact rlp_Bytes.mono _ _)
      | (with_reducible exact rlp_Decode.mono _ _)
      | (with_reducible exact rlp_List.mono _ _)
      | (with_reducible exact rlp_Split.mono _ _)
      | (with_reducible exact LeO.refl _)
      | (with_reducible exact LeO.none _)
      | (with_reducible refine LeO.ite ?_ ?_)
      | (with_reducible refine LeO.bind ?_ (fun _ => ?_))
      | exact ih0 _ _ _ _
      | exact ih1 _ _ _ _
      | exact ih2 _ _ _ _ _
      | exact rlp_Bytes.mono _ _
      | exact rlp_Decode.mono _ _
      | exact rlp_List.mono _ _
      | exact rlp_Split.mono _ _
      | exact LeO.none _
      | refine LeO.ite ?_ ?_
      | refine LeO.bind ?_ (fun _ => ?_)
theorem loesslaw02_RlpCuts.mono : ∀ a0 a1 a2 k, LeO (loesslaw02_RlpCuts.f k a0 a1 a2) (loesslaw02_RlpCuts.f (k + 1) a0 a1 a2) := by
  intro a0 a1 a2 k
  obtain ⟨ih0, ih1, ih2⟩ := loesslaw02_RlpCuts.mono_l k
  unfold loesslaw02_RlpCuts.f
  repeat' first
      | (with_reducible exact ih0 _ _ _ _)
      | (with_reducible exact ih1 _ _ _ _)
      | (with_reducible exact ih2 _ _ _ _ _)
      | (with_reducible exact rlp_Bytes.mono _ _)
      | (with_reducible exact rlp_Decode.mono _ _)
      | (with_reducible exact rlp_List.mono _ _)
      | (with_reducible exact rlp_Split.mono _ _)
      | (with_reducible exact LeO.refl _)
      | (with_reducible exact LeO.none _)
      | (with_reducible refine LeO.ite ?_ ?_)
      | (with_reducible refine LeO.bind ?_ (fun _ => ?_))
      | exact ih0 _ _ _ _
      | exact ih1 _ _ _ _
      | exact ih2 _ _ _ _ _
      | exact rlp_Bytes.mono _ _
      | exact rlp_Decode.mono _ _
      | exact rlp_List.mono _ _
      | exact rlp_Split.mono _ _
      | exact LeO.none _
      | refine LeO.ite ?_ ?_
      | refine LeO.bind ?_ (fun _ => ?_)
set_option maxHeartbeats 8000000 in
set_option maxRecDepth 100000 in
theorem loesslaw02_RlpCuts.calls (k : Nat) (a0 : ByteArray) (a1 : Int) (a2 : ByteArray) (r : Bool) (w : World) (h : loesslaw02_RlpCuts.f k a0 a1 a2 = some r) :
    Calls Try.prog 6 #[.string a0, .int .i64 a1, .string a2] w fun e w' => e = .returned (.bool r) ∧ Below w.heap.size w w' := by
  have hu25 := Try.underlying25
  have HB := Aside0.mk (Below.refl w.heap.size w)
  have H : ((loesslaw02_awake.f).bind fun t150 => (if (a0.size : Int) > 400 then (if 0 ≤ 400 then (if 400 ≤ (a0.size : Int) then (loesslaw02_RlpCuts.j0 k (a0.extract 0 400) a1 a2 t150) else (none)) else (none)) else (loesslaw02_RlpCuts.j0 k a0 a1 a2 t150))) = some r := h
  clear h
  replace H := Option.bind_eq_some_iff.mp H
  obtain ⟨t150, A40, H⟩ := H
  replace H : (if (a0.size : Int) > 400 then (if 0 ≤ 400 then (if 400 ≤ (a0.size : Int) then (loesslaw02_RlpCuts.j0 k (a0.extract 0 400) a1 a2 t150) else (none)) else (none)) else (loesslaw02_RlpCuts.j0 k a0 a1 a2 t150)) = some r := H
  have A4 := Aside0.mk A40
  clear A40
  have HC5 := Aside0.mk H
  clear H
  go_enter Try.func6, Try.ntmps6
  go_upto_if 21 with (first | ((with_reducible refine gate_callee (f := 9) rfl ?_); refine goesL_ (some 18) rfl rfl Try.func9 (by kernel_rfl) rfl #[] rfl (by (try simp only [List.map_toArray, List.map_cons, List.map_nil]); first | done | rfl | (simp only [List.length_drop, List.length_take]; rfl)) ?_; (with_reducible refine (loesslaw02_awake.calls  t150 _ A4.out).mono ?_); rintro e w6 ⟨rfl, hb⟩; refine ⟨_, rfl, ?_⟩; have n0_ := Aside0.mk (below_step (by repeat (first | (with_reducible first | exact HB.out | apply below_alloc | apply pw_below_drewN | apply below_drew1) | exact HB.out)) hb); clear HB; have HB := n0_; clear n0_; (try clear hb); (try clear hb2); (try clear hk); (try clear hi)))
  (try simp only [Act.put, List.setIfInBounds_toArray, List.set_cons_zero, List.set_cons_succ])
  go_cut [0] (fun v0 wc => ∃ (kq : Nat) (x0_4 : ByteArray), v0 = .string x0_4 ∧ Aside0 (loesslaw02_RlpCuts.j0 kq x0_4 a1 a2 t150 = some r) ∧ Aside0 (kq ≤ k) ∧ Aside0 (Below w.heap.size w wc))
  case first =>
    have H := HC5.out
    clear HC5
    by_cases c7 : (a0.size : Int) > 400
    · rw [if_pos c7] at H
      have c7b0 : decide (400 < (a0.size : Int)) = true := decide_eq_true c7
      have c7b1 : decide (400 < a0.size) = true := decide_eq_true (by omega)
      clear c7
      (first | rw [c7b0] | (simp only [i64_w, i32_w]; rw [c7b0]) | skip)
      by_cases c8 : 0 ≤ 400
      · rw [if_pos c8] at H
        have c8b0 := eq_true c8
        have c8b1 : decide (0 ≤ 400) = true := decide_eq_true c8
        clear c8
        by_cases c9 : 400 ≤ (a0.size : Int)
        · rw [if_pos c9] at H
          have c9b0 := eq_true c9
          have c9b1 : decide (400 ≤ (a0.size : Int)) = true := decide_eq_true c9
          clear c9
          have H' := Aside0.mk H
          clear H
          go_wp2
          go_meet
          case rel => exact ⟨_, (a0.extract 0 400), (by first | rfl | (simp; done) | (simp [*]; done)), H', ⟨by first | omega | exact Nat.le_refl _⟩, ⟨by repeat (first | (with_reducible first | exact HB.out | apply below_alloc | apply pw_below_drewN | apply below_drew1) | exact HB.out)⟩⟩
        · rw [if_neg c9] at H
          exact absurd H (by simp)
      · rw [if_neg c8] at H
        exact absurd H (by simp)
    · rw [if_neg c7] at H
      have c7b0 : decide (400 < (a0.size : Int)) = false := decide_eq_false c7
      have c7b1 : decide (400 < a0.size) = false := decide_eq_false (by omega)
      clear c7
      (first | rw [c7b0] | (simp only [i64_w, i32_w]; rw [c7b0]) | skip)
      have H' := Aside0.mk H
      clear H
      go_wp2
      go_meet
      case rel => exact ⟨_, (a0), (by first | rfl | (simp; done) | (simp [*]; done)), H', ⟨by first | omega | exact Nat.le_refl _⟩, ⟨by repeat (first | (with_reducible first | exact HB.out | apply below_alloc | apply pw_below_drewN | apply below_drew1) | exact HB.out)⟩⟩
  case rest =>
    clear HC5
    try clear p2
    try clear c6
    try clear c7
    try clear c7b0
    try clear c7b1
    try clear c8
    try clear c8b0
    try clear c8b1
    try clear c9
    try clear c9b0
    try clear c9b1
    obtain ⟨kq, x0_4, rfl, HA, HJ4, HB⟩ := hcut
    cases kq with
    | zero => exact absurd HA.out (by simp [loesslaw02_RlpCuts.j0])
    | succ kj4 =>
      have H := HA.out
      clear HA
      simp only [loesslaw02_RlpCuts.j0] at H
      have HC10 := Aside0.mk H
      clear H
      go_upto_if 26 with (fail)
      go_cut [2] (fun v2 wc => ∃ (kq : Nat) (x2_9 : ByteArray), v2 = .string x2_9 ∧ Aside0 (loesslaw02_RlpCuts.j1 kq x0_4 a1 x2_9 t150 = some r) ∧ Aside0 (kq ≤ kj4) ∧ Aside0 (Below w.heap.size w wc))
      case first =>
        have H := HC10.out
        clear HC10
        by_cases c11 : (a2.size : Int) > 400
        · rw [if_pos c11] at H
          have c11b0 : decide (400 < (a2.size : Int)) = true := decide_eq_true c11
          have c11b1 : decide (400 < a2.size) = true := decide_eq_true (by omega)
          clear c11
          (first | rw [c11b0] | (simp only [i64_w, i32_w]; rw [c11b0]) | skip)
          by_cases c12 : 0 ≤ 400
          · rw [if_pos c12] at H
            have c12b0 := eq_true c12
            have c12b1 : decide (0 ≤ 400) = true := decide_eq_true c12
            clear c12
            by_cases c13 : 400 ≤ (a2.size : Int)
            · rw [if_pos c13] at H
              have c13b0 := eq_true c13
              have c13b1 : decide (400 ≤ (a2.size : Int)) = true := decide_eq_true c13
              clear c13
              have H' := Aside0.mk H
              clear H
              go_wp2
              go_meet
              case rel => exact ⟨_, (a2.extract 0 400), (by first | rfl | (simp; done) | (simp [*]; done)), H', ⟨by have := HJ4.out; first | omega | exact Nat.le_refl _⟩, ⟨by repeat (first | (with_reducible first | exact HB.out | apply below_alloc | apply pw_below_drewN | apply below_drew1) | exact HB.out)⟩⟩
            · rw [if_neg c13] at H
              exact absurd H (by simp)
          · rw [if_neg c12] at H
            exact absurd H (by simp)
        · rw [if_neg c11] at H
          have c11b0 : decide (400 < (a2.size : Int)) = false := decide_eq_false c11
          have c11b1 : decide (400 < a2.size) = false := decide_eq_false (by omega)
          clear c11
          (first | rw [c11b0] | (simp only [i64_w, i32_w]; rw [c11b0]) | skip)
          have H' := Aside0.mk H
          clear H
          go_wp2
          go_meet
          case rel => exact ⟨_, (a2), (by first | rfl | (simp; done) | (simp [*]; done)), H', ⟨by have := HJ4.out; first | omega | exact Nat.le_refl _⟩, ⟨by repeat (first | (with_reducible first | exact HB.out | apply below_alloc | apply pw_below_drewN | apply below_drew1) | exact HB.out)⟩⟩
      case rest =>
        clear HC10
        try clear c1
        try clear p2
        try clear c6
        try clear c7
        try clear c7b0
        try clear c7b1
        try clear c8
        try clear c8b0
        try clear c8b1
        try clear c9
        try clear c9b0
        try clear c9b1
        try clear c11
        try clear c11b0
        try clear c11b1
        try clear c12
        try clear c12b0
        try clear c12b1
        try clear c13
        try clear c13b0
        try clear c13b1
        try clear p2
        obtain ⟨kq, x2_9, rfl, HA, HJ9, HB⟩ := hcut
        cases kq with
        | zero => exact absurd HA.out (by simp [loesslaw02_RlpCuts.j1])
        | succ kj9 =>
          have H := HA.out
          clear HA
          simp only [loesslaw02_RlpCuts.j1] at H
          replace H := Option.bind_eq_some_iff.mp H
          obtain ⟨t151, A140, H⟩ := H
          replace H : ((rlp_List.f kj9 (([t151] : List ByteArray))).bind fun t155 => (if (t155.size : Int) = 0 then (none) else (if a1 < 0 then (loesslaw02_RlpCuts.j2 kj9 x0_4 x2_9 t150 t155 (wrap64 (-(wrap64 (a1 + 1))))) else (loesslaw02_RlpCuts.j2 kj9 x0_4 x2_9 t150 t155 a1)))) = some r := H
          have A14 := Aside0.mk A140
          clear A140
          obtain ⟨y152, hy152⟩ : ∃ y_ : List ByteArray, y_ = (([t151] : List ByteArray)) := ⟨_, rfl⟩
          replace H : ((rlp_List.f kj9 y152).bind fun t155 => (if (t155.size : Int) = 0 then (none) else (if a1 < 0 then (loesslaw02_RlpCuts.j2 kj9 x0_4 x2_9 t150 t155 (wrap64 (-(wrap64 (a1 + 1))))) else (loesslaw02_RlpCuts.j2 kj9 x0_4 x2_9 t150 t155 a1)))) = some r := by first | (rw [hy152]; with_reducible exact H) | (have H2_ := (Option.bind_some _ _).symm.trans H; rw [hy152]; with_reducible exact H2_) | (have H2_ := (Option.bind_some _ _).symm.trans H; with_reducible exact H2_) | with_reducible exact H | (rw [hy152]; exact H) | exact H
          have Ny152 := Aside0.mk hy152
          clear hy152
          replace H := Option.bind_eq_some_iff.mp H
          obtain ⟨t155, A150, H⟩ := H
          replace H : (if (t155.size : Int) = 0 then (none) else (if a1 < 0 then (loesslaw02_RlpCuts.j2 kj9 x0_4 x2_9 t150 t155 (wrap64 (-(wrap64 (a1 + 1))))) else (loesslaw02_RlpCuts.j2 kj9 x0_4 x2_9 t150 t155 a1))) = some r := H
          have A15 := Aside0.mk A150
          clear A150
          by_cases c16 : (t155.size : Int) = 0
          · rw [if_pos c16] at H
            exact absurd H (by simp)
          · rw [if_neg c16] at H
            have c16b0 : ((t155.size : Int) == 0) = false := beq_eq_false_iff_ne.mpr c16
            have c16b1 : ((t155.size : Int) != 0) = true := bne_iff_ne.mpr c16
            have HC17 := Aside0.mk H
            clear H
            go_upto_if 38 with (first | ((with_reducible refine gate_callee (f := 19) rfl ?_); refine goesL_ (some 30) rfl rfl Try.func19 (by kernel_rfl) rfl #[.string x0_4] rfl (by (try simp only [List.map_toArray, List.map_cons, List.map_nil]); first | done | rfl | (simp only [List.length_drop, List.length_take]; rfl)) ?_; (with_reducible refine (rlp_Bytes.calls kj9 x0_4 t151 _ A14.out).mono ?_); rintro e w18 ⟨rfl, hb⟩; refine ⟨_, rfl, ?_⟩; have n0_ := Aside0.mk (below_step (by repeat (first | (with_reducible first | exact HB.out | apply below_alloc | apply pw_below_drewN | apply below_drew1) | exact HB.out)) hb); clear HB; have HB := n0_; clear n0_; (try clear hb); (try clear hb2); (try clear hk); (try clear hi)) | ((with_reducible refine gate_dst (N := 31) rfl ?_); refine Kd.R_lit Kd.string _ 9 ?hg (N := 31) ?hd (xs := ([t151] : List ByteArray)) (inner := [.string t151]) (ok := fun _ => True) (okp := fun _ => True) ?hr ?hp (fun _ hk => hk) trivial (Below.refl _ _) (Nat.le_refl _) (by simp) ?_; (case hd => rfl); (case hg => rfl); (case hr => first | (go_simp; done) | (go_simp; rfl)); (case hp => exact (Reps.one (show Kd.M Kd.string _ _ _ t151 [.string t151] from rfl) (Reps.none _ _))); intro v153 w19 ho20 hb hg_ hnew_; clear hg_ hnew_; (first | rw [← Ny152.out] at ho20 | (simp only [Int.reduceToNat] at ho20; rw [← Ny152.out] at ho20)); have n0_ := Aside0.mk (Kd.R_lower ho20 (below_size (by repeat (first | (with_reducible first | exact HB.out | apply below_alloc | apply pw_below_drewN | apply below_drew1) | exact HB.out)))); have n1_ := Aside0.mk (below_step (by repeat (first | (with_reducible first | exact HB.out | apply below_alloc | apply pw_below_drewN | apply below_drew1) | exact HB.out)) hb); clear HB; have HO154 := n0_; have HB := n1_; clear n0_ n1_; clear hb ho20; obtain ⟨Ao21, co21, eo21⟩ := Kd.R_slice HO154.out; subst eo21) | ((with_reducible refine gate_callee (f := 20) rfl ?_); refine goesL_ (some 32) rfl rfl Try.func20 (by kernel_rfl) rfl #[.slice Ao21 y152.length co21] rfl (by (try simp only [List.map_toArray, List.map_cons, List.map_nil]); first | done | rfl | (simp only [List.length_drop, List.length_take]; rfl)) ?_; (with_reducible refine (rlp_List.calls kj9 _ _ y152 t155 _ ?side1 ?side2 A15.out).mono ?_); (case side1 => repeat (first | exact (Kd.R_reads' HO154.out).2.2 | (with_reducible refine Kd.C_alloc ?_ _) | (with_reducible refine Kd.C_drewN ?_ _) | (with_reducible refine Kd.C_drew ?_))); (case side2 => exact (Kd.R_reads' HO154.out).2.1); rintro e w22 ⟨rfl, hb⟩; refine ⟨_, rfl, ?_⟩; have n0_ := Aside0.mk (Kd.R_below (by (with_reducible repeat (first | apply Kd.R_alloc | apply Kd.R_drewN | apply Kd.R_drew)); exact HO154.out) hb); have n1_ := Aside0.mk (below_step (by repeat (first | (with_reducible first | exact HB.out | apply below_alloc | apply pw_below_drewN | apply below_drew1) | exact HB.out)) hb); clear HO154; clear HB; have HO154 := n0_; have HB := n1_; clear n0_ n1_; (try clear hb); (try clear hb2); (try clear hk); (try clear hi)))
            (try simp only [Act.put, List.setIfInBounds_toArray, List.set_cons_zero, List.set_cons_succ])
            go_cut [9] (fun v9 wc => ∃ (kq : Nat) (x9_16 : Int), v9 = .int .i64 x9_16 ∧ Aside0 (loesslaw02_RlpCuts.j2 kq x0_4 x2_9 t150 t155 x9_16 = some r) ∧ Aside0 (kq ≤ kj9) ∧ Aside0 (Below w.heap.size w wc))
            case first =>
              have H := HC17.out
              clear HC17
              by_cases c23 : a1 < 0
              · rw [if_pos c23] at H
                have c23b0 : decide (a1 < 0) = true := decide_eq_true c23
                clear c23
                (first | rw [c23b0] | (simp only [i64_w, i32_w]; rw [c23b0]) | skip)
                have H' := Aside0.mk H
                clear H
                go_wp2
                go_meet
                case rel => exact ⟨_, (wrap64 (-(wrap64 (a1 + 1)))), (by first | rfl | (simp; done) | (simp [*]; done)), H', ⟨by have := HJ4.out; have := HJ9.out; first | omega | exact Nat.le_refl _⟩, ⟨by repeat (first | (with_reducible first | exact HB.out | apply below_alloc | apply pw_below_drewN | apply below_drew1) | exact HB.out)⟩⟩
              · rw [if_neg c23] at H
                have c23b0 : decide (a1 < 0) = false := decide_eq_false c23
                clear c23
                (first | rw [c23b0] | (simp only [i64_w, i32_w]; rw [c23b0]) | skip)
                have H' := Aside0.mk H
                clear H
                go_wp2
                go_meet
                case rel => exact ⟨_, (a1), (by first | rfl | (simp; done) | (simp [*]; done)), H', ⟨by have := HJ4.out; have := HJ9.out; first | omega | exact Nat.le_refl _⟩, ⟨by repeat (first | (with_reducible first | exact HB.out | apply below_alloc | apply pw_below_drewN | apply below_drew1) | exact HB.out)⟩⟩
            case rest =>
              clear HC17
              try clear c1
              try clear c2
              try clear p2
              try clear c6
              try clear p6
              try clear c7
              try clear c7b0
              try clear c7b1
              try clear c8
              try clear c8b0
              try clear c8b1
              try clear c9
              try clear c9b0
              try clear c9b1
              try clear c11
              try clear c11b0
              try clear c11b1
              try clear c12
              try clear c12b0
              try clear c12b1
              try clear c13
              try clear c13b0
              try clear c13b1
              try clear c16
              try clear c16b0
              try clear c16b1
              try clear c19
              try clear c20
              try clear c23
              try clear c23b0
              try clear p2
              obtain ⟨kq, x9_16, rfl, HA, HJ16, HB⟩ := hcut
              cases kq with
              | zero => exact absurd HA.out (by simp [loesslaw02_RlpCuts.j2])
              | succ kj16 =>
                have H := HA.out
                clear HA
                simp only [loesslaw02_RlpCuts.j2] at H
                by_cases c24 : (t155.size : Int) = 0
                · rw [if_pos c24] at H
                  exact absurd H (by simp)
                · rw [if_neg c24] at H
                  have c24b0 : ((t155.size : Int) == 0) = false := beq_eq_false_iff_ne.mpr c24
                  have c24b1 : ((t155.size : Int) != 0) = true := bne_iff_ne.mpr c24
                  obtain ⟨ji25, hji25⟩ : ∃ j_ : Int, (Int.tmod x9_16 (t155.size : Int)) = j_ := ⟨_, rfl⟩
                  replace H : (if 0 ≤ (ji25) then (if (ji25) ≤ (t155.size : Int) then ((rlp_Decode.f kj16 (t155.extract 0 ((ji25) : Int).toNat)).bind fun bt156 => (if t155.size + x2_9.size ≤ 9223372036854775807 then ((rlp_Decode.f kj16 (t155 ++ x2_9)).bind fun bt163 => ((rlp_Split.f kj16 (t155 ++ x2_9)).bind fun bt170 => (if t150 = true then (if bt156.2.2.2 = 10 then (if ((bt163.2.2.2 == 0) == (x2_9.toList == ([] : List UInt8))) = true then (if bt170.2.2.2 = 0 then (if bt170.2.1 = true then ((rlp_Bytes.f kj16 x0_4).bind fun t174 => (if bt170.1.toList = t174.toList then (some (bt170.2.2.1.toList == x2_9.toList)) else (none))) else (none)) else (none)) else (none)) else (none)) else (none)))) else (none))) else (none)) else (none)) = some r := by first | (rw [hji25] at H; exact H) | (simp only [hji25] at H ⊢; exact H)
                  by_cases c26 : 0 ≤ (ji25)
                  · rw [if_pos c26] at H
                    have c26b0 := eq_true c26
                    have c26b1 : decide (0 ≤ (ji25)) = true := decide_eq_true c26
                    clear c26
                    by_cases c27 : (ji25) ≤ (t155.size : Int)
                    · rw [if_pos c27] at H
                      have c27b0 := eq_true c27
                      have c27b1 : decide ((ji25) ≤ (t155.size : Int)) = true := decide_eq_true c27
                      clear c27
                      replace H := Option.bind_eq_some_iff.mp H
                      obtain ⟨⟨t156, t157, t158, t161⟩, A280, H⟩ := H
                      replace H : (if t155.size + x2_9.size ≤ 9223372036854775807 then ((rlp_Decode.f kj16 (t155 ++ x2_9)).bind fun bt163 => ((rlp_Split.f kj16 (t155 ++ x2_9)).bind fun bt170 => (if t150 = true then (if t161 = 10 then (if ((bt163.2.2.2 == 0) == (x2_9.toList == ([] : List UInt8))) = true then (if bt170.2.2.2 = 0 then (if bt170.2.1 = true then ((rlp_Bytes.f kj16 x0_4).bind fun t174 => (if bt170.1.toList = t174.toList then (some (bt170.2.2.1.toList == x2_9.toList)) else (none))) else (none)) else (none)) else (none)) else (none)) else (none)))) else (none)) = some r := H
                      have A28 := Aside0.mk A280
                      clear A280
                      by_cases c29 : t155.size + x2_9.size ≤ 9223372036854775807
                      · rw [if_pos c29] at H
                        have c29b0 := eq_true c29
                        have c29b1 : decide (t155.size + x2_9.size ≤ 9223372036854775807) = true := decide_eq_true c29
                        try have c29b2 : (9223372036854775807 < t155.size + x2_9.size) = False := eq_false (Nat.not_lt.2 c29)
                        replace H := Option.bind_eq_some_iff.mp H
                        obtain ⟨⟨t163, t164, t165, t168⟩, A300, H⟩ := H
                        replace H : ((rlp_Split.f kj16 (t155 ++ x2_9)).bind fun bt170 => (if t150 = true then (if t161 = 10 then (if ((t168 == 0) == (x2_9.toList == ([] : List UInt8))) = true then (if bt170.2.2.2 = 0 then (if bt170.2.1 = true then ((rlp_Bytes.f kj16 x0_4).bind fun t174 => (if bt170.1.toList = t174.toList then (some (bt170.2.2.1.toList == x2_9.toList)) else (none))) else (none)) else (none)) else (none)) else (none)) else (none))) = some r := H
                        have A30 := Aside0.mk A300
                        clear A300
                        replace H := Option.bind_eq_some_iff.mp H
                        obtain ⟨⟨t170, t171, t172, t173⟩, A310, H⟩ := H
                        replace H : (if t150 = true then (if t161 = 10 then (if ((t168 == 0) == (x2_9.toList == ([] : List UInt8))) = true then (if t173 = 0 then (if t171 = true then ((rlp_Bytes.f kj16 x0_4).bind fun t174 => (if t170.toList = t174.toList then (some (t172.toList == x2_9.toList)) else (none))) else (none)) else (none)) else (none)) else (none)) else (none)) = some r := H
                        have A31 := Aside0.mk A310
                        clear A310
                        by_cases c32 : t150 = true
                        · subst c32
                          have H1 : (if t161 = 10 then (if ((t168 == 0) == (x2_9.toList == ([] : List UInt8))) = true then (if t173 = 0 then (if t171 = true then ((rlp_Bytes.f kj16 x0_4).bind fun t174 => (if t170.toList = t174.toList then (some (t172.toList == x2_9.toList)) else (none))) else (none)) else (none)) else (none)) else (none)) = some r := by rw [if_pos rfl] at H; exact H
                          clear H
                          have H := H1
                          clear H1
                          by_cases c33 : t161 = 10
                          · rw [if_pos c33] at H
                            have c33b0 : (t161 == 10) = true := beq_iff_eq.mpr c33
                            have c33b1 : (t161 != 10) = false := bne_eq_false_iff_eq.mpr c33
                            clear c33
                            by_cases c34 : ((t168 == 0) == (x2_9.toList == ([] : List UInt8))) = true
                            · rw [if_pos c34] at H
                              have c34b0 : ((t168 == 0) == (x2_9.toList == ([] : List UInt8))) = true := c34
                              (try (have c34b1 : decide ((t168 == 0) = (x2_9.toList == ([] : List UInt8))) = true := by simpa using c34))
                              (try (have c34b2 : ((t168 == 0) == (x2_9.toList == ([] : List UInt8))) = true := by simpa using c34))
                              (try (have c34b3 : (t168 == 0) = x2_9.toList.isEmpty := by simpa using c34))
                              clear c34
                              by_cases c35 : t173 = 0
                              · rw [if_pos c35] at H
                                have c35b0 : (t173 == 0) = true := beq_iff_eq.mpr c35
                                have c35b1 : (t173 != 0) = false := bne_eq_false_iff_eq.mpr c35
                                clear c35
                                by_cases c36 : t171 = true
                                · subst c36
                                  have H1 : ((rlp_Bytes.f kj16 x0_4).bind fun t174 => (if t170.toList = t174.toList then (some (t172.toList == x2_9.toList)) else (none))) = some r := by rw [if_pos rfl] at H; exact H
                                  clear H
                                  have H := H1
                                  clear H1
                                  replace H := Option.bind_eq_some_iff.mp H
                                  obtain ⟨t174, A370, H⟩ := H
                                  replace H : (if t170.toList = t174.toList then (some (t172.toList == x2_9.toList)) else (none)) = some r := H
                                  have A37 := Aside0.mk A370
                                  clear A370
                                  by_cases c38 : t170.toList = t174.toList
                                  · rw [if_pos c38] at H
                                    have c38b0 : (t170.toList == t174.toList) = true := beq_iff_eq.mpr c38
                                    have c38b1 : (t170.toList != t174.toList) = false := bne_eq_false_iff_eq.mpr c38
                                    clear c38
                                    obtain rfl := Option.some.inj H
                                    go_wp2_with (first | ((with_reducible refine gate_callee (f := 10) rfl ?_); refine goesL_ (some 50) rfl rfl Try.func10 (by kernel_rfl) rfl #[.string (t155.extract 0 ((ji25) : Int).toNat)] rfl (by (try simp only [List.map_toArray, List.map_cons, List.map_nil]); first | done | (simp only [hji25]; rfl) | rfl | (simp only [List.length_drop, List.length_take]; rfl)) ?_; (with_reducible refine (rlp_Decode.calls kj16 (t155.extract 0 ((ji25) : Int).toNat) t156 t157 t158 t161 _ A28.out).mono ?_); rintro e w39 ⟨v159, rfl, ho0, hb⟩; refine ⟨_, rfl, ?_⟩; have n0_ := Aside0.mk (Kd.R_lower ho0 (below_size (by repeat (first | (with_reducible first | exact HB.out | apply below_alloc | apply pw_below_drewN | apply below_drew1) | exact HB.out)))); have n1_ := Aside0.mk (below_step (by repeat (first | (with_reducible first | exact HB.out | apply below_alloc | apply pw_below_drewN | apply below_drew1) | exact HB.out)) hb); clear HB; have HO160 := n0_; have HB := n1_; clear n0_ n1_; (try clear hb); (try clear hb2); (try clear hk); (try clear hi); (try clear ho0)) | ((with_reducible refine gate_dst (N := 10) rfl ?_); refine box_event ?hg (N := 10) ?hd (cs := #[.bool false, .string (⟨#[]⟩ : ByteArray), .slice none 0 0]) (t := 25) ?hr ?_; (case hd => rfl); (case hg => rfl); (case hr => first | (go_simp; done) | (go_simp; rfl)); intro gb162 hg w40 hbox hb; have n0_ := Aside0.mk (Kd.R_below (Kd.R_elderB (by (with_reducible repeat (first | apply Kd.R_alloc | apply Kd.R_drewN | apply Kd.R_drew)); exact HO160.out) gb162 (Nat.le_of_eq hg.symm)) hb); have n1_ := Aside0.mk (below_step (by repeat (first | (with_reducible first | exact HB.out | apply below_alloc | apply pw_below_drewN | apply below_drew1) | exact HB.out)) hb); have n2_ := Aside0.mk (hbox); have n3_ := Aside0.mk ((by rw [hg]; exact (below_size (by repeat (first | (with_reducible first | exact HB.out | apply below_alloc | apply pw_below_drewN | apply below_drew1) | exact HB.out))) : w.heap.size ≤ gb162)); have n4_ := Aside0.mk ((by rw [hg]; exact (below_size (by repeat (first | (with_reducible first | exact HB.out | apply below_alloc | apply pw_below_drewN | apply below_drew1) | exact HB.out))) : w.heap.size ≤ gb162)); clear HO160; clear HB; have HO160 := n0_; have HB := n1_; have BK162 := n2_; have GW162 := n3_; have GE162 := n4_; clear n0_ n1_ n2_ n3_ n4_; clear hb hbox hg; have hcz41_0 : w40.cell? ⟨gb162, 0, none⟩ = some (.bool false) := (blk_cell BK162.out 0).trans rfl; have hcz41_1 : w40.cell? ⟨gb162, 1, none⟩ = some (.string (⟨#[]⟩ : ByteArray)) := (blk_cell BK162.out 1).trans rfl; have hcz41_2 : w40.cell? ⟨gb162, 2, none⟩ = some (.slice none 0 0) := (blk_cell BK162.out 2).trans rfl; have hfz41_0 := blk_frozen BK162.out 0; have hfz41_1 := blk_frozen BK162.out 1; have hfz41_2 := blk_frozen BK162.out 2; obtain ⟨Ao42, co42, eo42⟩ := Kd.R_slice HO160.out; subst eo42) | ((with_reducible refine gate_callee (f := 10) rfl ?_); refine goesL_ (some 57) rfl rfl Try.func10 (by kernel_rfl) rfl #[.string (t155 ++ x2_9)] rfl (by (try simp only [List.map_toArray, List.map_cons, List.map_nil]); first | done | rfl | (simp only [List.length_drop, List.length_take]; rfl)) ?_; (with_reducible refine (rlp_Decode.calls kj16 (t155 ++ x2_9) t163 t164 t165 t168 _ A30.out).mono ?_); rintro e w43 ⟨v166, rfl, ho0, hb⟩; refine ⟨_, rfl, ?_⟩; have n0_ := Aside0.mk (Kd.R_elder' (by (with_reducible repeat (first | apply Kd.R_alloc | apply Kd.R_drewN | apply Kd.R_drew)); exact (Kd.R_mono (Kd.R_far (p := ⟨gb162, 2, none⟩) (Kd.R_far (p := ⟨gb162, 1, none⟩) (Kd.R_far (p := ⟨gb162, 0, none⟩) (Kd.R_mono HO160.out (fun k_ hk => (⟨hk, hk.2⟩ : _ ∧ k_ ≠ gb162))) (fun _ hk => hk.2) (.bool t156)) (fun _ hk => hk.2) (.string t157)) (fun _ hk => hk.2) (.slice Ao42 t158.length co42)) (fun _ h_ => h_.1))) (Kd.R_base ho0) hb); have n1_ := Aside0.mk (Kd.R_lower (Kd.R_newB (Kd.R_new' ho0 (Kd.R_lt (by (with_reducible repeat (first | apply Kd.R_alloc | apply Kd.R_drewN | apply Kd.R_drew)); exact (Kd.R_mono (Kd.R_far (p := ⟨gb162, 2, none⟩) (Kd.R_far (p := ⟨gb162, 1, none⟩) (Kd.R_far (p := ⟨gb162, 0, none⟩) (Kd.R_mono HO160.out (fun k_ hk => (⟨hk, hk.2⟩ : _ ∧ k_ ≠ gb162))) (fun _ hk => hk.2) (.bool t156)) (fun _ hk => hk.2) (.string t157)) (fun _ hk => hk.2) (.slice Ao42 t158.length co42)) (fun _ h_ => h_.1))))) (g := gb162) (o := .cells #[.bool t156, .string t157, .slice Ao42 t158.length co42] 25 (0, 0)) (by (with_reducible repeat (first | refine blk_drewN ?_ _ | refine blk_drew ?_ | refine blk_alloc ?_ _)); refine blk_put (cs := #[.bool t156, .string t157, .slice none 0 0]) ?_ 2 _ rfl; (with_reducible repeat (first | refine blk_drewN ?_ _ | refine blk_drew ?_ | refine blk_alloc ?_ _)); refine blk_put (cs := #[.bool t156, .string (⟨#[]⟩ : ByteArray), .slice none 0 0]) ?_ 1 _ rfl; (with_reducible repeat (first | refine blk_drewN ?_ _ | refine blk_drew ?_ | refine blk_alloc ?_ _)); refine blk_put (cs := #[.bool false, .string (⟨#[]⟩ : ByteArray), .slice none 0 0]) ?_ 0 _ rfl; (with_reducible repeat (first | refine blk_drewN ?_ _ | refine blk_drew ?_ | refine blk_alloc ?_ _)); exact BK162.out)) (below_size (by repeat (first | (with_reducible first | exact HB.out | apply below_alloc | apply pw_below_drewN | apply below_drew1 | refine below_set ?_ GE162.out) | exact HB.out)))); have n2_ := Aside0.mk (blk_below (g := gb162) (o := .cells #[.bool t156, .string t157, .slice Ao42 t158.length co42] 25 (0, 0)) (by (with_reducible repeat (first | refine blk_drewN ?_ _ | refine blk_drew ?_ | refine blk_alloc ?_ _)); refine blk_put (cs := #[.bool t156, .string t157, .slice none 0 0]) ?_ 2 _ rfl; (with_reducible repeat (first | refine blk_drewN ?_ _ | refine blk_drew ?_ | refine blk_alloc ?_ _)); refine blk_put (cs := #[.bool t156, .string (⟨#[]⟩ : ByteArray), .slice none 0 0]) ?_ 1 _ rfl; (with_reducible repeat (first | refine blk_drewN ?_ _ | refine blk_drew ?_ | refine blk_alloc ?_ _)); refine blk_put (cs := #[.bool false, .string (⟨#[]⟩ : ByteArray), .slice none 0 0]) ?_ 0 _ rfl; (with_reducible repeat (first | refine blk_drewN ?_ _ | refine blk_drew ?_ | refine blk_alloc ?_ _)); exact BK162.out) hb); have n3_ := Aside0.mk (below_step (by repeat (first | (with_reducible first | exact HB.out | apply below_alloc | apply pw_below_drewN | apply below_drew1 | refine below_set ?_ GE162.out) | exact HB.out)) hb); clear HO160; clear BK162; clear HB; have HO160 := n0_; have HO167 := n1_; have BK162 := n2_; have HB := n3_; clear n0_ n1_ n2_ n3_; (try clear hb); (try clear hb2); (try clear hk); (try clear hi); (try clear ho0)) | ((with_reducible refine gate_dst (N := 12) rfl ?_); refine box_event ?hg (N := 12) ?hd (cs := #[.bool false, .string (⟨#[]⟩ : ByteArray), .slice none 0 0]) (t := 25) ?hr ?_; (case hd => rfl); (case hg => rfl); (case hr => first | (go_simp; done) | (go_simp; rfl)); intro gb169 hg w44 hbox hb; have n0_ := Aside0.mk (Kd.R_below (Kd.R_elderB (by (with_reducible repeat (first | apply Kd.R_alloc | apply Kd.R_drewN | apply Kd.R_drew)); exact HO160.out) gb169 (Nat.le_of_eq hg.symm)) hb); have n1_ := Aside0.mk (Kd.R_below (Kd.R_elderB (by (with_reducible repeat (first | apply Kd.R_alloc | apply Kd.R_drewN | apply Kd.R_drew)); exact HO167.out) gb169 (Nat.le_of_eq hg.symm)) hb); have n2_ := Aside0.mk (blk_below (g := gb162) (o := .cells #[.bool t156, .string t157, .slice Ao42 t158.length co42] 25 (0, 0)) (by (with_reducible repeat (first | refine blk_drewN ?_ _ | refine blk_drew ?_ | refine blk_alloc ?_ _)); exact BK162.out) hb); have n3_ := Aside0.mk (below_step (by repeat (first | (with_reducible first | exact HB.out | apply below_alloc | apply pw_below_drewN | apply below_drew1 | refine below_set ?_ GE162.out) | exact HB.out)) hb); have n4_ := Aside0.mk (hbox); have n5_ := Aside0.mk ((by rw [hg]; exact (below_size (by repeat (first | (with_reducible first | exact HB.out | apply below_alloc | apply pw_below_drewN | apply below_drew1 | refine below_set ?_ GE162.out) | exact HB.out))) : w.heap.size ≤ gb169)); have n6_ := Aside0.mk ((by rw [hg]; exact (below_size (by repeat (first | (with_reducible first | exact HB.out | apply below_alloc | apply pw_below_drewN | apply below_drew1 | refine below_set ?_ GE162.out) | exact HB.out))) : w.heap.size ≤ gb169)); have n7_ := Aside0.mk ((by rw [hg]; exact Nat.ne_of_lt (blk_lt (g := gb162) (o := .cells #[.bool t156, .string t157, .slice Ao42 t158.length co42] 25 (0, 0)) (by (with_reducible repeat (first | refine blk_drewN ?_ _ | refine blk_drew ?_ | refine blk_alloc ?_ _)); exact BK162.out)) : gb162 ≠ gb169)); have n8_ := Aside0.mk ((by rw [hg]; exact Nat.ne_of_gt (blk_lt (g := gb162) (o := .cells #[.bool t156, .string t157, .slice Ao42 t158.length co42] 25 (0, 0)) (by (with_reducible repeat (first | refine blk_drewN ?_ _ | refine blk_drew ?_ | refine blk_alloc ?_ _)); exact BK162.out)) : gb169 ≠ gb162)); clear HO160; clear HO167; clear BK162; clear HB; have HO160 := n0_; have HO167 := n1_; have BK162 := n2_; have HB := n3_; have BK169 := n4_; have GW169 := n5_; have GE169 := n6_; have NB162_169 := n7_; have NB169_162 := n8_; clear n0_ n1_ n2_ n3_ n4_ n5_ n6_ n7_ n8_; clear hb hbox hg; have hnb45 := NB169_162.out; have hnc45 := NB162_169.out; have hcz46_0 : w44.cell? ⟨gb169, 0, none⟩ = some (.bool false) := (blk_cell BK169.out 0).trans rfl; have hcz46_1 : w44.cell? ⟨gb169, 1, none⟩ = some (.string (⟨#[]⟩ : ByteArray)) := (blk_cell BK169.out 1).trans rfl; have hcz46_2 : w44.cell? ⟨gb169, 2, none⟩ = some (.slice none 0 0) := (blk_cell BK169.out 2).trans rfl; have hfz46_0 := blk_frozen BK169.out 0; have hfz46_1 := blk_frozen BK169.out 1; have hfz46_2 := blk_frozen BK169.out 2; obtain ⟨Ao47, co47, eo47⟩ := Kd.R_slice HO167.out; subst eo47) | ((with_reducible refine gate_callee (f := 13) rfl ?_); refine goesL_ (some 64) rfl rfl Try.func13 (by kernel_rfl) rfl #[.string (t155 ++ x2_9)] rfl (by (try simp only [List.map_toArray, List.map_cons, List.map_nil]); first | done | rfl | (simp only [List.length_drop, List.length_take]; rfl)) ?_; (with_reducible refine (rlp_Split.calls kj16 (t155 ++ x2_9) t170 true t172 t173 _ A31.out).mono ?_); rintro e w' ⟨rfl, ⟨nd, rfl⟩⟩; refine ⟨_, rfl, ?_⟩) | (go_at_call 19; (with_reducible refine (rlp_Bytes.calls kj16 x0_4 t174 _ A37.out).mono ?_); rintro e w48 ⟨rfl, hb⟩; have n0_ := Aside0.mk (Kd.R_below (by (with_reducible repeat (first | apply Kd.R_alloc | apply Kd.R_drewN | apply Kd.R_drew)); exact (Kd.R_mono (Kd.R_far (p := ⟨gb169, 2, none⟩) (Kd.R_far (p := ⟨gb169, 1, none⟩) (Kd.R_far (p := ⟨gb169, 0, none⟩) (Kd.R_mono HO160.out (fun k_ hk => (⟨hk, hk.2⟩ : _ ∧ k_ ≠ gb169))) (fun _ hk => hk.2) (.bool t163)) (fun _ hk => hk.2) (.string t164)) (fun _ hk => hk.2) (.slice Ao47 t165.length co47)) (fun _ h_ => h_.1))) hb); have n1_ := Aside0.mk (Kd.R_below (by (with_reducible repeat (first | apply Kd.R_alloc | apply Kd.R_drewN | apply Kd.R_drew)); exact (Kd.R_mono (Kd.R_far (p := ⟨gb169, 2, none⟩) (Kd.R_far (p := ⟨gb169, 1, none⟩) (Kd.R_far (p := ⟨gb169, 0, none⟩) (Kd.R_mono HO167.out (fun k_ hk => (⟨hk, hk.2⟩ : _ ∧ k_ ≠ gb169))) (fun _ hk => hk.2) (.bool t163)) (fun _ hk => hk.2) (.string t164)) (fun _ hk => hk.2) (.slice Ao47 t165.length co47)) (fun _ h_ => h_.1))) hb); have n2_ := Aside0.mk (blk_below (g := gb162) (o := .cells #[.bool t156, .string t157, .slice Ao42 t158.length co42] 25 (0, 0)) (by (with_reducible repeat (first | refine blk_drewN ?_ _ | refine blk_drew ?_ | refine blk_alloc ?_ _)); refine blk_far ?_ NB162_169.out _; (with_reducible repeat (first | refine blk_drewN ?_ _ | refine blk_drew ?_ | refine blk_alloc ?_ _)); refine blk_far ?_ NB162_169.out _; (with_reducible repeat (first | refine blk_drewN ?_ _ | refine blk_drew ?_ | refine blk_alloc ?_ _)); refine blk_far ?_ NB162_169.out _; (with_reducible repeat (first | refine blk_drewN ?_ _ | refine blk_drew ?_ | refine blk_alloc ?_ _)); exact BK162.out) hb); have n3_ := Aside0.mk (blk_below (g := gb169) (o := .cells #[.bool t163, .string t164, .slice Ao47 t165.length co47] 25 (0, 0)) (by (with_reducible repeat (first | refine blk_drewN ?_ _ | refine blk_drew ?_ | refine blk_alloc ?_ _)); refine blk_put (cs := #[.bool t163, .string t164, .slice none 0 0]) ?_ 2 _ rfl; (with_reducible repeat (first | refine blk_drewN ?_ _ | refine blk_drew ?_ | refine blk_alloc ?_ _)); refine blk_put (cs := #[.bool t163, .string (⟨#[]⟩ : ByteArray), .slice none 0 0]) ?_ 1 _ rfl; (with_reducible repeat (first | refine blk_drewN ?_ _ | refine blk_drew ?_ | refine blk_alloc ?_ _)); refine blk_put (cs := #[.bool false, .string (⟨#[]⟩ : ByteArray), .slice none 0 0]) ?_ 0 _ rfl; (with_reducible repeat (first | refine blk_drewN ?_ _ | refine blk_drew ?_ | refine blk_alloc ?_ _)); exact BK169.out) hb); have n4_ := Aside0.mk (below_step (by repeat (first | (with_reducible first | exact HB.out | apply below_alloc | apply pw_below_drewN | apply below_drew1 | refine below_set ?_ GE162.out | refine below_set ?_ GE169.out) | exact HB.out)) hb); clear HO160; clear HO167; clear BK162; clear BK169; clear HB; have HO160 := n0_; have HO167 := n1_; have BK162 := n2_; have BK169 := n3_; have HB := n4_; clear n0_ n1_ n2_ n3_ n4_; (try clear hb); (try clear hb2); (try clear hk); (try clear hi)))
                                    go_ret
                                    exact ⟨by first | rfl | (simp [errW_none, errW_some] <;> rfl) | (simp only [← hji25]; first | rfl | (simp [errW_none, errW_some] <;> rfl)) | (simp [*, errW_none, errW_some] <;> rfl), by repeat (first | (with_reducible first | exact HB.out | apply below_alloc | apply pw_below_drewN | apply below_drew1 | refine below_set ?_ GE162.out | refine below_set ?_ GE169.out) | exact HB.out)⟩
                                  · rw [if_neg c38] at H
                                    exact absurd H (by simp)
                                · replace c36 := Bool.eq_false_iff.mpr c36
                                  subst c36
                                  have H1 : (none) = some r := by rw [if_neg (show ¬ (false = true) by decide)] at H; exact H
                                  clear H
                                  have H := H1
                                  clear H1
                                  exact absurd H (by simp)
                              · rw [if_neg c35] at H
                                exact absurd H (by simp)
                            · rw [if_neg c34] at H
                              exact absurd H (by simp)
                          · rw [if_neg c33] at H
                            exact absurd H (by simp)
                        · replace c32 := Bool.eq_false_iff.mpr c32
                          subst c32
                          have H1 : (none) = some r := by rw [if_neg (show ¬ (false = true) by decide)] at H; exact H
                          clear H
                          have H := H1
                          clear H1
                          exact absurd H (by simp)
                      · rw [if_neg c29] at H
                        exact absurd H (by simp)
                    · rw [if_neg c27] at H
                      exact absurd H (by simp)
                  · rw [if_neg c26] at H
                    exact absurd H (by simp)

/-- THE ONE PURE STATEMENT of loesslaw02_RlpCuts: yours. -/
def loesslaw02_RlpCuts.Pure : Prop := ∀ (a0 : ByteArray) (a1 : Int) (a2 : ByteArray), a0.size ≤ 140737488351232 → (Lit.int .i64 a1).wf = true → a2.size ≤ 140737488351232 → ∃ k, loesslaw02_RlpCuts.f k a0 a1 a2 = some true
theorem loesslaw02_RlpCuts.walk (P : loesslaw02_RlpCuts.Pure) (a0 : ByteArray) (a1 : Int) (a2 : ByteArray) (w : World) (w0 : a0.size ≤ 140737488351232) (w1 : (Lit.int .i64 a1).wf = true) (w2 : a2.size ≤ 140737488351232) :
    Calls Try.prog 6 #[.string a0, .int .i64 a1, .string a2] w fun e w' => e = .returned (.bool true) ∧ Below w.heap.size w w' := by
  obtain ⟨k, h⟩ := P a0 a1 a2 w0 w1 w2
  refine (loesslaw02_RlpCuts.calls k a0 a1 a2 true w h).mono ?_
  rintro e w' ⟨rfl, hd⟩
  exact ⟨rfl, hd⟩

end Go.Proofs.Ytkkammncpkgodaa.P
