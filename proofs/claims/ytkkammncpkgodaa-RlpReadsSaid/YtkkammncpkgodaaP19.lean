/- What Go functions of the program come to: a Lean function and its contract for each. Written by a program of this session over the kit's printer, some contracts by hand. -/
import Derived.Test.YtkkammncpkgodaaP0
import Derived.Test.YtkkammncpkgodaaP2
import Derived.Test.YtkkammncpkgodaaP4
import Derived.Test.YtkkammncpkgodaaP8
import Derived.Test.YtkkammncpkgodaaP9
import Derived.Test.YtkkammncpkgodaaP17
import Derived.Test.YtkkammncpkgodaaP18
namespace Go.Proofs.Ytkkammncpkgodaa.P
open Go.RowKit Go.Proofs.YtkkammncpkgodaaW.PrintWords Go.Proofs.YtkkammncpkgodaaW.PrintLast Go.Proofs.YtkkammncpkgodaaW.PrintMore
attribute [local go_sem] max2_int min2_int max_two min_two max_three min_three max_four min_four   -- for this text's walks alone
set_option linter.unusedVariables false
set_option linter.unusedSimpArgs false

/-! ### loesslaw02_RlpReads: function 3 -/
def loesslaw02_RlpReads.j0 : Nat → ByteArray → Bool → Option (Bool)
  | 0, _, _ => none
  | k + 1, x0, x3 => (rlp_Decode.f k x0).bind fun bt217 => ((loessref02_Decode.f k x0).bind fun bt224 => ((loessref02_Same.f k bt217.1 bt217.2.1 bt217.2.2.1 bt224.1 bt224.2.1 bt224.2.2.1).bind fun t231 => ((rlp_Split.f k x0).bind fun bt232 => ((loessref02_Split.f k x0).bind fun bt236 => (if x3 = true then (if t231 = true then (if bt217.2.2.2 = bt224.2.2.2 then (if bt232.1.toList = bt236.1.toList then (if (bt232.2.1 == bt236.2.1) = true then (if bt232.2.2.1.toList = bt236.2.2.1.toList then (some (bt232.2.2.2 == bt236.2.2.2)) else (none)) else (none)) else (none)) else (none)) else (none)) else (none))))))
def loesslaw02_RlpReads.f (k : Nat) (a0 : ByteArray) : Option (Bool) := (loesslaw02_awake.f).bind fun t216 => (if (a0.size : Int) > 5000 then (if 0 ≤ 5000 then (if 5000 ≤ (a0.size : Int) then (loesslaw02_RlpReads.j0 k (a0.extract 0 5000) t216) else (none)) else (none)) else (loesslaw02_RlpReads.j0 k a0 t216))
theorem loesslaw02_RlpReads.mono_l : ∀ k, (∀ y0 y1, LeO (loesslaw02_RlpReads.j0 k y0 y1) (loesslaw02_RlpReads.j0 (k + 1) y0 y1))
  | 0 => fun _ _ r h => by simp [loesslaw02_RlpReads.j0] at h
  | k + 1 => by
    have ih0 := loesslaw02_RlpReads.mono_l k
    · intro y0 y1
      unfold loesslaw02_RlpReads.j0
      repeat' first
      | (with_reducible exact ih0 _ _)
      | (with_reducible exact loessref02_Decode.mono _ _)
      | (with_reducible exact loessref02_Same.mono _ _ _ _ _ _ _)
      | (with_reducible exact loessref02_Split.mono _ _)
      | (with_reducible exact rlp_Decode.mono _ _)
      | (with_reducible exact rlp_Split.mono _ _)
      | (with_reducible exact LeO.refl _)
      | (with_reducible exact LeO.none _)
      | (with_reducible refine LeO.ite ?_ ?_)
      | (with_reducible refine LeO.bind ?_ (fun _ => ?_))
      | exact ih0 _ _
      | exact loessref02_Decode.mono _ _
      | exact loessref02_Same.mono _ _ _ _ _ _ _
      | exact loessref02_Split.mono _ _
      | exact rlp_Decode.mono _ _
      | exact rlp_Split.mono _ _
      | exact LeO.none _
      | refine LeO.ite ?_ ?_
      | refine LeO.bind ?_ (fun _ => ?_)
theorem loesslaw02_RlpReads.mono : ∀ a0 k, LeO (loesslaw02_RlpReads.f k a0) (loesslaw02_RlpReads.f (k + 1) a0) := by
  intro a0 k
  have ih0 := loesslaw02_RlpReads.mono_l k
  unfold loesslaw02_RlpReads.f
  repeat' first
      | (with_reducible exact ih0 _ _)
      | (with_reducible exact loessref02_Decode.mono _ _)
      | (with_reducible exact loessref02_Same.mono _ _ _ _ _ _ _)
      | (with_reducible exact loessref02_Split.mono _ _)
      | (with_reducible exact rlp_Decode.mono _ _)
      | (with_reducible exact rlp_Split.mono _ _)
      | (with_reducible exact LeO.refl _)
      | (with_reducible exact LeO.none _)
      | (with_reducible refine LeO.ite ?_ ?_)
      | (with_reducible refine LeO.bind ?_ (fun _ => ?_))
      | exact ih0 _ _
      | exact loessref02_Decode.mono _ _
      | exact loessref02_Same.mono _ _ _ _ _ _ _
      | exact loessref02_Split.mono _ _
      | exact rlp_Decode.mono _ _
      | exact rlp_Split.mono _ _
      | exact LeO.none _
      | refine LeO.ite ?_ ?_
      | refine LeO.bind ?_ (fun _ => ?_)
set_option maxHeartbeats 8000000 in
set_option maxRecDepth 100000 in
theorem loesslaw02_RlpReads.calls (k : Nat) (a0 : ByteArray) (r : Bool) (w : World) (h : loesslaw02_RlpReads.f k a0 = some r) :
    Calls Try.prog 3 #[.string a0] w fun e w' => e = .returned (.bool r) ∧ Below w.heap.size w w' := by
  have hu25 := Try.underlying25
  have HB := Aside0.mk (Below.refl w.heap.size w)
  have H : ((loesslaw02_awake.f).bind fun t216 => (if (a0.size : Int) > 5000 then (if 0 ≤ 5000 then (if 5000 ≤ (a0.size : Int) then (loesslaw02_RlpReads.j0 k (a0.extract 0 5000) t216) else (none)) else (none)) else (loesslaw02_RlpReads.j0 k a0 t216))) = some r := h
  clear h
  replace H := Option.bind_eq_some_iff.mp H
  obtain ⟨t216, A20, H⟩ := H
  replace H : (if (a0.size : Int) > 5000 then (if 0 ≤ 5000 then (if 5000 ≤ (a0.size : Int) then (loesslaw02_RlpReads.j0 k (a0.extract 0 5000) t216) else (none)) else (none)) else (loesslaw02_RlpReads.j0 k a0 t216)) = some r := H
  have A2 := Aside0.mk A20
  clear A20
  have HC3 := Aside0.mk H
  clear H
  go_enter Try.func3, Try.ntmps3
  go_upto_if 20 with (first | ((with_reducible refine gate_callee (f := 9) rfl ?_); refine goesL_ (some 17) rfl rfl Try.func9 (by kernel_rfl) rfl #[] rfl (by (try simp only [List.map_toArray, List.map_cons, List.map_nil]); first | done | rfl | (simp only [List.length_drop, List.length_take]; rfl)) ?_; (with_reducible refine (loesslaw02_awake.calls  t216 _ A2.out).mono ?_); rintro e w4 ⟨rfl, hb⟩; refine ⟨_, rfl, ?_⟩; have n0_ := Aside0.mk (below_step (by repeat (first | (with_reducible first | exact HB.out | apply below_alloc | apply pw_below_drewN | apply below_drew1) | exact HB.out)) hb); clear HB; have HB := n0_; clear n0_; (try clear hb); (try clear hb2); (try clear hk); (try clear hi)))
  (try simp only [Act.put, List.setIfInBounds_toArray, List.set_cons_zero, List.set_cons_succ])
  go_cut [0] (fun v0 wc => ∃ (kq : Nat) (x0_2 : ByteArray), v0 = .string x0_2 ∧ Aside0 (loesslaw02_RlpReads.j0 kq x0_2 t216 = some r) ∧ Aside0 (kq ≤ k) ∧ Aside0 (Below w.heap.size w wc))
  case first =>
    have H := HC3.out
    clear HC3
    by_cases c5 : (a0.size : Int) > 5000
    · rw [if_pos c5] at H
      have c5b0 : decide (5000 < (a0.size : Int)) = true := decide_eq_true c5
      have c5b1 : decide (5000 < a0.size) = true := decide_eq_true (by omega)
      clear c5
      (first | rw [c5b0] | (simp only [i64_w, i32_w]; rw [c5b0]) | skip)
      by_cases c6 : 0 ≤ 5000
      · rw [if_pos c6] at H
        have c6b0 := eq_true c6
        have c6b1 : decide (0 ≤ 5000) = true := decide_eq_true c6
        clear c6
        by_cases c7 : 5000 ≤ (a0.size : Int)
        · rw [if_pos c7] at H
          have c7b0 := eq_true c7
          have c7b1 : decide (5000 ≤ (a0.size : Int)) = true := decide_eq_true c7
          clear c7
          have H' := Aside0.mk H
          clear H
          go_wp2
          go_meet
          case rel => exact ⟨_, (a0.extract 0 5000), (by first | rfl | (simp; done) | (simp [*]; done)), H', ⟨by first | omega | exact Nat.le_refl _⟩, ⟨by repeat (first | (with_reducible first | exact HB.out | apply below_alloc | apply pw_below_drewN | apply below_drew1) | exact HB.out)⟩⟩
        · rw [if_neg c7] at H
          exact absurd H (by simp)
      · rw [if_neg c6] at H
        exact absurd H (by simp)
    · rw [if_neg c5] at H
      have c5b0 : decide (5000 < (a0.size : Int)) = false := decide_eq_false c5
      have c5b1 : decide (5000 < a0.size) = false := decide_eq_false (by omega)
      clear c5
      (first | rw [c5b0] | (simp only [i64_w, i32_w]; rw [c5b0]) | skip)
      have H' := Aside0.mk H
      clear H
      go_wp2
      go_meet
      case rel => exact ⟨_, (a0), (by first | rfl | (simp; done) | (simp [*]; done)), H', ⟨by first | omega | exact Nat.le_refl _⟩, ⟨by repeat (first | (with_reducible first | exact HB.out | apply below_alloc | apply pw_below_drewN | apply below_drew1) | exact HB.out)⟩⟩
  case rest =>
    clear HC3
    try clear p2
    try clear c3
    try clear c5
    try clear c5b0
    try clear c5b1
    try clear c6
    try clear c6b0
    try clear c6b1
    try clear c7
    try clear c7b0
    try clear c7b1
    obtain ⟨kq, x0_2, rfl, HA, HJ2, HB⟩ := hcut
    cases kq with
    | zero => exact absurd HA.out (by simp [loesslaw02_RlpReads.j0])
    | succ kj2 =>
      have H := HA.out
      clear HA
      simp only [loesslaw02_RlpReads.j0] at H
      replace H := Option.bind_eq_some_iff.mp H
      obtain ⟨⟨t217, t218, t219, t222⟩, A80, H⟩ := H
      replace H : ((loessref02_Decode.f kj2 x0_2).bind fun bt224 => ((loessref02_Same.f kj2 t217 t218 t219 bt224.1 bt224.2.1 bt224.2.2.1).bind fun t231 => ((rlp_Split.f kj2 x0_2).bind fun bt232 => ((loessref02_Split.f kj2 x0_2).bind fun bt236 => (if t216 = true then (if t231 = true then (if t222 = bt224.2.2.2 then (if bt232.1.toList = bt236.1.toList then (if (bt232.2.1 == bt236.2.1) = true then (if bt232.2.2.1.toList = bt236.2.2.1.toList then (some (bt232.2.2.2 == bt236.2.2.2)) else (none)) else (none)) else (none)) else (none)) else (none)) else (none)))))) = some r := H
      have A8 := Aside0.mk A80
      clear A80
      replace H := Option.bind_eq_some_iff.mp H
      obtain ⟨⟨t224, t225, t226, t229⟩, A90, H⟩ := H
      replace H : ((loessref02_Same.f kj2 t217 t218 t219 t224 t225 t226).bind fun t231 => ((rlp_Split.f kj2 x0_2).bind fun bt232 => ((loessref02_Split.f kj2 x0_2).bind fun bt236 => (if t216 = true then (if t231 = true then (if t222 = t229 then (if bt232.1.toList = bt236.1.toList then (if (bt232.2.1 == bt236.2.1) = true then (if bt232.2.2.1.toList = bt236.2.2.1.toList then (some (bt232.2.2.2 == bt236.2.2.2)) else (none)) else (none)) else (none)) else (none)) else (none)) else (none))))) = some r := H
      have A9 := Aside0.mk A90
      clear A90
      replace H := Option.bind_eq_some_iff.mp H
      obtain ⟨t231, A100, H⟩ := H
      replace H : ((rlp_Split.f kj2 x0_2).bind fun bt232 => ((loessref02_Split.f kj2 x0_2).bind fun bt236 => (if t216 = true then (if t231 = true then (if t222 = t229 then (if bt232.1.toList = bt236.1.toList then (if (bt232.2.1 == bt236.2.1) = true then (if bt232.2.2.1.toList = bt236.2.2.1.toList then (some (bt232.2.2.2 == bt236.2.2.2)) else (none)) else (none)) else (none)) else (none)) else (none)) else (none)))) = some r := H
      have A10 := Aside0.mk A100
      clear A100
      replace H := Option.bind_eq_some_iff.mp H
      obtain ⟨⟨t232, t233, t234, t235⟩, A110, H⟩ := H
      replace H : ((loessref02_Split.f kj2 x0_2).bind fun bt236 => (if t216 = true then (if t231 = true then (if t222 = t229 then (if t232.toList = bt236.1.toList then (if (t233 == bt236.2.1) = true then (if t234.toList = bt236.2.2.1.toList then (some (t235 == bt236.2.2.2)) else (none)) else (none)) else (none)) else (none)) else (none)) else (none))) = some r := H
      have A11 := Aside0.mk A110
      clear A110
      replace H := Option.bind_eq_some_iff.mp H
      obtain ⟨⟨t236, t237, t238, t239⟩, A120, H⟩ := H
      replace H : (if t216 = true then (if t231 = true then (if t222 = t229 then (if t232.toList = t236.toList then (if (t233 == t237) = true then (if t234.toList = t238.toList then (some (t235 == t239)) else (none)) else (none)) else (none)) else (none)) else (none)) else (none)) = some r := H
      have A12 := Aside0.mk A120
      clear A120
      by_cases c13 : t216 = true
      · subst c13
        have H1 : (if t231 = true then (if t222 = t229 then (if t232.toList = t236.toList then (if (t233 == t237) = true then (if t234.toList = t238.toList then (some (t235 == t239)) else (none)) else (none)) else (none)) else (none)) else (none)) = some r := by rw [if_pos rfl] at H; exact H
        clear H
        have H := H1
        clear H1
        by_cases c14 : t231 = true
        · subst c14
          have H1 : (if t222 = t229 then (if t232.toList = t236.toList then (if (t233 == t237) = true then (if t234.toList = t238.toList then (some (t235 == t239)) else (none)) else (none)) else (none)) else (none)) = some r := by rw [if_pos rfl] at H; exact H
          clear H
          have H := H1
          clear H1
          by_cases c15 : t222 = t229
          · rw [if_pos c15] at H
            have c15b0 : (t222 == t229) = true := beq_iff_eq.mpr c15
            have c15b1 : (t222 != t229) = false := bne_eq_false_iff_eq.mpr c15
            clear c15
            by_cases c16 : t232.toList = t236.toList
            · rw [if_pos c16] at H
              have c16b0 : (t232.toList == t236.toList) = true := beq_iff_eq.mpr c16
              have c16b1 : (t232.toList != t236.toList) = false := bne_eq_false_iff_eq.mpr c16
              clear c16
              by_cases c17 : (t233 == t237) = true
              · rw [if_pos c17] at H
                have c17b0 : (t233 == t237) = true := c17
                (try (have c17b1 : decide (t233 = t237) = true := by simpa using c17))
                (try (have c17b2 : (t233 == t237) = true := by simpa using c17))
                clear c17
                by_cases c18 : t234.toList = t238.toList
                · rw [if_pos c18] at H
                  have c18b0 : (t234.toList == t238.toList) = true := beq_iff_eq.mpr c18
                  have c18b1 : (t234.toList != t238.toList) = false := bne_eq_false_iff_eq.mpr c18
                  clear c18
                  obtain rfl := Option.some.inj H
                  go_wp2_with (first | ((with_reducible refine gate_callee (f := 10) rfl ?_); refine goesL_ (some 25) rfl rfl Try.func10 (by kernel_rfl) rfl #[.string x0_2] rfl (by (try simp only [List.map_toArray, List.map_cons, List.map_nil]); first | done | rfl | (simp only [List.length_drop, List.length_take]; rfl)) ?_; (with_reducible refine (rlp_Decode.calls kj2 x0_2 t217 t218 t219 t222 _ A8.out).mono ?_); rintro e w19 ⟨v220, rfl, ho0, hb⟩; refine ⟨_, rfl, ?_⟩; have n0_ := Aside0.mk (Kd.R_lower ho0 (below_size (by repeat (first | (with_reducible first | exact HB.out | apply below_alloc | apply pw_below_drewN | apply below_drew1) | exact HB.out)))); have n1_ := Aside0.mk (below_step (by repeat (first | (with_reducible first | exact HB.out | apply below_alloc | apply pw_below_drewN | apply below_drew1) | exact HB.out)) hb); clear HB; have HO221 := n0_; have HB := n1_; clear n0_ n1_; (try clear hb); (try clear hb2); (try clear hk); (try clear hi); (try clear ho0)) | ((with_reducible refine gate_dst (N := 4) rfl ?_); refine box_event ?hg (N := 4) ?hd (cs := #[.bool false, .string (⟨#[]⟩ : ByteArray), .slice none 0 0]) (t := 25) ?hr ?_; (case hd => rfl); (case hg => rfl); (case hr => first | (go_simp; done) | (go_simp; rfl)); intro gb223 hg w20 hbox hb; have n0_ := Aside0.mk (Kd.R_below (Kd.R_elderB (by (with_reducible repeat (first | apply Kd.R_alloc | apply Kd.R_drewN | apply Kd.R_drew)); exact HO221.out) gb223 (Nat.le_of_eq hg.symm)) hb); have n1_ := Aside0.mk (below_step (by repeat (first | (with_reducible first | exact HB.out | apply below_alloc | apply pw_below_drewN | apply below_drew1) | exact HB.out)) hb); have n2_ := Aside0.mk (hbox); have n3_ := Aside0.mk ((by rw [hg]; exact (below_size (by repeat (first | (with_reducible first | exact HB.out | apply below_alloc | apply pw_below_drewN | apply below_drew1) | exact HB.out))) : w.heap.size ≤ gb223)); have n4_ := Aside0.mk ((by rw [hg]; exact (below_size (by repeat (first | (with_reducible first | exact HB.out | apply below_alloc | apply pw_below_drewN | apply below_drew1) | exact HB.out))) : w.heap.size ≤ gb223)); clear HO221; clear HB; have HO221 := n0_; have HB := n1_; have BK223 := n2_; have GW223 := n3_; have GE223 := n4_; clear n0_ n1_ n2_ n3_ n4_; clear hb hbox hg; have hcz21_0 : w20.cell? ⟨gb223, 0, none⟩ = some (.bool false) := (blk_cell BK223.out 0).trans rfl; have hcz21_1 : w20.cell? ⟨gb223, 1, none⟩ = some (.string (⟨#[]⟩ : ByteArray)) := (blk_cell BK223.out 1).trans rfl; have hcz21_2 : w20.cell? ⟨gb223, 2, none⟩ = some (.slice none 0 0) := (blk_cell BK223.out 2).trans rfl; have hfz21_0 := blk_frozen BK223.out 0; have hfz21_1 := blk_frozen BK223.out 1; have hfz21_2 := blk_frozen BK223.out 2; obtain ⟨Ao22, co22, eo22⟩ := Kd.R_slice HO221.out; subst eo22) | ((with_reducible refine gate_callee (f := 11) rfl ?_); refine goesL_ (some 30) rfl rfl Try.func11 (by kernel_rfl) rfl #[.string x0_2] rfl (by (try simp only [List.map_toArray, List.map_cons, List.map_nil]); first | done | rfl | (simp only [List.length_drop, List.length_take]; rfl)) ?_; (with_reducible refine (loessref02_Decode.calls kj2 x0_2 t224 t225 t226 t229 _ A9.out).mono ?_); rintro e w23 ⟨v227, rfl, ho0, hb⟩; refine ⟨_, rfl, ?_⟩; have n0_ := Aside0.mk (Kd.R_elder' (by (with_reducible repeat (first | apply Kd.R_alloc | apply Kd.R_drewN | apply Kd.R_drew)); exact (Kd.R_mono (Kd.R_far (p := ⟨gb223, 2, none⟩) (Kd.R_far (p := ⟨gb223, 1, none⟩) (Kd.R_far (p := ⟨gb223, 0, none⟩) (Kd.R_mono HO221.out (fun k_ hk => (⟨hk, hk.2⟩ : _ ∧ k_ ≠ gb223))) (fun _ hk => hk.2) (.bool t217)) (fun _ hk => hk.2) (.string t218)) (fun _ hk => hk.2) (.slice Ao22 t219.length co22)) (fun _ h_ => h_.1))) (Kd.R_base ho0) hb); have n1_ := Aside0.mk (Kd.R_lower (Kd.R_newB (Kd.R_new' ho0 (Kd.R_lt (by (with_reducible repeat (first | apply Kd.R_alloc | apply Kd.R_drewN | apply Kd.R_drew)); exact (Kd.R_mono (Kd.R_far (p := ⟨gb223, 2, none⟩) (Kd.R_far (p := ⟨gb223, 1, none⟩) (Kd.R_far (p := ⟨gb223, 0, none⟩) (Kd.R_mono HO221.out (fun k_ hk => (⟨hk, hk.2⟩ : _ ∧ k_ ≠ gb223))) (fun _ hk => hk.2) (.bool t217)) (fun _ hk => hk.2) (.string t218)) (fun _ hk => hk.2) (.slice Ao22 t219.length co22)) (fun _ h_ => h_.1))))) (g := gb223) (o := .cells #[.bool t217, .string t218, .slice Ao22 t219.length co22] 25 (0, 0)) (by (with_reducible repeat (first | refine blk_drewN ?_ _ | refine blk_drew ?_ | refine blk_alloc ?_ _)); refine blk_put (cs := #[.bool t217, .string t218, .slice none 0 0]) ?_ 2 _ rfl; (with_reducible repeat (first | refine blk_drewN ?_ _ | refine blk_drew ?_ | refine blk_alloc ?_ _)); refine blk_put (cs := #[.bool t217, .string (⟨#[]⟩ : ByteArray), .slice none 0 0]) ?_ 1 _ rfl; (with_reducible repeat (first | refine blk_drewN ?_ _ | refine blk_drew ?_ | refine blk_alloc ?_ _)); refine blk_put (cs := #[.bool false, .string (⟨#[]⟩ : ByteArray), .slice none 0 0]) ?_ 0 _ rfl; (with_reducible repeat (first | refine blk_drewN ?_ _ | refine blk_drew ?_ | refine blk_alloc ?_ _)); exact BK223.out)) (below_size (by repeat (first | (with_reducible first | exact HB.out | apply below_alloc | apply pw_below_drewN | apply below_drew1 | refine below_set ?_ GE223.out) | exact HB.out)))); have n2_ := Aside0.mk (blk_below (g := gb223) (o := .cells #[.bool t217, .string t218, .slice Ao22 t219.length co22] 25 (0, 0)) (by (with_reducible repeat (first | refine blk_drewN ?_ _ | refine blk_drew ?_ | refine blk_alloc ?_ _)); refine blk_put (cs := #[.bool t217, .string t218, .slice none 0 0]) ?_ 2 _ rfl; (with_reducible repeat (first | refine blk_drewN ?_ _ | refine blk_drew ?_ | refine blk_alloc ?_ _)); refine blk_put (cs := #[.bool t217, .string (⟨#[]⟩ : ByteArray), .slice none 0 0]) ?_ 1 _ rfl; (with_reducible repeat (first | refine blk_drewN ?_ _ | refine blk_drew ?_ | refine blk_alloc ?_ _)); refine blk_put (cs := #[.bool false, .string (⟨#[]⟩ : ByteArray), .slice none 0 0]) ?_ 0 _ rfl; (with_reducible repeat (first | refine blk_drewN ?_ _ | refine blk_drew ?_ | refine blk_alloc ?_ _)); exact BK223.out) hb); have n3_ := Aside0.mk (below_step (by repeat (first | (with_reducible first | exact HB.out | apply below_alloc | apply pw_below_drewN | apply below_drew1 | refine below_set ?_ GE223.out) | exact HB.out)) hb); clear HO221; clear BK223; clear HB; have HO221 := n0_; have HO228 := n1_; have BK223 := n2_; have HB := n3_; clear n0_ n1_ n2_ n3_; (try clear hb); (try clear hb2); (try clear hk); (try clear hi); (try clear ho0)) | ((with_reducible refine gate_dst (N := 6) rfl ?_); refine box_event ?hg (N := 6) ?hd (cs := #[.bool false, .string (⟨#[]⟩ : ByteArray), .slice none 0 0]) (t := 25) ?hr ?_; (case hd => rfl); (case hg => rfl); (case hr => first | (go_simp; done) | (go_simp; rfl)); intro gb230 hg w24 hbox hb; have n0_ := Aside0.mk (Kd.R_below (Kd.R_elderB (by (with_reducible repeat (first | apply Kd.R_alloc | apply Kd.R_drewN | apply Kd.R_drew)); exact HO221.out) gb230 (Nat.le_of_eq hg.symm)) hb); have n1_ := Aside0.mk (Kd.R_below (Kd.R_elderB (by (with_reducible repeat (first | apply Kd.R_alloc | apply Kd.R_drewN | apply Kd.R_drew)); exact HO228.out) gb230 (Nat.le_of_eq hg.symm)) hb); have n2_ := Aside0.mk (blk_below (g := gb223) (o := .cells #[.bool t217, .string t218, .slice Ao22 t219.length co22] 25 (0, 0)) (by (with_reducible repeat (first | refine blk_drewN ?_ _ | refine blk_drew ?_ | refine blk_alloc ?_ _)); exact BK223.out) hb); have n3_ := Aside0.mk (below_step (by repeat (first | (with_reducible first | exact HB.out | apply below_alloc | apply pw_below_drewN | apply below_drew1 | refine below_set ?_ GE223.out) | exact HB.out)) hb); have n4_ := Aside0.mk (hbox); have n5_ := Aside0.mk ((by rw [hg]; exact (below_size (by repeat (first | (with_reducible first | exact HB.out | apply below_alloc | apply pw_below_drewN | apply below_drew1 | refine below_set ?_ GE223.out) | exact HB.out))) : w.heap.size ≤ gb230)); have n6_ := Aside0.mk ((by rw [hg]; exact (below_size (by repeat (first | (with_reducible first | exact HB.out | apply below_alloc | apply pw_below_drewN | apply below_drew1 | refine below_set ?_ GE223.out) | exact HB.out))) : w.heap.size ≤ gb230)); have n7_ := Aside0.mk ((by rw [hg]; exact Nat.ne_of_lt (blk_lt (g := gb223) (o := .cells #[.bool t217, .string t218, .slice Ao22 t219.length co22] 25 (0, 0)) (by (with_reducible repeat (first | refine blk_drewN ?_ _ | refine blk_drew ?_ | refine blk_alloc ?_ _)); exact BK223.out)) : gb223 ≠ gb230)); have n8_ := Aside0.mk ((by rw [hg]; exact Nat.ne_of_gt (blk_lt (g := gb223) (o := .cells #[.bool t217, .string t218, .slice Ao22 t219.length co22] 25 (0, 0)) (by (with_reducible repeat (first | refine blk_drewN ?_ _ | refine blk_drew ?_ | refine blk_alloc ?_ _)); exact BK223.out)) : gb230 ≠ gb223)); clear HO221; clear HO228; clear BK223; clear HB; have HO221 := n0_; have HO228 := n1_; have BK223 := n2_; have HB := n3_; have BK230 := n4_; have GW230 := n5_; have GE230 := n6_; have NB223_230 := n7_; have NB230_223 := n8_; clear n0_ n1_ n2_ n3_ n4_ n5_ n6_ n7_ n8_; clear hb hbox hg; have hnb25 := NB230_223.out; have hnc25 := NB223_230.out; have hcz26_0 : w24.cell? ⟨gb230, 0, none⟩ = some (.bool false) := (blk_cell BK230.out 0).trans rfl; have hcz26_1 : w24.cell? ⟨gb230, 1, none⟩ = some (.string (⟨#[]⟩ : ByteArray)) := (blk_cell BK230.out 1).trans rfl; have hcz26_2 : w24.cell? ⟨gb230, 2, none⟩ = some (.slice none 0 0) := (blk_cell BK230.out 2).trans rfl; have hfz26_0 := blk_frozen BK230.out 0; have hfz26_1 := blk_frozen BK230.out 1; have hfz26_2 := blk_frozen BK230.out 2; obtain ⟨Ao27, co27, eo27⟩ := Kd.R_slice HO228.out; subst eo27; have hcz28_0 : w24.cell? ⟨gb223, 0, none⟩ = some (.bool t217) := (blk_cell BK223.out 0).trans rfl; have hcz28_1 : w24.cell? ⟨gb223, 1, none⟩ = some (.string t218) := (blk_cell BK223.out 1).trans rfl; have hcz28_2 : w24.cell? ⟨gb223, 2, none⟩ = some (.slice Ao22 t219.length co22) := (blk_cell BK223.out 2).trans rfl; have hfz28_0 := blk_frozen BK223.out 0; have hfz28_1 := blk_frozen BK223.out 1; have hfz28_2 := blk_frozen BK223.out 2) | ((with_reducible refine gate_callee (f := 12) rfl ?_); refine goesL_ (some 35) rfl rfl Try.func12 (by kernel_rfl) rfl #[.agg #[.bool t217, .string t218, .slice Ao22 t219.length co22], .agg #[.bool t224, .string t225, .slice Ao27 t226.length co27]] rfl (by (try simp only [List.map_toArray, List.map_cons, List.map_nil]); first | done | rfl | (simp only [List.length_drop, List.length_take]; rfl)) ?_; (with_reducible refine (loessref02_Same.calls kj2 t217 t218 _ _ t219 t224 t225 _ _ t226 true _ ?side1 ?side2 ?side3 ?side4 A10.out).mono ?_); (case side1 => refine (Kd.R_reads' (e := 25) (base := w.heap.size) (ok := fun k_ => (((True ∧ k_ ≠ gb223) ∧ some k_ ≠ (.slice Ao27 t226.length co27 : Value).ownBlock) ∧ k_ ≠ gb230)) (n := t219.length) (c := co22) ?_).2.2; exact (by (with_reducible repeat (first | apply Kd.R_alloc | apply Kd.R_drewN | apply Kd.R_drew)); exact (Kd.R_mono (Kd.R_far (p := ⟨gb230, 2, none⟩) (Kd.R_far (p := ⟨gb230, 1, none⟩) (Kd.R_far (p := ⟨gb230, 0, none⟩) (Kd.R_mono HO221.out (fun k_ hk => (⟨hk, hk.2⟩ : _ ∧ k_ ≠ gb230))) (fun _ hk => hk.2) (.bool t224)) (fun _ hk => hk.2) (.string t225)) (fun _ hk => hk.2) (.slice Ao27 t226.length co27)) (fun _ h_ => h_.1)))); (case side2 => exact (Kd.R_reads' HO221.out).2.1); (case side3 => refine (Kd.R_reads' (e := 25) (base := w.heap.size) (ok := fun k_ => (((True ∧ some k_ ≠ (.slice Ao22 t219.length co22 : Value).ownBlock) ∧ k_ ≠ gb223) ∧ k_ ≠ gb230)) (n := t226.length) (c := co27) ?_).2.2; exact (by (with_reducible repeat (first | apply Kd.R_alloc | apply Kd.R_drewN | apply Kd.R_drew)); exact (Kd.R_mono (Kd.R_far (p := ⟨gb230, 2, none⟩) (Kd.R_far (p := ⟨gb230, 1, none⟩) (Kd.R_far (p := ⟨gb230, 0, none⟩) (Kd.R_mono HO228.out (fun k_ hk => (⟨hk, hk.2⟩ : _ ∧ k_ ≠ gb230))) (fun _ hk => hk.2) (.bool t224)) (fun _ hk => hk.2) (.string t225)) (fun _ hk => hk.2) (.slice Ao27 t226.length co27)) (fun _ h_ => h_.1)))); (case side4 => exact (Kd.R_reads' HO228.out).2.1); rintro e w29 ⟨rfl, hb⟩; refine ⟨_, rfl, ?_⟩; have n0_ := Aside0.mk (Kd.R_below (by (with_reducible repeat (first | apply Kd.R_alloc | apply Kd.R_drewN | apply Kd.R_drew)); exact (Kd.R_mono (Kd.R_far (p := ⟨gb230, 2, none⟩) (Kd.R_far (p := ⟨gb230, 1, none⟩) (Kd.R_far (p := ⟨gb230, 0, none⟩) (Kd.R_mono HO221.out (fun k_ hk => (⟨hk, hk.2⟩ : _ ∧ k_ ≠ gb230))) (fun _ hk => hk.2) (.bool t224)) (fun _ hk => hk.2) (.string t225)) (fun _ hk => hk.2) (.slice Ao27 t226.length co27)) (fun _ h_ => h_.1))) hb); have n1_ := Aside0.mk (Kd.R_below (by (with_reducible repeat (first | apply Kd.R_alloc | apply Kd.R_drewN | apply Kd.R_drew)); exact (Kd.R_mono (Kd.R_far (p := ⟨gb230, 2, none⟩) (Kd.R_far (p := ⟨gb230, 1, none⟩) (Kd.R_far (p := ⟨gb230, 0, none⟩) (Kd.R_mono HO228.out (fun k_ hk => (⟨hk, hk.2⟩ : _ ∧ k_ ≠ gb230))) (fun _ hk => hk.2) (.bool t224)) (fun _ hk => hk.2) (.string t225)) (fun _ hk => hk.2) (.slice Ao27 t226.length co27)) (fun _ h_ => h_.1))) hb); have n2_ := Aside0.mk (blk_below (g := gb223) (o := .cells #[.bool t217, .string t218, .slice Ao22 t219.length co22] 25 (0, 0)) (by (with_reducible repeat (first | refine blk_drewN ?_ _ | refine blk_drew ?_ | refine blk_alloc ?_ _)); refine blk_far ?_ NB223_230.out _; (with_reducible repeat (first | refine blk_drewN ?_ _ | refine blk_drew ?_ | refine blk_alloc ?_ _)); refine blk_far ?_ NB223_230.out _; (with_reducible repeat (first | refine blk_drewN ?_ _ | refine blk_drew ?_ | refine blk_alloc ?_ _)); refine blk_far ?_ NB223_230.out _; (with_reducible repeat (first | refine blk_drewN ?_ _ | refine blk_drew ?_ | refine blk_alloc ?_ _)); exact BK223.out) hb); have n3_ := Aside0.mk (blk_below (g := gb230) (o := .cells #[.bool t224, .string t225, .slice Ao27 t226.length co27] 25 (0, 0)) (by (with_reducible repeat (first | refine blk_drewN ?_ _ | refine blk_drew ?_ | refine blk_alloc ?_ _)); refine blk_put (cs := #[.bool t224, .string t225, .slice none 0 0]) ?_ 2 _ rfl; (with_reducible repeat (first | refine blk_drewN ?_ _ | refine blk_drew ?_ | refine blk_alloc ?_ _)); refine blk_put (cs := #[.bool t224, .string (⟨#[]⟩ : ByteArray), .slice none 0 0]) ?_ 1 _ rfl; (with_reducible repeat (first | refine blk_drewN ?_ _ | refine blk_drew ?_ | refine blk_alloc ?_ _)); refine blk_put (cs := #[.bool false, .string (⟨#[]⟩ : ByteArray), .slice none 0 0]) ?_ 0 _ rfl; (with_reducible repeat (first | refine blk_drewN ?_ _ | refine blk_drew ?_ | refine blk_alloc ?_ _)); exact BK230.out) hb); have n4_ := Aside0.mk (below_step (by repeat (first | (with_reducible first | exact HB.out | apply below_alloc | apply pw_below_drewN | apply below_drew1 | refine below_set ?_ GE223.out | refine below_set ?_ GE230.out) | exact HB.out)) hb); clear HO221; clear HO228; clear BK223; clear BK230; clear HB; have HO221 := n0_; have HO228 := n1_; have BK223 := n2_; have BK230 := n3_; have HB := n4_; clear n0_ n1_ n2_ n3_ n4_; (try clear hb); (try clear hb2); (try clear hk); (try clear hi)) | ((with_reducible refine gate_callee (f := 13) rfl ?_); refine goesL_ (some 38) rfl rfl Try.func13 (by kernel_rfl) rfl #[.string x0_2] rfl (by (try simp only [List.map_toArray, List.map_cons, List.map_nil]); first | done | rfl | (simp only [List.length_drop, List.length_take]; rfl)) ?_; (with_reducible refine (rlp_Split.calls kj2 x0_2 t232 t233 t234 t235 _ A11.out).mono ?_); rintro e w' ⟨rfl, ⟨nd, rfl⟩⟩; refine ⟨_, rfl, ?_⟩) | ((with_reducible refine gate_callee (f := 14) rfl ?_); refine goesL_ (some 45) rfl rfl Try.func14 (by kernel_rfl) rfl #[.string x0_2] rfl (by (try simp only [List.map_toArray, List.map_cons, List.map_nil]); first | done | rfl | (simp only [List.length_drop, List.length_take]; rfl)) ?_; (with_reducible refine (loessref02_Split.calls kj2 x0_2 t236 t237 t238 t239 _ A12.out).mono ?_); rintro e w' ⟨rfl, ⟨nd, rfl⟩⟩; refine ⟨_, rfl, ?_⟩))
                  go_ret
                  exact ⟨by first | rfl | (simp [errW_none, errW_some] <;> rfl) | (simp [*, errW_none, errW_some] <;> rfl), by repeat (first | (with_reducible first | exact HB.out | apply below_alloc | apply pw_below_drewN | apply below_drew1 | refine below_set ?_ GE223.out | refine below_set ?_ GE230.out) | exact HB.out)⟩
                · rw [if_neg c18] at H
                  exact absurd H (by simp)
              · rw [if_neg c17] at H
                exact absurd H (by simp)
            · rw [if_neg c16] at H
              exact absurd H (by simp)
          · rw [if_neg c15] at H
            exact absurd H (by simp)
        · replace c14 := Bool.eq_false_iff.mpr c14
          subst c14
          have H1 : (none) = some r := by rw [if_neg (show ¬ (false = true) by decide)] at H; exact H
          clear H
          have H := H1
          clear H1
          exact absurd H (by simp)
      · replace c13 := Bool.eq_false_iff.mpr c13
        subst c13
        have H1 : (none) = some r := by rw [if_neg (show ¬ (false = true) by decide)] at H; exact H
        clear H
        have H := H1
        clear H1
        exact absurd H (by simp)

/-- THE ONE PURE STATEMENT of loesslaw02_RlpReads: yours. -/
def loesslaw02_RlpReads.Pure : Prop := ∀ (a0 : ByteArray), a0.size ≤ 140737488351232 → ∃ k, loesslaw02_RlpReads.f k a0 = some true
theorem loesslaw02_RlpReads.walk (P : loesslaw02_RlpReads.Pure) (a0 : ByteArray) (w : World) (w0 : a0.size ≤ 140737488351232) :
    Calls Try.prog 3 #[.string a0] w fun e w' => e = .returned (.bool true) ∧ Below w.heap.size w w' := by
  obtain ⟨k, h⟩ := P a0 w0
  refine (loesslaw02_RlpReads.calls k a0 true w h).mono ?_
  rintro e w' ⟨rfl, hd⟩
  exact ⟨rfl, hd⟩

end Go.Proofs.Ytkkammncpkgodaa.P
